import Derived.Test.YtdeihehaheelmaaQd
set_option linter.unusedVariables false
set_option linter.unusedSimpArgs false
namespace Go.Proofs.Ytdeihehaheelmaa
set_option maxHeartbeats 1000000
set_option maxRecDepth 100000
open Go.RowKit (Below)
private theorem c_16 : callable Try.prog 16 = true := by kernel_rfl
private theorem c_40 : callable Try.prog 40 = true := by kernel_rfl
private theorem c_41 : callable Try.prog 41 = true := by kernel_rfl
private theorem c_42 : callable Try.prog 42 = true := by kernel_rfl
private theorem c_53 : callable Try.prog 53 = true := by kernel_rfl
private theorem c_54 : callable Try.prog 54 = true := by kernel_rfl
private theorem c_62 : callable Try.prog 62 = true := by kernel_rfl
private theorem c_63 : callable Try.prog 63 = true := by kernel_rfl
private theorem c_66 : callable Try.prog 66 = true := by kernel_rfl
private theorem c_83 : callable Try.prog 83 = true := by kernel_rfl
private theorem c_88 : callable Try.prog 88 = true := by kernel_rfl
private theorem c_89 : callable Try.prog 89 = true := by kernel_rfl
private theorem mixedOrders : Try.prog.follows .mixedOrders = true := by kernel_rfl
private theorem tS_35 : tyS Try.prog 35 (some 3) = true := by kernel_rfl
private theorem tS_68 : tyS Try.prog 68 (some 2) = true := by kernel_rfl
private theorem z_35 : (Try.prog.info? 35).bind (·.zero) = some (.agg #[.bool false,.slice none 0 0,.slice none 0 0]) := by kernel_rfl
private theorem z_68 : (Try.prog.info? 68).bind (·.zero) = some (.agg #[.bool false,.slice none 0 0]) := by kernel_rfl
private theorem zs_35 : Shaped (some 3) (.agg #[.bool false,.slice none 0 0,.slice none 0 0]) := ⟨_,rfl,rfl,by simp [Value.oneCell']⟩
private theorem zs_68 : Shaped (some 2) (.agg #[.bool false,.slice none 0 0]) := ⟨_,rfl,rfl,by simp [Value.oneCell']⟩
theorem gMul_ok {n m : Nat} {x y : Rat} {v1 v2 : Value} {W0 : World} {G0 : Gh} (hok : Gok W0 G0) (h1 : (QV n x).t v1 G0) (h2 : (QV m y).t v2 G0) (hn : n + m ≤ BIG) : Calls Try.prog 65 #[v1,v2] W0 (Ret W0 G0 (QC (n + m) (x * y))) := by
 refine St.enter (N := 26) (L := [(1,QV m y),(0,QV n x)]) (args := [v1,v2]) Try.func65 rfl rfl rfl hok (enter2 h1 h2) fun a S => ?_
 refine wp_reg fun K hK => ?_
 refine S.boxop (x := .tmp 0) (τ := QV n x) (S.g 1 rfl) (sh (τ := QV n x) (S.g 1 rfl)) rfl rfl rfl rfl rfl fun b2 a w G S => ?_
 refine S.boxop (x := .tmp 1) (τ := QV m y) (S.g 1 rfl) (sh (τ := QV m y) (S.g 1 rfl)) rfl rfl rfl rfl rfl fun b3 a w G S => ?_
 refine S.alloc rfl rfl rfl z_35 zs_35 rfl rfl fun b4 a w G S => ?_
 refine wpList_nil (hK _ _ ?_);clear hK K
 replace S := S.d4.d3
 refine wp_reg fun K hK => ?_
 refine S.s (OpR.ldBox S.ok rfl (S.e 2 rfl) (S.box 2 rfl) tS_35) rfl fun a w G S => ?_
 refine S.s (τ := MT.tup2 (WC n x.num) (WC n ((x.den : Nat) : Int))) (OpR.call1 rfl c_41 (gParts_ok S.ok (S.g 0 rfl) (by omega))) rfl fun a w G S => ?_
 refine S.s (OpR.mv S.ok rfl (S.g 0 rfl)) rfl fun a w G S => ?_
 refine S.s (OpR.ext2a S.ok rfl (S.g 0 rfl)) rfl fun a w G S => ?_
 refine S.s (OpR.ext2b S.ok rfl (S.g 1 rfl)) rfl fun a w G S => ?_
 refine S.alloc rfl rfl rfl z_68 zs_68 rfl rfl fun b5 a w G S => ?_
 refine S.alloc rfl rfl rfl z_68 zs_68 rfl rfl fun b6 a w G S => ?_
 refine S.store (τ := WC n x.num) 1 rfl rfl rfl rfl (S.e 1 rfl) tS_68 (S.g 3 rfl) (sh (τ := WC n x.num) (S.g 3 rfl)) fun w S => ?_
 replace S := S.n1
 refine S.store (τ := WC n ((x.den : Nat) : Int)) 0 rfl rfl rfl rfl (S.e 0 rfl) tS_68 (S.g 2 rfl) (sh (τ := WC n ((x.den : Nat) : Int)) (S.g 2 rfl)) fun w S => ?_
 replace S := S.n0
 refine wpList_nil (hK _ _ ?_);clear hK K
 replace S := S.d9.d6.d5.d4.d3.d2
 refine wp_reg fun K hK => ?_
 refine S.s (OpR.ldBox S.ok rfl (S.e 3 rfl) (S.box 3 rfl) tS_35) rfl fun a w G S => ?_
 refine S.s (τ := MT.tup2 (WC m y.num) (WC m ((y.den : Nat) : Int))) (OpR.call1 rfl c_41 (gParts_ok S.ok (S.g 0 rfl) (by omega))) rfl fun a w G S => ?_
 refine S.s (OpR.mv S.ok rfl (S.g 0 rfl)) rfl fun a w G S => ?_
 refine S.s (OpR.ext2a S.ok rfl (S.g 0 rfl)) rfl fun a w G S => ?_
 refine S.s (OpR.ext2b S.ok rfl (S.g 1 rfl)) rfl fun a w G S => ?_
 refine S.alloc rfl rfl rfl z_68 zs_68 rfl rfl fun b7 a w G S => ?_
 refine S.alloc rfl rfl rfl z_68 zs_68 rfl rfl fun b8 a w G S => ?_
 refine S.store (τ := WC m y.num) 1 rfl rfl rfl rfl (S.e 1 rfl) tS_68 (S.g 3 rfl) (sh (τ := WC m y.num) (S.g 3 rfl)) fun w S => ?_
 replace S := S.n1
 refine S.store (τ := WC m ((y.den : Nat) : Int)) 0 rfl rfl rfl rfl (S.e 0 rfl) tS_68 (S.g 2 rfl) (sh (τ := WC m ((y.den : Nat) : Int)) (S.g 2 rfl)) fun w S => ?_
 replace S := S.n0
 refine wpList_nil (hK _ _ ?_);clear hK K
 replace S := S.d10.d6.d5.d4.d3.d2
 refine wp_seq_k fun K hK => ?_
 refine S.drawn [⟨19,.g (WC n x.num),[]⟩,⟨20,.g (WC m y.num),[]⟩,⟨21,.g (WC (n + m) ((x.num) * (y.num))),[0,1]⟩,⟨22,.g (WC n ((x.den : Nat) : Int)),[]⟩,⟨23,.g (WC m ((y.den : Nat) : Int)),[]⟩,⟨24,.g (WC (n + m) ((((x.den : Nat) : Int)) * (((y.den : Nat) : Int)))),[3,4]⟩,⟨25,.g (QC (max (n + m) (n + m)) (Rat.divInt ((x.num) * (y.num)) ((((x.den : Nat) : Int)) * (((y.den : Nat) : Int))))),[2,5]⟩] mixedOrders (by kernel_rfl)
  ⟨fun a w G S => .of rfl (OpR.ldBox S.ok rfl (S.e 3 rfl) (S.box 3 rfl) tS_68),
   fun a w G S => .of rfl (OpR.ldBox S.ok rfl (S.e 1 rfl) (S.box 1 rfl) tS_68),
   fun a w G S => .of rfl (OpR.call2 rfl c_89 (rMul_ok S.ok (WC.toW (S.g 0 rfl)) (WC.toW (S.g 1 rfl)) (by omega))),
   fun a w G S => .of rfl (OpR.ldBox S.ok rfl (S.e 2 rfl) (S.box 2 rfl) tS_68),
   fun a w G S => .of rfl (OpR.ldBox S.ok rfl (S.e 0 rfl) (S.box 0 rfl) tS_68),
   fun a w G S => .of rfl (OpR.call2 rfl c_89 (rMul_ok S.ok (WC.toW (S.g 0 rfl)) (WC.toW (S.g 1 rfl)) (by omega))),
   fun a w G S => .of rfl (OpR.call2 rfl c_53 (gform_ok S.ok (WC.toW (S.g 0 rfl)) (WC.toW (S.g 1 rfl)) (Int.mul_ne_zero (den_ne x) (den_ne y)) (by omega) (by omega))),trivial⟩ fun β a w G S => ?_
 replace S : St W0 G0 26 [(25,QC (max (n + m) (n + m)) (Rat.divInt ((x.num) * (y.num)) ((((x.den : Nat) : Int)) * (((y.den : Nat) : Int))))),(24,WC (n + m) ((((x.den : Nat) : Int)) * (((y.den : Nat) : Int)))),(23,WC m ((y.den : Nat) : Int)),(22,WC n ((x.den : Nat) : Int)),(21,WC (n + m) ((x.num) * (y.num))),(20,WC m y.num),(19,WC n x.num),(8,PB b8),(7,PB b7),(6,PB b6),(5,PB b5),(4,PB b4)] [⟨b8,68,some 2,WC m ((y.den : Nat) : Int)⟩,⟨b7,68,some 2,WC m y.num⟩,⟨b6,68,some 2,WC n ((x.den : Nat) : Int)⟩,⟨b5,68,some 2,WC n x.num⟩,⟨b4,35,some 3,MT.ex ((.agg #[.bool false,.slice none 0 0,.slice none 0 0] : Value))⟩,⟨b3,35,some 3,QV m y⟩,⟨b2,35,some 3,QV n x⟩] a _ _ := S
 refine S.store (τ := QC (max (n + m) (n + m)) (Rat.divInt ((x.num) * (y.num)) ((((x.den : Nat) : Int)) * (((y.den : Nat) : Int))))) 4 rfl rfl rfl rfl (S.e 11 rfl) tS_35 (S.g 0 rfl) (sh (τ := QC (max (n + m) (n + m)) (Rat.divInt ((x.num) * (y.num)) ((((x.den : Nat) : Int)) * (((y.den : Nat) : Int))))) (S.g 0 rfl)) fun w S => ?_
 replace S := S.n4
 refine wpList_nil (hK _ _ ?_);clear hK K
 replace S := S.d6.d5.d4.d3.d2.d1.d0
 exact wp_ret (S.retCell (i := 4) rfl (S.e 4 rfl) rfl tS_35 (fun _ h => (QC.eq (QC.up h (by omega)) frac_mul)))
theorem gAdd_ok {n m : Nat} {x y : Rat} {v1 v2 : Value} {W0 : World} {G0 : Gh} (hok : Gok W0 G0) (h1 : (QV n x).t v1 G0) (h2 : (QV m y).t v2 G0) (hn : n + m + 1 ≤ BIG) : Calls Try.prog 63 #[v1,v2] W0 (Ret W0 G0 (QC (n + m + 1) (x + y))) := by
 refine St.enter (N := 30) (L := [(1,QV m y),(0,QV n x)]) (args := [v1,v2]) Try.func63 rfl rfl rfl hok (enter2 h1 h2) fun a S => ?_
 refine wp_reg fun K hK => ?_
 refine S.boxop (x := .tmp 0) (τ := QV n x) (S.g 1 rfl) (sh (τ := QV n x) (S.g 1 rfl)) rfl rfl rfl rfl rfl fun b2 a w G S => ?_
 refine S.boxop (x := .tmp 1) (τ := QV m y) (S.g 1 rfl) (sh (τ := QV m y) (S.g 1 rfl)) rfl rfl rfl rfl rfl fun b3 a w G S => ?_
 refine S.alloc rfl rfl rfl z_35 zs_35 rfl rfl fun b4 a w G S => ?_
 refine wpList_nil (hK _ _ ?_);clear hK K
 replace S := S.d4.d3
 refine wp_reg fun K hK => ?_
 refine S.s (OpR.ldBox S.ok rfl (S.e 2 rfl) (S.box 2 rfl) tS_35) rfl fun a w G S => ?_
 refine S.s (τ := MT.tup2 (WC n x.num) (WC n ((x.den : Nat) : Int))) (OpR.call1 rfl c_41 (gParts_ok S.ok (S.g 0 rfl) (by omega))) rfl fun a w G S => ?_
 refine S.s (OpR.mv S.ok rfl (S.g 0 rfl)) rfl fun a w G S => ?_
 refine S.s (OpR.ext2a S.ok rfl (S.g 0 rfl)) rfl fun a w G S => ?_
 refine S.s (OpR.ext2b S.ok rfl (S.g 1 rfl)) rfl fun a w G S => ?_
 refine S.alloc rfl rfl rfl z_68 zs_68 rfl rfl fun b5 a w G S => ?_
 refine S.alloc rfl rfl rfl z_68 zs_68 rfl rfl fun b6 a w G S => ?_
 refine S.store (τ := WC n x.num) 1 rfl rfl rfl rfl (S.e 1 rfl) tS_68 (S.g 3 rfl) (sh (τ := WC n x.num) (S.g 3 rfl)) fun w S => ?_
 replace S := S.n1
 refine S.store (τ := WC n ((x.den : Nat) : Int)) 0 rfl rfl rfl rfl (S.e 0 rfl) tS_68 (S.g 2 rfl) (sh (τ := WC n ((x.den : Nat) : Int)) (S.g 2 rfl)) fun w S => ?_
 replace S := S.n0
 refine wpList_nil (hK _ _ ?_);clear hK K
 replace S := S.d9.d6.d5.d4.d3.d2
 refine wp_reg fun K hK => ?_
 refine S.s (OpR.ldBox S.ok rfl (S.e 3 rfl) (S.box 3 rfl) tS_35) rfl fun a w G S => ?_
 refine S.s (τ := MT.tup2 (WC m y.num) (WC m ((y.den : Nat) : Int))) (OpR.call1 rfl c_41 (gParts_ok S.ok (S.g 0 rfl) (by omega))) rfl fun a w G S => ?_
 refine S.s (OpR.mv S.ok rfl (S.g 0 rfl)) rfl fun a w G S => ?_
 refine S.s (OpR.ext2a S.ok rfl (S.g 0 rfl)) rfl fun a w G S => ?_
 refine S.s (OpR.ext2b S.ok rfl (S.g 1 rfl)) rfl fun a w G S => ?_
 refine S.alloc rfl rfl rfl z_68 zs_68 rfl rfl fun b7 a w G S => ?_
 refine S.alloc rfl rfl rfl z_68 zs_68 rfl rfl fun b8 a w G S => ?_
 refine S.store (τ := WC m y.num) 1 rfl rfl rfl rfl (S.e 1 rfl) tS_68 (S.g 3 rfl) (sh (τ := WC m y.num) (S.g 3 rfl)) fun w S => ?_
 replace S := S.n1
 refine S.store (τ := WC m ((y.den : Nat) : Int)) 0 rfl rfl rfl rfl (S.e 0 rfl) tS_68 (S.g 2 rfl) (sh (τ := WC m ((y.den : Nat) : Int)) (S.g 2 rfl)) fun w S => ?_
 replace S := S.n0
 refine wpList_nil (hK _ _ ?_);clear hK K
 replace S := S.d10.d6.d5.d4.d3.d2
 refine wp_seq_k fun K hK => ?_
 refine S.drawn [⟨19,.g (WC n x.num),[]⟩,⟨20,.g (WC m ((y.den : Nat) : Int)),[]⟩,⟨21,.g (WC (n + m) ((x.num) * (((y.den : Nat) : Int)))),[0,1]⟩,⟨22,.g (WC m y.num),[]⟩,⟨23,.g (WC n ((x.den : Nat) : Int)),[]⟩,⟨24,.g (WC (m + n) ((y.num) * (((x.den : Nat) : Int)))),[3,4]⟩,⟨25,.g (WC (max (n + m) (m + n) + 1) (((x.num) * (((y.den : Nat) : Int))) + ((y.num) * (((x.den : Nat) : Int))))),[2,5]⟩,⟨26,.g (WC n ((x.den : Nat) : Int)),[]⟩,⟨27,.g (WC m ((y.den : Nat) : Int)),[]⟩,⟨28,.g (WC (n + m) ((((x.den : Nat) : Int)) * (((y.den : Nat) : Int)))),[7,8]⟩,⟨29,.g (QC (max (max (n + m) (m + n) + 1) (n + m)) (Rat.divInt (((x.num) * (((y.den : Nat) : Int))) + ((y.num) * (((x.den : Nat) : Int)))) ((((x.den : Nat) : Int)) * (((y.den : Nat) : Int))))),[6,9]⟩] mixedOrders (by kernel_rfl)
  ⟨fun a w G S => .of rfl (OpR.ldBox S.ok rfl (S.e 3 rfl) (S.box 3 rfl) tS_68),
   fun a w G S => .of rfl (OpR.ldBox S.ok rfl (S.e 0 rfl) (S.box 0 rfl) tS_68),
   fun a w G S => .of rfl (OpR.call2 rfl c_89 (rMul_ok S.ok (WC.toW (S.g 0 rfl)) (WC.toW (S.g 1 rfl)) (by omega))),
   fun a w G S => .of rfl (OpR.ldBox S.ok rfl (S.e 1 rfl) (S.box 1 rfl) tS_68),
   fun a w G S => .of rfl (OpR.ldBox S.ok rfl (S.e 2 rfl) (S.box 2 rfl) tS_68),
   fun a w G S => .of rfl (OpR.call2 rfl c_89 (rMul_ok S.ok (WC.toW (S.g 0 rfl)) (WC.toW (S.g 1 rfl)) (by omega))),
   fun a w G S => .of rfl (OpR.call2 rfl c_88 (rAdd_ok S.ok (WC.toW (S.g 0 rfl)) (WC.toW (S.g 1 rfl)) (by omega) (by omega))),
   fun a w G S => .of rfl (OpR.ldBox S.ok rfl (S.e 2 rfl) (S.box 2 rfl) tS_68),
   fun a w G S => .of rfl (OpR.ldBox S.ok rfl (S.e 0 rfl) (S.box 0 rfl) tS_68),
   fun a w G S => .of rfl (OpR.call2 rfl c_89 (rMul_ok S.ok (WC.toW (S.g 0 rfl)) (WC.toW (S.g 1 rfl)) (by omega))),
   fun a w G S => .of rfl (OpR.call2 rfl c_53 (gform_ok S.ok (WC.toW (S.g 0 rfl)) (WC.toW (S.g 1 rfl)) (Int.mul_ne_zero (den_ne x) (den_ne y)) (by omega) (by omega))),trivial⟩ fun β a w G S => ?_
 replace S : St W0 G0 30 [(29,QC (max (max (n + m) (m + n) + 1) (n + m)) (Rat.divInt (((x.num) * (((y.den : Nat) : Int))) + ((y.num) * (((x.den : Nat) : Int)))) ((((x.den : Nat) : Int)) * (((y.den : Nat) : Int))))),(28,WC (n + m) ((((x.den : Nat) : Int)) * (((y.den : Nat) : Int)))),(27,WC m ((y.den : Nat) : Int)),(26,WC n ((x.den : Nat) : Int)),(25,WC (max (n + m) (m + n) + 1) (((x.num) * (((y.den : Nat) : Int))) + ((y.num) * (((x.den : Nat) : Int))))),(24,WC (m + n) ((y.num) * (((x.den : Nat) : Int)))),(23,WC n ((x.den : Nat) : Int)),(22,WC m y.num),(21,WC (n + m) ((x.num) * (((y.den : Nat) : Int)))),(20,WC m ((y.den : Nat) : Int)),(19,WC n x.num),(8,PB b8),(7,PB b7),(6,PB b6),(5,PB b5),(4,PB b4)] [⟨b8,68,some 2,WC m ((y.den : Nat) : Int)⟩,⟨b7,68,some 2,WC m y.num⟩,⟨b6,68,some 2,WC n ((x.den : Nat) : Int)⟩,⟨b5,68,some 2,WC n x.num⟩,⟨b4,35,some 3,MT.ex ((.agg #[.bool false,.slice none 0 0,.slice none 0 0] : Value))⟩,⟨b3,35,some 3,QV m y⟩,⟨b2,35,some 3,QV n x⟩] a _ _ := S
 refine S.store (τ := QC (max (max (n + m) (m + n) + 1) (n + m)) (Rat.divInt (((x.num) * (((y.den : Nat) : Int))) + ((y.num) * (((x.den : Nat) : Int)))) ((((x.den : Nat) : Int)) * (((y.den : Nat) : Int))))) 4 rfl rfl rfl rfl (S.e 15 rfl) tS_35 (S.g 0 rfl) (sh (τ := QC (max (max (n + m) (m + n) + 1) (n + m)) (Rat.divInt (((x.num) * (((y.den : Nat) : Int))) + ((y.num) * (((x.den : Nat) : Int)))) ((((x.den : Nat) : Int)) * (((y.den : Nat) : Int))))) (S.g 0 rfl)) fun w S => ?_
 replace S := S.n4
 refine wpList_nil (hK _ _ ?_);clear hK K
 replace S := S.d10.d9.d8.d7.d6.d5.d4.d3.d2.d1.d0
 exact wp_ret (S.retCell (i := 4) rfl (S.e 4 rfl) rfl tS_35 (fun _ h => (QC.eq (QC.up h (by omega)) frac_add)))
theorem gNeg_ok {n : Nat} {x : Rat} {v1 : Value} {W0 : World} {G0 : Gh} (hok : Gok W0 G0) (h1 : (QV n x).t v1 G0) (hn : n ≤ BIG) : Calls Try.prog 66 #[v1] W0 (Ret W0 G0 (QC n (-x))) := by
 refine St.enter (N := 14) (L := [(0,QV n x)]) (args := [v1]) Try.func66 rfl rfl rfl hok (enter1 h1) fun a S => ?_
 refine wp_reg fun K hK => ?_
 refine S.boxop (x := .tmp 0) (τ := QV n x) (S.g 0 rfl) (sh (τ := QV n x) (S.g 0 rfl)) rfl rfl rfl rfl rfl fun b1 a w G S => ?_
 refine S.alloc rfl rfl rfl z_35 zs_35 rfl rfl fun b2 a w G S => ?_
 refine wpList_nil (hK _ _ ?_);clear hK K
 replace S := S.d2
 refine wp_reg fun K hK => ?_
 refine S.s (OpR.ldBox S.ok rfl (S.e 1 rfl) (S.box 1 rfl) tS_35) rfl fun a w G S => ?_
 refine S.s (τ := MT.tup2 (WC n x.num) (WC n ((x.den : Nat) : Int))) (OpR.call1 rfl c_41 (gParts_ok S.ok (S.g 0 rfl) (by omega))) rfl fun a w G S => ?_
 refine S.s (OpR.mv S.ok rfl (S.g 0 rfl)) rfl fun a w G S => ?_
 refine S.s (OpR.ext2a S.ok rfl (S.g 0 rfl)) rfl fun a w G S => ?_
 refine S.s (OpR.ext2b S.ok rfl (S.g 1 rfl)) rfl fun a w G S => ?_
 refine S.alloc rfl rfl rfl z_68 zs_68 rfl rfl fun b3 a w G S => ?_
 refine S.alloc rfl rfl rfl z_68 zs_68 rfl rfl fun b4 a w G S => ?_
 refine S.store (τ := WC n x.num) 1 rfl rfl rfl rfl (S.e 1 rfl) tS_68 (S.g 3 rfl) (sh (τ := WC n x.num) (S.g 3 rfl)) fun w S => ?_
 replace S := S.n1
 refine S.store (τ := WC n ((x.den : Nat) : Int)) 0 rfl rfl rfl rfl (S.e 0 rfl) tS_68 (S.g 2 rfl) (sh (τ := WC n ((x.den : Nat) : Int)) (S.g 2 rfl)) fun w S => ?_
 replace S := S.n0
 refine wpList_nil (hK _ _ ?_);clear hK K
 replace S := S.d8.d6.d5.d4.d3.d2
 refine wp_seq_k fun K hK => ?_
 refine S.drawn [⟨10,.g (WC n x.num),[]⟩,⟨11,.g (WC n (-(x.num))),[0]⟩,⟨12,.g (WC n ((x.den : Nat) : Int)),[]⟩,⟨13,.g (QC (max n n) (Rat.divInt (-(x.num)) (((x.den : Nat) : Int)))),[1,2]⟩] mixedOrders (by kernel_rfl)
  ⟨fun a w G S => .of rfl (OpR.ldBox S.ok rfl (S.e 1 rfl) (S.box 1 rfl) tS_68),
   fun a w G S => .of rfl (OpR.call1 rfl c_83 (rNeg_ok S.ok (WC.toW (S.g 0 rfl)))),
   fun a w G S => .of rfl (OpR.ldBox S.ok rfl (S.e 0 rfl) (S.box 0 rfl) tS_68),
   fun a w G S => .of rfl (OpR.call2 rfl c_53 (gform_ok S.ok (WC.toW (S.g 0 rfl)) (WC.toW (S.g 1 rfl)) (den_ne x) (by omega) (by omega))),trivial⟩ fun β a w G S => ?_
 replace S : St W0 G0 14 [(13,QC (max n n) (Rat.divInt (-(x.num)) (((x.den : Nat) : Int)))),(12,WC n ((x.den : Nat) : Int)),(11,WC n (-(x.num))),(10,WC n x.num),(4,PB b4),(3,PB b3),(2,PB b2)] [⟨b4,68,some 2,WC n ((x.den : Nat) : Int)⟩,⟨b3,68,some 2,WC n x.num⟩,⟨b2,35,some 3,MT.ex ((.agg #[.bool false,.slice none 0 0,.slice none 0 0] : Value))⟩,⟨b1,35,some 3,QV n x⟩] a _ _ := S
 refine S.store (τ := QC (max n n) (Rat.divInt (-(x.num)) (((x.den : Nat) : Int)))) 2 rfl rfl rfl rfl (S.e 6 rfl) tS_35 (S.g 0 rfl) (sh (τ := QC (max n n) (Rat.divInt (-(x.num)) (((x.den : Nat) : Int)))) (S.g 0 rfl)) fun w S => ?_
 replace S := S.n2
 refine wpList_nil (hK _ _ ?_);clear hK K
 replace S := S.d3.d2.d1.d0
 exact wp_ret (S.retCell (i := 2) rfl (S.e 2 rfl) rfl tS_35 (fun _ h => (QC.eq (QC.up h (by omega)) frac_neg')))
theorem gSub_ok {n m : Nat} {x y : Rat} {v1 v2 : Value} {W0 : World} {G0 : Gh} (hok : Gok W0 G0) (h1 : (QV n x).t v1 G0) (h2 : (QV m y).t v2 G0) (hn : n + m + 1 ≤ BIG) : Calls Try.prog 62 #[v1,v2] W0 (Ret W0 G0 (QC (n + m + 1) (x - y))) := by
 refine St.enter (N := 9) (L := [(1,QV m y),(0,QV n x)]) (args := [v1,v2]) Try.func62 rfl rfl rfl hok (enter2 h1 h2) fun a S => ?_
 refine wp_reg fun K hK => ?_
 refine S.boxop (x := .tmp 0) (τ := QV n x) (S.g 1 rfl) (sh (τ := QV n x) (S.g 1 rfl)) rfl rfl rfl rfl rfl fun b2 a w G S => ?_
 refine S.boxop (x := .tmp 1) (τ := QV m y) (S.g 1 rfl) (sh (τ := QV m y) (S.g 1 rfl)) rfl rfl rfl rfl rfl fun b3 a w G S => ?_
 refine S.alloc rfl rfl rfl z_35 zs_35 rfl rfl fun b4 a w G S => ?_
 refine wpList_nil (hK _ _ ?_);clear hK K
 replace S := S.d4.d3
 refine wp_seq_k fun K hK => ?_
 refine S.drawn [⟨5,.g (QV n x),[]⟩,⟨6,.g (QV m y),[]⟩,⟨7,.g (QC m (-y)),[1]⟩,⟨8,.g (QC (n + m + 1) (x + (-y))),[0,2]⟩] mixedOrders (by kernel_rfl)
  ⟨fun a w G S => .of rfl (OpR.ldBox S.ok rfl (S.e 2 rfl) (S.box 2 rfl) tS_35),
   fun a w G S => .of rfl (OpR.ldBox S.ok rfl (S.e 1 rfl) (S.box 1 rfl) tS_35),
   fun a w G S => .of rfl (OpR.call1 rfl c_66 (gNeg_ok S.ok (S.g 0 rfl) (by omega))),
   fun a w G S => .of rfl (OpR.call2 rfl c_63 (gAdd_ok S.ok (S.g 0 rfl) (QC.toQV (S.g 1 rfl)) (by omega))),trivial⟩ fun β a w G S => ?_
 replace S : St W0 G0 9 [(8,QC (n + m + 1) (x + (-y))),(7,QC m (-y)),(6,QV m y),(5,QV n x),(4,PB b4),(3,PB b3),(2,PB b2)] [⟨b4,35,some 3,MT.ex ((.agg #[.bool false,.slice none 0 0,.slice none 0 0] : Value))⟩,⟨b3,35,some 3,QV m y⟩,⟨b2,35,some 3,QV n x⟩] a _ _ := S
 refine S.store (τ := QC (n + m + 1) (x + (-y))) 0 rfl rfl rfl rfl (S.e 4 rfl) tS_35 (S.g 0 rfl) (sh (τ := QC (n + m + 1) (x + (-y))) (S.g 0 rfl)) fun w S => ?_
 replace S := S.n0
 refine wpList_nil (hK _ _ ?_);clear hK K
 replace S := S.d6.d5.d3.d2.d1.d0
 exact wp_ret (S.retCell (i := 0) rfl (S.e 0 rfl) rfl tS_35 (fun _ h => (QC.eq h (Rat.sub_eq_add_neg x y).symm)))
theorem gSign_ok {n : Nat} {x : Rat} {v1 : Value} {W0 : World} {G0 : Gh} (hok : Gok W0 G0) (h1 : (QV n x).t v1 G0) (hn : n ≤ BIG) : Calls Try.prog 16 #[v1] W0 (Ret W0 G0 (IT x.num.sign)) := by
 refine St.enter (N := 12) (L := [(0,QV n x)]) (args := [v1]) Try.func16 rfl rfl rfl hok (enter1 h1) fun a S => ?_
 refine wp_reg fun K hK => ?_
 refine S.boxop (x := .tmp 0) (τ := QV n x) (S.g 0 rfl) (sh (τ := QV n x) (S.g 0 rfl)) rfl rfl rfl rfl rfl fun b1 a w G S => ?_
 refine S.s (τ := NT 0) (OpR.asn S.ok rfl (rfl : _ = nv .i64 0)) rfl fun a w G S => ?_
 refine wpList_nil (hK _ _ ?_);clear hK K
 replace S := S.d2
 refine wp_reg fun K hK => ?_
 refine S.s (OpR.ldBox S.ok rfl (S.e 1 rfl) (S.box 0 rfl) tS_35) rfl fun a w G S => ?_
 refine S.s (τ := MT.tup2 (WC n x.num) (WC n ((x.den : Nat) : Int))) (OpR.call1 rfl c_41 (gParts_ok S.ok (S.g 0 rfl) (by omega))) rfl fun a w G S => ?_
 refine S.s (OpR.mv S.ok rfl (S.g 0 rfl)) rfl fun a w G S => ?_
 refine S.s (OpR.ext2a S.ok rfl (S.g 0 rfl)) rfl fun a w G S => ?_
 refine S.s (OpR.ext2b S.ok rfl (S.g 1 rfl)) rfl fun a w G S => ?_
 refine S.alloc rfl rfl rfl z_68 zs_68 rfl rfl fun b3 a w G S => ?_
 refine S.alloc rfl rfl rfl z_68 zs_68 rfl rfl fun b4 a w G S => ?_
 refine S.store (τ := WC n x.num) 1 rfl rfl rfl rfl (S.e 1 rfl) tS_68 (S.g 3 rfl) (sh (τ := WC n x.num) (S.g 3 rfl)) fun w S => ?_
 replace S := S.n1
 refine S.store (τ := WC n ((x.den : Nat) : Int)) 0 rfl rfl rfl rfl (S.e 0 rfl) tS_68 (S.g 2 rfl) (sh (τ := WC n ((x.den : Nat) : Int)) (S.g 2 rfl)) fun w S => ?_
 replace S := S.n0
 refine wpList_nil (hK _ _ ?_);clear hK K
 replace S := S.d8.d6.d5.d4.d3.d2.d0
 refine wp_reg fun K hK => ?_
 refine S.s (OpR.ldBox S.ok rfl (S.e 0 rfl) (S.box 1 rfl) tS_68) rfl fun a w G S => ?_
 refine S.s (τ := IT ((x.num).sign)) (OpR.call1 rfl c_42 (rSign_ok S.ok (WC.toW (S.g 0 rfl)))) rfl fun a w G S => ?_
 replace S := S.d3
 refine S.s (OpR.asn S.ok rfl (S.g 0 rfl)) rfl fun a w G S => ?_
 refine wpList_nil (hK _ _ ?_);clear hK K
 replace S := S.d2.d1
 exact wp_ret (S.retTmp rfl ((S.e 0 rfl).trans (iv_eq (by first | rfl | omega | (simp only [Nat.zero_add,Nat.add_zero];done) | (simp;done) | (push_cast;omega)))))
theorem gOf_ok {z : Int} {v1 : Value} {W0 : World} {G0 : Gh} (hok : Gok W0 G0) (h1 : (IT z).t v1 G0) (hz : -9223372036854775808 ≤ z ∧ z ≤ 9223372036854775807) : Calls Try.prog 32 #[v1] W0 (Ret W0 G0 (QC 64 (z : Rat))) := by
 have hB : 64 ≤ BIG := by decide
 refine St.enter (N := 7) (L := [(0,IT z)]) (args := [v1]) Try.func32 rfl rfl rfl hok (enter1 h1) fun a S => ?_
 refine wp_reg fun K hK => ?_
 refine S.alloc rfl rfl rfl z_35 zs_35 rfl rfl fun b2 a w G S => ?_
 refine wpList_nil (hK _ _ ?_);clear hK K
 refine wp_reg fun K hK => ?_
 refine S.s (OpR.mv S.ok rfl (S.g 1 rfl)) rfl fun a w G S => ?_
 refine S.s (τ := WC 64 z) (OpR.call1 rfl c_54 (rOf_ok S.ok (S.g 0 rfl) (by omega))) rfl fun a w G S => ?_
 refine S.s (τ := WC 64 1) (OpR.call0 rfl c_40 (rone_ok S.ok )) rfl fun a w G S => ?_
 refine S.s (τ := QC (max 64 64) (Rat.divInt z 1)) (OpR.call2 rfl c_53 (gform_ok S.ok (WC.toW (S.g 1 rfl)) (WC.toW (S.g 0 rfl)) (by decide) hB hB)) rfl fun a w G S => ?_
 refine S.store (τ := QC (max 64 64) (Rat.divInt z 1)) 0 rfl rfl rfl rfl (S.e 4 rfl) tS_35 (S.g 0 rfl) (sh (τ := QC (max 64 64) (Rat.divInt z 1)) (S.g 0 rfl)) fun w S => ?_
 replace S := S.n0
 refine wpList_nil (hK _ _ ?_);clear hK K
 replace S := S.d5.d3.d2.d1.d0
 exact wp_ret (S.retCell (i := 0) rfl (S.e 0 rfl) rfl tS_35 (fun _ h => (QC.eq (QC.up h (by omega)) frac_one)))
theorem gCmp_ok {n m : Nat} {x y : Rat} {v1 v2 : Value} {W0 : World} {G0 : Gh} (hok : Gok W0 G0) (h1 : (QV n x).t v1 G0) (h2 : (QV m y).t v2 G0) (hn : n + m + 1 ≤ BIG) : Calls Try.prog 109 #[v1,v2] W0 (Ret W0 G0 (IT (cmpQ x y))) := by
 refine St.enter (N := 9) (L := [(1,QV m y),(0,QV n x)]) (args := [v1,v2]) Try.func109 rfl rfl rfl hok (enter2 h1 h2) fun a S => ?_
 refine wp_reg fun K hK => ?_
 refine S.boxop (x := .tmp 0) (τ := QV n x) (S.g 1 rfl) (sh (τ := QV n x) (S.g 1 rfl)) rfl rfl rfl rfl rfl fun b2 a w G S => ?_
 refine S.boxop (x := .tmp 1) (τ := QV m y) (S.g 1 rfl) (sh (τ := QV m y) (S.g 1 rfl)) rfl rfl rfl rfl rfl fun b3 a w G S => ?_
 refine S.s (τ := NT 0) (OpR.asn S.ok rfl (rfl : _ = nv .i64 0)) rfl fun a w G S => ?_
 refine wpList_nil (hK _ _ ?_);clear hK K
 replace S := S.d4.d3
 refine wp_reg fun K hK => ?_
 refine S.s (OpR.ldBox S.ok rfl (S.e 2 rfl) (S.box 1 rfl) tS_35) rfl fun a w G S => ?_
 refine S.s (OpR.ldBox S.ok rfl (S.e 2 rfl) (S.box 0 rfl) tS_35) rfl fun a w G S => ?_
 refine S.s (τ := QC (n + m + 1) (x - y)) (OpR.call2 rfl c_62 (gSub_ok S.ok (S.g 1 rfl) (S.g 0 rfl) (by omega))) rfl fun a w G S => ?_
 refine S.s (τ := IT ((x - y).num.sign)) (OpR.call1 rfl c_16 (gSign_ok S.ok (QC.toQV (S.g 0 rfl)) (by omega))) rfl fun a w G S => ?_
 replace S := S.d4
 refine S.s (OpR.asn S.ok rfl (S.g 0 rfl)) rfl fun a w G S => ?_
 refine wpList_nil (hK _ _ ?_);clear hK K
 replace S := S.d6.d5.d4.d3.d2.d1
 exact wp_ret (S.retTmp rfl ((S.e 0 rfl).trans (iv_eq rcmp_sub)))
end Go.Proofs.Ytdeihehaheelmaa
namespace Go.Proofs.Ytdeihehaheelmaa
open Go.RowKit (Below)
structure FR where
  s : Bool
  p : List Nat
  q : List Nat
instance : Inhabited FR := ⟨⟨false, [], []⟩⟩
def FR.ok (r : FR) : Bool := qok r.s r.p r.q
def FR.val (r : FR) : Rat := qval r.s r.p r.q
def FX (n : Nat) (r : FR) : MT := ⟨fun v G => 1 ≤ n ∧ Go.Proofs.Ytdeihehaheelmaa.val r.p < 2 ^ n ∧ Go.Proofs.Ytdeihehaheelmaa.val r.q < 2 ^ n ∧ (QR r.s r.p r.q).t v G, fun hle ⟨h, h1, h2, h3⟩ => ⟨h, h1, h2, (QR _ _ _).mono hle h3⟩⟩
instance {n : Nat} {r : FR} : Shp (FX n r) (some 3) := ⟨fun {_ _} ⟨_, _, _, h⟩ => Shp.sh h⟩
section
variable {n m : Nat} {r : FR} {x y : Rat} {v : Value} {G : Gh}
theorem FX.toQV (h : (FX n r).t v G) : (QV n r.val).t v G := by obtain ⟨h1, h2, h3, h4⟩ := h; exact ⟨h1, _, _, _, rfl, h2, h3, h4⟩
theorem FX.up (h : (FX n r).t v G) (hn : n ≤ m) : (FX m r).t v G := by
  obtain ⟨h1, h2, h3, h4⟩ := h
  have := Nat.pow_le_pow_right (show 0 < 2 by decide) hn
  exact ⟨by omega, by omega, by omega, h4⟩
theorem FX.eq {r' : FR} (h : (FX n r).t v G) (e : r = r') : (FX n r').t v G := e ▸ h
theorem FX.qr (h : (FX n r).t v G) : (QR r.s r.p r.q).t v G := h.2.2.2
theorem FX.f0 {k : Option Nat} (h : (FX n r).t v G) (hs : Shaped k v) : ∃ u, v.cells[0]? = some u ∧ (MT.ex (.bool r.s)).t u G := QR.f0 (FX.qr h) hs
theorem FX.f1 {k : Option Nat} (h : (FX n r).t v G) (hs : Shaped k v) : ∃ u, v.cells[1]? = some u ∧ (SL r.p).t u G := QR.f1 (FX.qr h) hs
theorem FX.f2 {k : Option Nat} (h : (FX n r).t v G) (hs : Shaped k v) : ∃ u, v.cells[2]? = some u ∧ (SL r.q).t u G := QR.f2 (FX.qr h) hs
def FR.of (x : Rat) : FR := ⟨decide (x < 0), words x.num.natAbs, dwords x⟩
theorem QC.toFX (h : (QC n x).t v G) (hn : 1 ≤ n) : (FX n (FR.of x)).t v G := by
  refine ⟨hn, ?_, ?_, h.2⟩
  · show Go.Proofs.Ytdeihehaheelmaa.val (words _) < _; rw [val_words]; exact h.1.1
  · show Go.Proofs.Ytdeihehaheelmaa.val (dwords x) < _
    unfold dwords; split
    · exact Nat.pow_pos (by decide)
    · rw [val_words]; exact h.1.2
theorem QR.toFX {s : Bool} {p q : List Nat} (h : (QR s p q).t v G) (h0 : p = [] ∧ q = []) (hn : 1 ≤ n) : (FX n ⟨s, p, q⟩).t v G := by
  obtain ⟨rfl, rfl⟩ := h0
  exact ⟨hn, Nat.pow_pos (by decide), Nat.pow_pos (by decide), h⟩
theorem QR.zQV (h : (QR false [] []).t v G) (hn : 1 ≤ n) : (QV n 0).t v G := ⟨hn, false, [], [], by simp [qval], Nat.pow_pos (by decide), Nat.pow_pos (by decide), h⟩
theorem FR.of_val (x : Rat) : (FR.of x).val = x := by
  show qval _ _ _ = x
  exact qval_can x
theorem FR.of_ok (x : Rat) : (FR.of x).ok = true := qok_can x
theorem zero_QV (hn : 1 ≤ n) : (QV n 0).t (.agg #[.bool false, .slice none 0 0, .slice none 0 0]) G := QR.zQV ⟨_, _, rfl, SL.nil, SL.nil⟩ hn
theorem zero_FX (hn : 1 ≤ n) : (FX n default).t (.agg #[.bool false, .slice none 0 0, .slice none 0 0]) G := ⟨hn, Nat.pow_pos (by decide), Nat.pow_pos (by decide), _, _, rfl, SL.nil, SL.nil⟩
end
theorem LS.conv {k : Option Nat} {τs σs : List MT} {v : Value} {G : Gh} (h : (LS k τs).t v G) (hl : σs.length = τs.length) (hc : ∀ (i : Nat) (τ σ : MT), τs[i]? = some τ → σs[i]? = some σ → ∀ v G, τ.t v G → σ.t v G) : (LS k σs).t v G := by
  obtain ⟨A, c, us, hx, h1, h2, h3, h4⟩ := LS.vals h
  refine LS.of_vals (by rw [hl]; exact hx) (by omega) (by omega) ⟨by rw [h3.1, hl], fun i σ u hs hu => ?_⟩ h4
  have hlt := (List.getElem?_eq_some_iff.1 hs).1
  have hτ : τs[i]? = some (τs[i]'(by omega)) := by simp
  obtain ⟨a1, a2⟩ := h3.2 i _ u hτ hu
  exact ⟨a1, hc i _ σ hτ hs u G a2⟩
theorem LS.convM {α β : Type} {T : α → MT} {U : β → MT} {f : α → β} {xs : List α} {ys : List β} {k : Option Nat} {v : Value} {G : Gh} (h : (LS k (xs.map T)).t v G) (e : ys = xs.map f) (hc : ∀ x, x ∈ xs → ∀ v G, (T x).t v G → (U (f x)).t v G) : (LS k (ys.map U)).t v G := by
  subst e
  refine LS.conv h (by simp) fun i τ σ h1 h2 => ?_
  rw [List.getElem?_map] at h1 h2
  rw [List.getElem?_map] at h2
  cases hx : xs[i]? with
  | none => rw [hx] at h1; cases h1
  | some x => rw [hx] at h1 h2; cases h1; cases h2; exact hc x (List.mem_of_getElem? hx)
theorem LS.eqM {α : Type} {T : α → MT} {xs ys : List α} {k : Option Nat} {v : Value} {G : Gh} (h : (LS k (xs.map T)).t v G) (e : xs = ys) : (LS k (ys.map T)).t v G := e ▸ h
theorem LS.nilM {α : Type} {T : α → MT} {xs : List α} {k : Option Nat} {v : Value} {G : Gh} (h : v = .slice none 0 0) (e : xs = []) : (LS k (xs.map T)).t v G := by subst h; subst e; exact LS.nil
theorem LS.lenM {α : Type} {T : α → MT} {xs : List α} {k : Option Nat} {v : Value} {G : Gh} (h : (LS k (xs.map T)).t v G) : xs.length ≤ LIM := by
  obtain ⟨_, _, _, _, _, h2, _⟩ := LS.vals h; rwa [List.length_map] at h2
theorem ROWS.eqM {α : Type} {T : α → MT} {xs ys : List α} {k : Option Nat} {v : Value} {G : Gh} (h : (ROWS k (xs.map T)).t v G) (e : xs = ys) : (ROWS k (ys.map T)).t v G := e ▸ h
theorem ROWS.slM {α : Type} {T : α → MT} {xs : List α} {k : Option Nat} {v u : Value} {G : Gh} {b n c : Nat} {ty : TypeId} (h : (ROWS k (xs.map T)).t u G) (hg : G b = some (.cells u.cells ty (0, 0))) (hn : n = xs.length) (hc : n ≤ c) (hlim : n ≤ LIM) (hv : v = .slice (some ⟨b, 0, none⟩) n c) : (LS k (xs.map T)).t v G := ROWS.sl h hg (by rw [List.length_map]; exact hn) hc hlim hv
section
variable {P : Program} {o : Oper} {a : Act} {w : World} {G : Gh} {τ : MT}
theorem OpR.tass {x : Operand} {t0 t : TypeId} {n : Int} {k : IntKind} (hok : Gok w G) (ho : o.op = .typeAssert x t0 t true) (hx : a.eval x = errV t n) (hn : n ≠ 0) (hi : P.underlying t = some (.int k)) (h : τ.t (.tuple #[.int .i64 n, .bool true]) G) : OpR P o a w G τ := by
  refine .run hok (v := .tuple #[.int .i64 n, .bool true]) ?_ h
  rw [errV, if_neg hn] at hx
  simp [execOp, ho, hx, Instr.typeAssert, run_underlying hi]
theorem St.buildO {W0 : World} {G0 : Gh} {N : Nat} {L : List (Nat × MT)} {B : List BX} {ops : Array Oper} {rest : List Oper} {Q : Exit → Act → World → Prop} {k : Option Nat} {e : TypeId} {τs : List MT} (S : St W0 G0 N L B a w G) {d t bytes n : Nat} {z : Value} {ps : Array (Nat × Operand)} {us : List Value} (ho : o.op = .buildSlice t n ps) (hd : o.dst = some d) (hg : o.guard = none) (ht : P.underlying t = some (.slice e)) (he : elS P e (k.getD 1) bytes z) (hk : (decide (0 < k.getD 1)) = true) (hn : n * k.getD 1 ≤ 16777216) (hn0 : 0 < n)
    (hps : (ps.map fun (i, x) => (i, a.eval x)).toList = (us.zipIdx 0).map fun x => (x.2, x.1)) (hl : us.length = n) (hE : Els k τs us G) (hdN : (decide (d < N)) = true) (hf : fresh d L = true)
    (K : ∀ b a' w' G', St W0 G0 N ((d, .ex (.slice (some ⟨b, 0, none⟩) n n)) :: L) (⟨b, e, some (n * k.getD 1), ROWS k τs⟩ :: B) a' w' G' → wpList P ops Q rest a' w') : wpList P ops Q (o :: rest) a w :=
  wpList_plain hg fun K' hK => by
    obtain ⟨i, hi, h1, h2, h3⟩ := elS_of he
    have hk := of_decide_eq_true hk
    have hsz := hE.sizes
    have hfill := Great.fill_whole (s := k.getD 1) hk us ((Array.range (n * i.size)).map (z.cells[· % z.cells.size]!)) hsz (by simp [hl, h1])
    rw [← h1] at hfill
    have hps2 : (ps.map fun (i, x) => (i, a.eval x)) = ((us.zipIdx 0).map fun x => (x.2, x.1)).toArray := by rw [← hps]
    have hb := run_buildSlice (P := P) w t e n ((us.zipIdx 0).map fun x => (x.2, x.1)).toArray (us.flatMap fun v => v.cells.toList).toArray i z ht hi h3 (by rw [h1]; omega) (by rw [h1]; have := Nat.mul_pos hn0 hk; omega) (by simpa using hfill)
    have hr : (execOp a.eval o).run P w = .ok (.value (.slice (some ⟨w.heap.size, 0, none⟩) n n)) (w.alloc (.cells (flat us ++ []).toArray e)) := by
      rw [List.append_nil]
      simp only [execOp, ho, Sem.run_bind, hps2]
      rw [hb]; rfl
    unfold Oper.wp
    rw [hr]
    simp only [Oper.upon, hd]
    have hsh : Shaped (some (n * k.getD 1)) (.agg (flat us ++ []).toArray) := Shp.rows hE (fun x hx => by simp at hx) (by rw [List.append_nil, flat_len hsz, hl])
    have S' := (S.newVar (v := .agg (flat us ++ []).toArray) (t := e) (k := some (n * k.getD 1)) (τ := ROWS k τs) hsh ⟨_, _, rfl, hE⟩).put (v := .slice (some ⟨w.heap.size, 0, none⟩) n n) (of_decide_eq_true hdN) hf (τ := .ex (.slice (some ⟨w.heap.size, 0, none⟩) n n)) rfl (Nxt.refl (S.ok.alloc _))
    exact hK _ _ (K w.heap.size _ _ G S')
theorem elem_storeS {k : Option Nat} {α : Type} {T : α → MT} {xs : List α} {t ty : TypeId} {x y : Operand} {b i n : Nat} {z : α} {v0 : Value} (ho : o.op = .store t x y) (hd : o.dst = none) (hx : a.eval x = .pointer (some ⟨b, i * k.getD 1, none⟩)) (hT : tyS P t k = true) (hy : (T z).t (a.eval y) G) (hs : Shaped k (a.eval y)) (hlt : i < xs.length)
    (hv : w.heap[b]? = some (.cells v0.cells ty (0, 0))) (hs0 : Shaped (some n) v0) (h0 : (ROWS k (xs.map T)).t v0 G) : ∃ v1, Shaped (some n) v1 ∧ (ROWS k ((xs.set i z).map T)).t v1 G ∧ ∀ (Q : Exit → Act → World → Prop) (K : Act → World → Prop), K a (w.setRow b v1.cells) → o.wp P a w K Q := by
  obtain ⟨us, r, rfl, hE⟩ := h0
  obtain ⟨cs', e1, hszc, hone⟩ := cells_one hs0
  injection e1 with e1
  have htot : (flat us ++ r).length = n := by rw [← hszc, ← e1]; simp
  have hul : us.length = xs.length := by rw [hE.1, List.length_map]
  have hlu : i < us.length := by omega
  have hfl : i * k.getD 1 + k.getD 1 ≤ (flat us).length := by
    rw [flat_len hE.sizes, ← Nat.succ_mul]; exact Nat.mul_le_mul_right _ hlu
  have hEl : Els k ((xs.set i z).map T) (us.set i (a.eval y)) G := by rw [List.map_set]; exact hE.set hs hy
  have hnew : (List.take (i * k.getD 1) (flat us ++ r) ++ (a.eval y).cells.toList ++ List.drop (i * k.getD 1 + (a.eval y).cells.toList.length) (flat us ++ r)) = flat (us.set i (a.eval y)) ++ r := by
    have hsz : (a.eval y).cells.toList.length = k.getD 1 := by rw [Array.length_toList]; exact shaped_size hs
    rw [hsz, flat_set hE.sizes hlu (shaped_size hs), List.take_append_of_le_length (by omega), List.drop_append_of_le_length hfl]
    simp [List.append_assoc]
  refine ⟨.agg (flat (us.set i (a.eval y)) ++ r).toArray, Shp.rows hEl (fun x hx => hone x (by rw [← e1]; simp; exact .inr hx)) ?_, ⟨_, _, rfl, hEl⟩, fun Q K hK => ?_⟩
  · rw [List.length_append, flat_len hEl.sizes, List.length_set, ← htot, List.length_append, flat_len hE.sizes]
  have hst := run_storeCells_at b (i * k.getD 1) ty (a.eval y).cells.toList 0 (flat us ++ r).toArray w (P := P) hv (by
    have hsz : (a.eval y).cells.toList.length = k.getD 1 := by rw [Array.length_toList]; exact shaped_size hs
    rw [hsz]; show _ ≤ (flat us ++ r).length; rw [List.length_append]; omega) (shaped_cells hs)
  simp only [Nat.add_zero] at hst
  have hr : (execOp a.eval o).run P w = .ok .skip (w.setRow b (flat (us.set i (a.eval y)) ++ r).toArray) := by
    rw [← hnew]
    simp only [execOp, ho, Instr.storeAt, hx, Instr.sureAddr, storeVar, Sem.run_bind, Sem.run_pure, Result.andThen_ok, tyS_size hT, shaped_size hs]
    simp [hst]
  unfold Oper.wp
  rw [hr]
  simp only [Oper.upon, hd]
  exact hK
theorem agg3 {v : Value} (h : Shaped (some 3) v) : ∃ x y z, v = .agg #[x, y, z] := by
  obtain ⟨cs, rfl, h, _⟩ := h
  match cs, h with
  | ⟨[x, y, z]⟩, _ => exact ⟨x, y, z, rfl⟩
theorem agg2 {v : Value} (h : Shaped (some 2) v) : ∃ x y, v = .agg #[x, y] := by
  obtain ⟨cs, rfl, h, _⟩ := h
  match cs, h with
  | ⟨[x, y]⟩, _ => exact ⟨x, y, rfl⟩
theorem agg4 {v : Value} (h : Shaped (some 4) v) : ∃ x y z u, v = .agg #[x, y, z, u] := by
  obtain ⟨cs, rfl, h, _⟩ := h
  match cs, h with
  | ⟨[x, y, z, u]⟩, _ => exact ⟨x, y, z, u, rfl⟩
theorem LS.isSl {k : Option Nat} {τs : List MT} {v : Value} {G : Gh} (h : (LS k τs).t v G) : ∃ A n c, v = .slice A n c := by obtain ⟨A, c, h, _⟩ := h; exact ⟨A, _, c, h⟩
theorem SL.isSl {l : List Nat} {v : Value} {G : Gh} (h : (SL l).t v G) : ∃ A n c, v = .slice A n c := by obtain ⟨A, c, h, _⟩ := h; exact ⟨A, _, c, h⟩
theorem SN.isSl {n m : Nat} {v : Value} {G : Gh} (h : (SN n m).t v G) : ∃ A n c, v = .slice A n c := SL.isSl h.2
end
end Go.Proofs.Ytdeihehaheelmaa
namespace Go.Proofs.Ytdeihehaheelmaa
open Go.RowKit (Below)
def mixedF (x y d : Rat) : Int :=
  if x.num.sign = 0 ∨ x.num.sign = y.num.sign * d.num.sign then y.num.sign * d.num.sign
  else if y.num.sign * d.num.sign = 0 then x.num.sign
  else x.num.sign * cmpQ (x * x) (y * y * d)
def rootsF (x d f : Rat) : Int := if mixedF x 2 d < 0 then -1 else mixedF (x * x + 4 * d - 4 * f) (4 * x) d
def pairF (l : List Rat) : List Rat := l.take 2 ++ [0, 0].drop l.length
def compareF (l m : List Rat) : Int := rootsF ((pairF l).getD 0 default + (pairF l).getD 1 default - ((pairF m).getD 0 default + (pairF m).getD 1 default)) ((pairF l).getD 0 default * (pairF l).getD 1 default) ((pairF m).getD 0 default * (pairF m).getD 1 default)
def goodR (r : FR) : Bool := r.ok && decide (0 ≤ r.val)
def posR (r : FR) : Bool := r.ok && decide (0 < r.val)
def cmpCode (l m : List FR) : Int := if 2 < l.length ∨ 2 < m.length then 4 else if l.all goodR && m.all goodR then 0 else 3
def cmpRes (l m : List FR) : Int := if cmpCode l m = 0 then compareF (l.map FR.val) (m.map FR.val) else 0
def insF (xs : List Rat) : Nat → List Nat → List Nat
  | 0, o => o
  | k + 1, o => if cmpQ (xs.getD (o.getD (k + 1) default) default) (xs.getD (o.getD k default) default) < 0 then insF xs k ((o.set (k + 1) (o.getD k default)).set k (o.getD (k + 1) default)) else o
def ordF (xs : List Rat) (i : Nat) (o : List Nat) : Nat → List Nat
  | 0 => o
  | n + 1 => ordF xs (i + 1) (insF xs i o) n
def orderF (xs : List Rat) : List Nat := ordF xs 0 [0, 1, 2, 3] 4
def lk (l : List FR) (j : Nat) : Rat := (l.getD ((orderF (l.map FR.val)).getD j default) default).val
def closesF (p q r s : Rat) : Bool :=
  if mixedF (q + r - (p + s)) 2 (q * r) ≥ 0 then true
  else decide (mixedF ((q + r - (p + s)) * (q + r - (p + s)) + 4 * (q * r) - 4 * (p * s)) (4 * (q + r - (p + s))) (q * r) ≤ 0)
def chkF (l : List FR) : Int := if l.all posR then if closesF (lk l 3) (lk l 0) (lk l 1) (lk l 2) then 0 else 16 else 3
def excF (l : List FR) : Int := compareF [lk l 0, lk l 3] [lk l 1, lk l 2]
def excRes (l : List FR) : Int := if chkF l = 0 then excF l else 0
def clsF (l : List FR) : Int := if chkF l = 0 then (if excF l = 1 then 4 else if excF l = 0 then 5 else (([1, 0, 2, 3] : List Nat).getD ((orderF (l.map FR.val)).getD 0 default) default : Nat)) else 0
def mx (x y : Rat) : Rat := maxQ x y
def rotL (l : List FR) (k : Nat) : Bool :=
  decide (compareF [(l.getD k default).val, (l.getD ((k + 3) % 4) default).val] [(l.getD ((k + 1) % 4) default).val, (l.getD ((k + 2) % 4) default).val] ≤ 0) &&
  decide (compareF [maxQ (l.getD k default).val (l.getD ((k + 3) % 4) default).val, minQ (l.getD ((k + 1) % 4) default).val (l.getD ((k + 2) % 4) default).val] [minQ (l.getD k default).val (l.getD ((k + 3) % 4) default).val, maxQ (l.getD ((k + 1) % 4) default).val (l.getD ((k + 2) % 4) default).val] ≥ 0)
def rotCode (l : List FR) (k : Int) : Int := if chkF l = 0 then if 0 ≤ k ∧ k ≤ 3 then 0 else 9 else chkF l
def rotF (l : List FR) (k : Int) : Bool := if rotCode l k = 0 then rotL l k.toNat else false
def md4 (k : Int) : Nat := (k.emod 4).toNat
def invF (l : List FR) (k : Int) (i : Nat) : FR := if chkF l = 0 then FR.of ((l.getD ((i + md4 k) % 4) default).val) else default
theorem sgn_bd (z : Int) : -1 ≤ z.sign ∧ z.sign ≤ 1 := by have := sgn_cases z; omega
theorem sg_mul_bd (u w : Int) : -9223372036854775808 ≤ u.sign * w.sign ∧ u.sign * w.sign ≤ 9223372036854775807 := by
  rcases sgn_cases u with ⟨_, h⟩ | ⟨_, h⟩ | ⟨_, h⟩ <;> rcases sgn_cases w with ⟨_, h'⟩ | ⟨_, h'⟩ | ⟨_, h'⟩ <;> rw [h, h'] <;> decide
theorem cmpQ_cases (x y : Rat) : cmpQ x y = -1 ∨ cmpQ x y = 0 ∨ cmpQ x y = 1 := by unfold cmpQ; split <;> (try split) <;> simp
theorem sg_cmp_bd (u : Int) (x y : Rat) : -9223372036854775808 ≤ u.sign * cmpQ x y ∧ u.sign * cmpQ x y ≤ 9223372036854775807 := by
  rcases sgn_cases u with ⟨_, h⟩ | ⟨_, h⟩ | ⟨_, h⟩ <;> rcases cmpQ_cases x y with h' | h' | h' <;> rw [h, h'] <;> decide
theorem goodR_of {r : FR} (h : r.ok = true) (h2 : ¬ r.val.num.sign < 0) : goodR r = true := by
  unfold goodR
  have : 0 ≤ r.val := by rw [← Rat.num_nonneg]; have := sgn_cases r.val.num; omega
  simp [h, this]
theorem goodR_not1 {r : FR} (h : r.ok = false) : goodR r = false := by unfold goodR; simp [h]
theorem goodR_not2 {r : FR} (h2 : r.val.num.sign < 0) : goodR r = false := by
  unfold goodR
  have : ¬ 0 ≤ r.val := by rw [← Rat.num_nonneg]; have := sgn_cases r.val.num; omega
  simp [this]
theorem rat_pos_iff {x : Rat} : 0 < x ↔ 0 < x.num := by
  have h1 := @Rat.num_nonneg x; have h2 := @Rat.num_eq_zero x
  constructor
  · intro h; have h0 : 0 ≤ x := by grind
    have h3 := h1.2 h0
    have : x.num ≠ 0 := fun e => by have := h2.1 e; grind
    omega
  · intro h; have : 0 ≤ x := h1.1 (by omega)
    have : x ≠ 0 := fun e => by have := h2.2 e; omega
    grind
theorem posR_of {r : FR} (h : r.ok = true) (h2 : ¬ r.val.num.sign ≤ 0) : posR r = true := by
  unfold posR
  have : 0 < r.val := by rw [rat_pos_iff]; have := sgn_cases r.val.num; omega
  simp [h, this]
theorem posR_not1 {r : FR} (h : r.ok = false) : posR r = false := by unfold posR; simp [h]
theorem posR_not2 {r : FR} (h2 : r.val.num.sign ≤ 0) : posR r = false := by
  unfold posR
  have : ¬ 0 < r.val := by rw [rat_pos_iff]; have := sgn_cases r.val.num; omega
  simp [this]
theorem all_snoc {α : Type} [Inhabited α] {l : List α} {p : α → Bool} {k : Nat} (hk : k < l.length) (h : (l.take k).all p = true) (h2 : p (l.getD k default) = true) : (l.take (k + 1)).all p = true := by
  rw [List.take_succ_eq_append_getElem hk, List.all_append, h]
  rw [List.getD_eq_getElem?_getD, List.getElem?_eq_getElem hk] at h2
  simpa using h2
theorem all_not {α : Type} [Inhabited α] {l : List α} {p : α → Bool} {k : Nat} (hk : k < l.length) (h2 : p (l.getD k default) = false) : l.all p = false := by
  rw [List.getD_eq_getElem?_getD, List.getElem?_eq_getElem hk] at h2
  cases h : l.all p with
  | false => rfl
  | true => rw [List.all_eq_true] at h; have := h l[k] (by simp); simp at h2; rw [h2] at this; cases this
theorem all_end {α : Type} {l : List α} {p : α → Bool} {k : Nat} (hk : ¬ k < l.length) (h : (l.take k).all p = true) : l.all p = true := by rwa [List.take_of_length_le (by omega)] at h
theorem insF_len {xs : List Rat} {k : Nat} {o : List Nat} : (insF xs k o).length = o.length := by
  induction k generalizing o with
  | zero => rfl
  | succ k ih => unfold insF; split
                 · rw [ih]; simp
                 · rfl
theorem insF_lt {xs : List Rat} {k n : Nat} {o : List Nat} (h : ∀ x ∈ o, x < n) (hn : 0 < n) : ∀ x ∈ insF xs k o, x < n := by
  induction k generalizing o with
  | zero => exact h
  | succ k ih =>
    unfold insF; split
    · refine ih fun x hx => ?_
      have hg : ∀ j, o.getD j default < n := fun j => by
        rw [List.getD_eq_getElem?_getD]
        cases hj : o[j]? with
        | none => exact hn
        | some z => exact h z (List.mem_of_getElem? hj)
      rcases List.mem_or_eq_of_mem_set hx with h1 | h1
      · rcases List.mem_or_eq_of_mem_set h1 with h2 | h2
        · exact h x h2
        · rw [h2]; exact hg _
      · rw [h1]; exact hg _
    · exact h
theorem ordF_lt {xs : List Rat} {i m n : Nat} {o : List Nat} (h : ∀ x ∈ o, x < n) (hn : 0 < n) : (∀ x ∈ ordF xs i o m, x < n) ∧ (ordF xs i o m).length = o.length := by
  induction m generalizing i o with
  | zero => exact ⟨h, rfl⟩
  | succ m ih => unfold ordF; have := ih (i := i + 1) (o := insF xs i o) (insF_lt h hn); rw [insF_len] at this; exact this
theorem getD_lt {o : List Nat} {n j : Nat} (h : ∀ x ∈ o, x < n) (hn : 0 < n) : o.getD j default < n := by
  rw [List.getD_eq_getElem?_getD]
  cases hj : o[j]? with
  | none => exact hn
  | some z => exact h z (List.mem_of_getElem? hj)
theorem orderF_lt (xs : List Rat) (j : Nat) : (orderF xs).getD j default < 4 := getD_lt (ordF_lt (n := 4) (by decide) (by decide)).1 (by decide)
theorem orderF_len (xs : List Rat) : (orderF xs).length = 4 := (ordF_lt (n := 4) (by decide) (by decide)).2
theorem errV_neq {t : TypeId} {n : Int} : (!nilB (errV t n)) = decide (n ≠ 0) := by unfold errV; split <;> simp_all [nilB]
theorem errV_eql {t : TypeId} {n : Int} : nilB (errV t n) = decide (n = 0) := by unfold errV; split <;> simp_all [nilB]
theorem errV_ne {t : TypeId} {n : Int} {k : Nat} (e : n = (k : Int)) (h : k ≠ 0) : Value.iface t (nv .i64 k) = errV t n := err_is e h
theorem errV_z {t : TypeId} {n : Int} (e : n = 0) : Value.nilIface = errV t n := err_no e
theorem pairF_len {l : List Rat} : 2 ≤ (pairF l).length := by unfold pairF; simp; omega
theorem upto_step {l m : List FR} {k : Nat} (h : ∀ i, i < k → ([l, m].getD i default).all goodR = true) (h2 : ([l, m].getD k default).all goodR = true) : ∀ i, i < k + 1 → ([l, m].getD i default).all goodR = true := fun i hi => by
  rcases Nat.lt_or_ge i k with h3 | h3
  · exact h i h3
  · obtain rfl : i = k := by omega
    exact h2
theorem two_len {l m : List FR} {k n : Nat} (hk : k < 2) (h1 : l.length ≤ n) (h2 : m.length ≤ n) : ([l, m].getD k default).length ≤ n := by
  match k, hk with
  | 0, _ => exact h1
  | 1, _ => exact h2
theorem two_bad {l m : List FR} {k : Nat} (hk : k < 2) (h : ([l, m].getD k default).all goodR = false) : (l.all goodR && m.all goodR) = false := by
  match k, hk, h with
  | 0, _, h => have h : l.all goodR = false := h
               rw [h]; rfl
  | 1, _, h => have h : m.all goodR = false := h
               rw [h, Bool.and_false]
theorem cmpCode4 {l m : List FR} (h : 2 < l.length ∨ 2 < m.length) : cmpCode l m = ((4 : Nat) : Int) := if_pos h
theorem cmpCode3 {l m : List FR} (h : ¬ (2 < l.length ∨ 2 < m.length)) (h2 : (l.all goodR && m.all goodR) = false) : cmpCode l m = ((3 : Nat) : Int) := by unfold cmpCode; rw [if_neg h, h2]; rfl
theorem cmpCode0 {l m : List FR} (h : ¬ (2 < l.length ∨ 2 < m.length)) (h1 : ([l, m].getD 0 default).all goodR = true) (h2 : ([l, m].getD 1 default).all goodR = true) : cmpCode l m = 0 := by
  have h1 : l.all goodR = true := h1
  have h2 : m.all goodR = true := h2
  unfold cmpCode; rw [if_neg h, h1, h2]; rfl
theorem swap_lt {o : List Nat} {k : Nat} (h : ∀ x ∈ o, x < 4) : ∀ x ∈ (o.set k (o.getD (k - 1) default)).set (k - 1) (o.getD k default), x < 4 := fun x hx => by
  rcases List.mem_or_eq_of_mem_set hx with h1 | h1
  · rcases List.mem_or_eq_of_mem_set h1 with h2 | h2
    · exact h x h2
    · rw [h2]; exact getD_lt h (by decide)
  · rw [h1]; exact getD_lt h (by decide)
theorem ins_step {xs : List Rat} {k : Nat} {q r : List Nat} (hk : 0 < k) (hc : cmpQ (xs.getD (q.getD k default) default) (xs.getD (q.getD (k - 1) default) default) < 0) (h : insF xs k q = r) : insF xs (k - 1) ((q.set k (q.getD (k - 1) default)).set (k - 1) (q.getD k default)) = r := by
  obtain ⟨j, rfl⟩ : ∃ j, k = j + 1 := ⟨k - 1, by omega⟩
  rw [insF] at h
  rw [Nat.add_sub_cancel] at hc ⊢
  rw [if_pos hc] at h
  exact h
theorem ins_end0 {xs : List Rat} {k : Nat} {q r : List Nat} (hk : ¬ 0 < k) (h : insF xs k q = r) : q = r := by
  obtain rfl : k = 0 := by omega
  exact h
theorem ins_end1 {xs : List Rat} {k : Nat} {q r : List Nat} (hk : 0 < k) (hc : ¬ cmpQ (xs.getD (q.getD k default) default) (xs.getD (q.getD (k - 1) default) default) < 0) (h : insF xs k q = r) : q = r := by
  obtain ⟨j, rfl⟩ : ∃ j, k = j + 1 := ⟨k - 1, by omega⟩
  rw [insF] at h
  rw [Nat.add_sub_cancel] at hc
  rw [if_neg hc] at h
  exact h
theorem ord_next {xs : List Rat} {i : Nat} {o q r : List Nat} (hi : i < 4) (h : ordF xs i o (4 - i) = r) (hq : q = insF xs i o) : ordF xs (i + 1) q (4 - (i + 1)) = r := by
  rw [show 4 - i = (4 - (i + 1)) + 1 from by omega, ordF, ← hq] at h
  exact h
theorem chk3 {l : List FR} (h : l.all posR = false) : chkF l = ((3 : Nat) : Int) := by unfold chkF; rw [h]; rfl
theorem chk0 {l : List FR} (h : l.all posR = true) (h2 : closesF (lk l 3) (lk l 0) (lk l 1) (lk l 2) = true) : chkF l = 0 := by unfold chkF; rw [h, h2]; rfl
theorem chk16 {l : List FR} (h : l.all posR = true) (h2 : closesF (lk l 3) (lk l 0) (lk l 1) (lk l 2) = false) : chkF l = ((16 : Nat) : Int) := by unfold chkF; rw [h, h2]; rfl
theorem getD_map {α β : Type} [Inhabited α] [Inhabited β] {l : List α} {f : α → β} {i : Nat} (h : i < l.length) : (l.map f).getD i default = f (l.getD i default) := by simp [h]
end Go.Proofs.Ytdeihehaheelmaa
namespace Go.Proofs.Ytdeihehaheelmaa
open Go.RowKit (Below)
def LSC (k : Option Nat) (τs : List MT) : MT := ⟨fun v G => (LS k τs).t v G ∧ ∃ b, v = .slice (some b) τs.length τs.length, fun hle ⟨h, h2⟩ => ⟨(LS k τs).mono hle h, h2⟩⟩
theorem LSC.ls {k : Option Nat} {τs : List MT} {v : Value} {G : Gh} (h : (LSC k τs).t v G) : (LS k τs).t v G := h.1
section
variable {P : Program} {o : Oper} {a : Act} {w : World} {G : Gh} {e : TypeId} {k : Option Nat} {τs σs : List MT}
theorem OpR.buildSC {t bytes n : Nat} {z : Value} {ps : Array (Nat × Operand)} {us : List Value} (hok : Gok w G) (ho : o.op = .buildSlice t n ps) (ht : P.underlying t = some (.slice e)) (he : elS P e (k.getD 1) bytes z) (hk : (decide (0 < k.getD 1)) = true) (hn : n * k.getD 1 ≤ 16777216) (hn0 : 0 < n)
    (hps : (ps.map fun (i, x) => (i, a.eval x)).toList = (us.zipIdx 0).map fun x => (x.2, x.1)) (hl : us.length = n) (hE : Els k τs us G) : OpR P o a w G (LSC k τs) := by
  obtain ⟨i, hi, h1, h2, h3⟩ := elS_of he
  have hk := of_decide_eq_true hk
  have hsz := hE.sizes
  have hfill := Great.fill_whole (s := k.getD 1) hk us ((Array.range (n * i.size)).map (z.cells[· % z.cells.size]!)) hsz (by simp [hl, h1])
  rw [← h1] at hfill
  have hps2 : (ps.map fun (i, x) => (i, a.eval x)) = ((us.zipIdx 0).map fun x => (x.2, x.1)).toArray := by rw [← hps]
  have hb := run_buildSlice (P := P) w t e n ((us.zipIdx 0).map fun x => (x.2, x.1)).toArray (us.flatMap fun v => v.cells.toList).toArray i z ht hi h3 (by rw [h1]; omega) (by rw [h1]; have := Nat.mul_pos hn0 hk; omega) (by simpa using hfill)
  refine .run' (w' := w.alloc (.cells (flat us ++ []).toArray e)) (G' := Gput G w.heap.size (.cells (flat us ++ []).toArray e)) (v := .slice (some ⟨w.heap.size, 0, none⟩) n n) ?_ (Nxt.allocPut hok _) ?_
  · rw [List.append_nil]
    simp only [execOp, ho, Sem.run_bind, hps2]
    rw [hb]; rfl
  · have hle := (Nxt.allocPut (w := w) hok (.cells (flat us ++ []).toArray e)).le
    have hlen : n = τs.length := by rw [← hl, hE.1]
    subst hlen
    refine ⟨LS.of_vals rfl (Nat.le_refl _) ?_ (hE.mono hle) (Lies.block (rest := []) (ty := e) (fr := (0, 0)) hsz (by simp [Gput])), _, rfl⟩
    have : τs.length * 1 ≤ τs.length * k.getD 1 := Nat.mul_le_mul_left _ hk
    simp only [LIM]; omega
theorem OpR.appSC {x y : Operand} {t bytes : Nat} {z : Value} (hok : Gok w G) (ho : o.op = .call { callee := .builtin .append, args := #[x, y], argTypes := #[t, t] }) (ht : P.underlying t = some (.slice e)) (he : elS P e (k.getD 1) bytes z) (hz : Shaped k z)
    (hx : (LSC k τs).t (a.eval x) G) (hy : (LS k σs).t (a.eval y) G) (hlim : τs.length + σs.length ≤ LIM) (hby : (τs.length + σs.length) * bytes ≤ 140737488355328) : OpR P o a w G (LS k (τs ++ σs)) := by
  obtain ⟨i, hi, h1, h2, h3⟩ := elS_of he
  obtain ⟨hx1, b, hxe⟩ := hx
  obtain ⟨A, c, vs, hye, hlc, _, hE, hL⟩ := LS.vals hy
  obtain ⟨A1, c1, us, hxe1, _, _, hE1, hL1⟩ := LS.vals hx1
  have hA : A1 = some b := by rw [hxe] at hxe1; injection hxe1 with h _ _; exact h.symm
  subst hA
  have hvl : vs.length = σs.length := hE.1
  have hul : us.length = τs.length := hE1.1
  have hsz := hE.sizes
  have hsz1 := hE1.sizes
  by_cases h0 : σs = []
  · subst h0
    refine .run hok (v := .slice (some b) τs.length τs.length) ?_ (by rw [List.append_nil, ← hxe]; exact hx1)
    have hf : (Builtin.firstCells i.size 0 (.slice A 0 c)).run P w = .ok #[] w := by
      cases A with
      | none => simp [Builtin.firstCells]
      | some ad => simp [Builtin.firstCells, loadCells, loadCellsFrom]
    simp only [List.length_nil] at hye
    simp [execOp, ho, resolve, invoke, builtin, hxe, hye, Builtin.append_, run_underlying ht, sizeOf, typeInfo, hi, Builtin.lenOf, hf, storeCells]
  · have hpos : 0 < σs.length := List.length_pos_iff.2 h0
    obtain ⟨b2, off2, rfl, _⟩ := hL 0 vs[0] (by rw [List.getElem?_eq_getElem (by omega)])
    have hnl : (flat vs).length = σs.length * i.size := by rw [flat_len hsz, hvl, h1]
    have hol : (flat us).length = τs.length * i.size := by rw [flat_len hsz1, hul, h1]
    have hnews : ∀ j u, (flat vs)[j]? = some u → w.cell? ((⟨b2, off2, none⟩ : Addr).add j) = some u := fun j u hj => by rw [addr_add]; exact Gc.cell hok (hL.all hsz j u hj)
    have holds : ∀ j u, (flat us)[j]? = some u → w.cell? (b.add j) = some u := fun j u hj => by
      have hne : 0 < us.length := by
        rcases Nat.eq_zero_or_pos us.length with h | h
        · rw [List.length_eq_zero_iff] at h; subst h; simp [flat] at hj
        · exact h
      obtain ⟨b3, off3, e3, _⟩ := hL1 0 us[0] (by rw [List.getElem?_eq_getElem hne])
      cases e3
      rw [addr_add]; exact Gc.cell hok (hL1.all hsz1 j u hj)
    simp only [LIM] at hlim
    have hg := run_append_grow (P := P) w t o.type e i z ht hi h3 b τs.length τs.length (flat us) hol holds ⟨b2, off2, none⟩ σs.length c (flat vs) hnl hnews (by omega) (by omega) (growslice_fits (by omega) (by rw [h2]; exact hby))
    have hge := grownCap_ge w (τs.length + σs.length) τs.length e
    generalize grownCap w (τs.length + σs.length) τs.length e = q at *
    have hcells : (flat us).toArray ++ (flat vs).toArray ++ Builtin.zeroCells z.cells (q - (τs.length + σs.length)) = (flat (us ++ vs) ++ (Builtin.zeroCells z.cells (q - (τs.length + σs.length))).toList).toArray := by
      rw [flat_app]; simp
    rw [hcells] at hg
    have hN := (Nxt.drew hok).trans (Nxt.allocPut (w := w.drew) (Nxt.drew hok).ok (.cells (flat (us ++ vs) ++ (Builtin.zeroCells z.cells (q - (τs.length + σs.length))).toList).toArray e))
    have hUV := hE1.app hE
    refine .run' ?_ hN (v := .slice (some ⟨w.heap.size, 0, none⟩) (τs.length + σs.length) q) ?_
    · simp only [execOp, ho, resolve, Sem.run_bind, Sem.run_pure, Result.andThen_ok, invoke, builtin, List.map_toArray, List.map_cons, List.map_nil, hxe, hye, hg]
    · refine LS.of_vals (by rw [List.length_append]) (by rw [List.length_append]; exact hge) (by rw [List.length_append]; simp only [LIM]; omega) (hUV.mono hN.le) (Lies.block (rest := (Builtin.zeroCells z.cells (q - (τs.length + σs.length))).toList) (ty := e) (fr := (0, 0)) hUV.sizes (by rw [show w.drew.heap.size = w.heap.size from rfl]; simp [Gput]))
theorem OpR.appSCM {α : Type} {T : α → MT} {xs ys : List α} {x y : Operand} {t bytes : Nat} {z : Value} (hok : Gok w G) (ho : o.op = .call { callee := .builtin .append, args := #[x, y], argTypes := #[t, t] }) (ht : P.underlying t = some (.slice e)) (he : elS P e (k.getD 1) bytes z) (hz : Shaped k z)
    (hx : (LSC k (xs.map T)).t (a.eval x) G) (hy : (LS k (ys.map T)).t (a.eval y) G) (hlim : xs.length + ys.length ≤ LIM) (hby : (xs.length + ys.length) * bytes ≤ 140737488355328) : OpR P o a w G (LS k ((xs ++ ys).map T)) := by
  rw [List.map_append]; exact OpR.appSC hok ho ht he hz hx hy (by simpa using hlim) (by simpa using hby)
end
end Go.Proofs.Ytdeihehaheelmaa
namespace Go.Proofs.Ytdeihehaheelmaa
set_option maxHeartbeats 1000000
set_option maxRecDepth 100000
open Go.RowKit (Below)
private theorem bt_35_ : Try.prog.built 35 [] = some #[.bool false,.slice none 0 0,.slice none 0 0] := by kernel_rfl
private theorem c_13 : callable Try.prog 13 = true := by kernel_rfl
private theorem c_18 : callable Try.prog 18 = true := by kernel_rfl
private theorem c_22 : callable Try.prog 22 = true := by kernel_rfl
private theorem c_23 : callable Try.prog 23 = true := by kernel_rfl
private theorem c_25 : callable Try.prog 25 = true := by kernel_rfl
private theorem c_58 : callable Try.prog 58 = true := by kernel_rfl
private theorem c_59 : callable Try.prog 59 = true := by kernel_rfl
private theorem c_60 : callable Try.prog 60 = true := by kernel_rfl
private theorem c_61 : callable Try.prog 61 = true := by kernel_rfl
private theorem c_72 : callable Try.prog 72 = true := by kernel_rfl
private theorem c_73 : callable Try.prog 73 = true := by kernel_rfl
private theorem el_35 : elS Try.prog 35 3 56 (.agg #[.bool false,.slice none 0 0,.slice none 0 0]) := by unfold elS;kernel_rfl
private theorem if_26 : ifaceT Try.prog 26 := by unfold ifaceT;kernel_rfl
theorem fValidX_ok {n : Nat} {r : FR} {v1 : Value} {W0 : World} {G0 : Gh} (hok : Gok W0 G0) (h1 : (FX n r).t v1 G0) (hn : n ≤ BIG) : Calls Try.prog 33 #[v1] W0 (Ret W0 G0 (BT r.ok)) := by
 exact fValid_ok hok (FX.qr h1) h1.2.1 h1.2.2.1 hn
theorem gValidX_ok {n : Nat} {r : FR} {v1 : Value} {W0 : World} {G0 : Gh} (hok : Gok W0 G0) (h1 : (FX n r).t v1 G0) (hn : n ≤ BIG) : Calls Try.prog 15 #[v1] W0 (Ret W0 G0 (BT r.ok)) := by
 exact gValid_ok hok (FX.qr h1) h1.2.1 h1.2.2.1 hn
theorem bNum_ok {z : Int} {v1 : Value} {W0 : World} {G0 : Gh} (hok : Gok W0 G0) (h1 : (MT.ex (errV 51 (z))).t v1 G0)  : Calls Try.prog 13 #[v1] W0 (Ret W0 G0 (IT z)) := by
 refine St.enter (N := 15) (L := [(0,MT.ex (errV 51 (z)))]) (args := [v1]) Try.func13 rfl rfl rfl hok (enter1 h1) fun a S => ?_
 refine wp_reg fun K hK => ?_
 refine S.s (τ := NT 0) (OpR.asn S.ok rfl (rfl : _ = nv .i64 0)) rfl fun a w G S => ?_
 refine wpList_nil (hK _ _ ?_);clear hK K
 refine wp_seq_k fun K hK => ?_
 refine wp_reg fun K hK => ?_
 refine S.s (OpR.mv S.ok rfl (S.g 1 rfl)) rfl fun a w G S => ?_
 refine S.s (τ := BT (decide ((z) = 0))) (OpR.isB errV_eql (OpR.errEqNil S.ok rfl if_26 (S.e 0 rfl) (by first | exact .inl rfl | exact .inr ⟨_,_,rfl⟩ | exact errV_or _) rfl)) rfl fun a w G S => ?_
 refine wpList_nil (hK _ _ ?_);clear hK K
 replace S := S.d1
 refine S.cond 0 rfl (fun hc1 => ?_) (fun hc1 => ?_)
 ·
  have hp2 := of_decide_eq_true hc1
  refine wp_reg fun K hK => ?_
  replace S := S.d1
  refine S.s (τ := NT 0) (OpR.asn S.ok rfl (rfl : _ = nv .i64 0)) rfl fun a w G S => ?_
  refine wpList_nil (hK _ _ ?_);clear hK K
  exact wp_ret (then_ret (S.retTmp rfl ((S.e 0 rfl).trans (iv_eq (by first | rfl | omega | (simp only [Nat.zero_add,Nat.add_zero];done) | (simp;done) | (push_cast;omega))))))
 ·
  have hp3 := of_decide_eq_false hc1
  refine wp_skip ?_
  refine hK _ _ ?_;clear hK K
  refine wp_reg fun K hK => ?_
  refine S.s (OpR.mv S.ok rfl (S.g 2 rfl)) rfl fun a w G S => ?_
  refine S.s (τ := MT.tup2 (IT z) (BT true)) (OpR.tass S.ok rfl (S.e 0 rfl) (by omega) Try.underlying51 ⟨_,_,rfl,rfl,rfl⟩) rfl fun a w G S => ?_
  refine S.s (OpR.mv S.ok rfl (S.g 0 rfl)) rfl fun a w G S => ?_
  refine S.s (OpR.ext2a S.ok rfl (S.g 0 rfl)) rfl fun a w G S => ?_
  refine S.s (OpR.ext2b S.ok rfl (S.g 1 rfl)) rfl fun a w G S => ?_
  refine S.s (OpR.asn S.ok rfl (S.g 1 rfl)) rfl fun a w G S => ?_
  refine S.s (OpR.asn S.ok rfl (S.g 1 rfl)) rfl fun a w G S => ?_
  refine wpList_nil (hK _ _ ?_);clear hK K
  replace S := S.d6.d5.d4.d3.d2
  refine wp_seq_k fun K hK => ?_
  refine wp_reg fun K hK => ?_
  refine S.s (OpR.mv S.ok rfl (S.g 0 rfl)) rfl fun a w G S => ?_
  refine S.s (τ := BT false) (OpR.bnot S.ok rfl (S.e 0 rfl) rfl) rfl fun a w G S => ?_
  refine wpList_nil (hK _ _ ?_);clear hK K
  replace S := S.d2.d1
  refine wp_cond_false (S.e 0 rfl) ?_
  refine wp_skip ?_
  refine hK _ _ ?_;clear hK K
  refine wp_reg fun K hK => ?_
  refine S.s (OpR.mv S.ok rfl (S.g 1 rfl)) rfl fun a w G S => ?_
  replace S := S.d4
  refine S.s (OpR.asn S.ok rfl (S.g 0 rfl)) rfl fun a w G S => ?_
  refine wpList_nil (hK _ _ ?_);clear hK K
  replace S := S.d3.d1
  exact wp_ret (S.retTmp rfl (S.g 0 rfl))
theorem bIs_ok {z c : Int} {v1 v2 : Value} {W0 : World} {G0 : Gh} (hok : Gok W0 G0) (h1 : (MT.ex (errV 51 (z))).t v1 G0) (h2 : (IT c).t v2 G0)  : Calls Try.prog 28 #[v1,v2] W0 (Ret W0 G0 (BT (decide (z = c)))) := by
 refine St.enter (N := 9) (L := [(1,IT c),(0,MT.ex (errV 51 (z)))]) (args := [v1,v2]) Try.func28 rfl rfl rfl hok (enter2 h1 h2) fun a S => ?_
 refine wp_reg fun K hK => ?_
 refine S.s (τ := BT false) (OpR.asn S.ok rfl rfl) rfl fun a w G S => ?_
 refine wpList_nil (hK _ _ ?_);clear hK K
 refine wp_reg fun K hK => ?_
 refine S.s (OpR.mv S.ok rfl (S.g 2 rfl)) rfl fun a w G S => ?_
 refine S.s (τ := IT (?z)) (OpR.call1 rfl c_13 (bNum_ok S.ok ((S.e 0 rfl).trans (by first | rfl | omega | (simp only [Nat.zero_add,Nat.add_zero];done) | (simp;done) | (push_cast;omega))))) rfl fun a w G S => ?_
 refine S.s (OpR.mv S.ok rfl (S.g 3 rfl)) rfl fun a w G S => ?_
 refine S.s (OpR.zeql S.ok rfl (S.e 1 rfl) (S.e 0 rfl) MT.self) rfl fun a w G S => ?_
 replace S := S.d4
 refine S.s (OpR.asn S.ok rfl (S.g 0 rfl)) rfl fun a w G S => ?_
 refine wpList_nil (hK _ _ ?_);clear hK K
 replace S := S.d6.d5.d4.d3.d2.d1
 exact wp_ret (S.retTmp rfl ((S.e 0 rfl).trans (bv_eq (by first | rfl | omega | (simp only [Nat.zero_add,Nat.add_zero];done) | (simp;done) | (push_cast;omega)))))
theorem xmixed_ok {n m k : Nat} {x y d : Rat} {v1 v2 v3 : Value} {W0 : World} {G0 : Gh} (hok : Gok W0 G0) (h1 : (QV n x).t v1 G0) (h2 : (QV m y).t v2 G0) (h3 : (QV k d).t v3 G0) (hn : n + n + (m + m + k) ≤ BIG) : Calls Try.prog 73 #[v1,v2,v3] W0 (Ret W0 G0 (IT (mixedF x y d))) := by
 refine St.enter (N := 38) (L := [(2,QV k d),(1,QV m y),(0,QV n x)]) (args := [v1,v2,v3]) Try.func73 rfl rfl rfl hok (enter3 h1 h2 h3) fun a S => ?_
 refine wp_reg fun K hK => ?_
 refine S.boxop (x := .tmp 0) (τ := QV n x) (S.g 2 rfl) (sh (τ := QV n x) (S.g 2 rfl)) rfl rfl rfl rfl rfl fun b3 a w G S => ?_
 refine S.boxop (x := .tmp 1) (τ := QV m y) (S.g 2 rfl) (sh (τ := QV m y) (S.g 2 rfl)) rfl rfl rfl rfl rfl fun b4 a w G S => ?_
 refine S.boxop (x := .tmp 2) (τ := QV k d) (S.g 2 rfl) (sh (τ := QV k d) (S.g 2 rfl)) rfl rfl rfl rfl rfl fun b5 a w G S => ?_
 refine S.s (τ := NT 0) (OpR.asn S.ok rfl (rfl : _ = nv .i64 0)) rfl fun a w G S => ?_
 refine wpList_nil (hK _ _ ?_);clear hK K
 replace S := S.d6.d5.d4
 refine wp_seq_k fun K hK => ?_
 refine S.drawn [⟨9,.g (QV n x),[]⟩,⟨10,.g (IT x.num.sign),[0]⟩,⟨11,.g (QV m y),[]⟩,⟨12,.g (IT y.num.sign),[2]⟩,⟨13,.g (QV k d),[]⟩,⟨14,.g (IT d.num.sign),[4]⟩,⟨15,.g (IT (y.num.sign * d.num.sign)),[3,5]⟩,⟨7,.g (IT x.num.sign),[1]⟩,⟨8,.g (IT (y.num.sign * d.num.sign)),[6]⟩] mixedOrders (by kernel_rfl)
  ⟨fun a w G S => .of rfl (OpR.ldBox S.ok rfl (S.e 3 rfl) (S.box 2 rfl) tS_35),
   fun a w G S => .of rfl (OpR.call1 rfl c_23 (fSign_ok S.ok (S.g 0 rfl) (by omega))),
   fun a w G S => .of rfl (OpR.ldBox S.ok rfl (S.e 2 rfl) (S.box 1 rfl) tS_35),
   fun a w G S => .of rfl (OpR.call1 rfl c_23 (fSign_ok S.ok (S.g 0 rfl) (by omega))),
   fun a w G S => .of rfl (OpR.ldBox S.ok rfl (S.e 1 rfl) (S.box 0 rfl) tS_35),
   fun a w G S => .of rfl (OpR.call1 rfl c_23 (fSign_ok S.ok (S.g 0 rfl) (by omega))),
   fun a w G S => .of rfl (OpR.imul S.ok rfl (S.e 0 rfl) (S.e 1 rfl) (iw_i64 rfl (sg_mul_bd _ _))),
   fun a w G S => .of rfl (OpR.asn S.ok rfl (S.g 0 rfl)),
   fun a w G S => .of rfl (OpR.asn S.ok rfl (S.g 0 rfl)),trivial⟩ fun β a w G S => ?_
 replace S : St W0 G0 38 [(8,IT (y.num.sign * d.num.sign)),(7,IT x.num.sign),(15,IT (y.num.sign * d.num.sign)),(14,IT d.num.sign),(13,QV k d),(12,IT y.num.sign),(11,QV m y),(10,IT x.num.sign),(9,QV n x),(6,NT 0),(5,PB b5),(4,PB b4),(3,PB b3)] [⟨b5,35,some 3,QV k d⟩,⟨b4,35,some 3,QV m y⟩,⟨b3,35,some 3,QV n x⟩] a _ _ := S
 refine wpList_nil (hK _ _ ?_);clear hK K
 replace S := S.d8.d7.d6.d5.d4.d3.d2
 refine wp_seq_k fun K hK => ?_
 refine wp_reg fun K hK => ?_
 refine S.s (OpR.mv S.ok rfl (S.g 1 rfl)) rfl fun a w G S => ?_
 refine S.s (OpR.zeql S.ok rfl (S.e 0 rfl) (rfl : _ = nv .i64 0) MT.self) rfl fun a w G S => ?_
 refine S.s (OpR.mv S.ok rfl (S.g 0 rfl)) rfl fun a w G S => ?_
 rcases Bool.eq_false_or_eq_true (decide (x.num.sign = 0)) with hc1 | hc1
 ·
  have hp2 := of_decide_eq_true hc1
  replace S := S.boolIs 0 rfl hc1
  refine S.skipG 0 rfl rfl rfl rfl rfl rfl fun a w G S => ?_
  refine S.skipG 1 rfl rfl rfl rfl rfl rfl fun a w G S => ?_
  refine S.skipG 2 rfl rfl rfl rfl rfl rfl fun a w G S => ?_
  refine S.s (τ := BT true) (OpR.pick S.ok rfl (S.e 3 rfl) rfl) rfl fun a w G S => ?_
  refine wpList_nil (hK _ _ ?_);clear hK K
  replace S := S.d7.d6.d5.d4.d3.d2.d1
  refine wp_cond_true (S.e 0 rfl) ?_
  refine wp_reg fun K hK => ?_
  refine S.s (OpR.mv S.ok rfl (S.g 1 rfl)) rfl fun a w G S => ?_
  replace S := S.d4
  refine S.s (OpR.asn S.ok rfl (S.g 0 rfl)) rfl fun a w G S => ?_
  refine wpList_nil (hK _ _ ?_);clear hK K
  replace S := S.d1
  exact wp_ret (then_ret (S.retTmp rfl ((S.e 0 rfl).trans (iv_eq (by unfold mixedF;first | rw [if_pos (by omega)] | rw [if_neg (by omega),if_pos (by omega)] | rw [if_neg (by omega),if_neg (by omega)])))))
 ·
  have hp3 := of_decide_eq_false hc1
  replace S := S.boolIs 0 rfl hc1
  refine S.stepG 0 (OpR.mv S.ok rfl (S.g 5 rfl)) rfl rfl rfl rfl rfl rfl fun a w G S => ?_
  refine S.stepG 1 (OpR.mv S.ok rfl (S.g 5 rfl)) rfl rfl rfl rfl rfl rfl fun a w G S => ?_
  refine S.stepG 2 (OpR.zeql S.ok rfl (S.e 1 rfl) (S.e 0 rfl) MT.self) rfl rfl rfl rfl rfl rfl fun a w G S => ?_
  refine S.s (τ := BT (decide (x.num.sign = (y.num.sign * d.num.sign)))) (OpR.pick S.ok rfl (S.e 3 rfl) (S.g 0 rfl)) rfl fun a w G S => ?_
  refine wpList_nil (hK _ _ ?_);clear hK K
  replace S := S.d7.d6.d5.d4.d3.d2.d1
  refine S.cond 0 rfl (fun hc4 => ?_) (fun hc4 => ?_)
  ·
   have hp5 := of_decide_eq_true hc4
   refine wp_reg fun K hK => ?_
   refine S.s (OpR.mv S.ok rfl (S.g 1 rfl)) rfl fun a w G S => ?_
   replace S := S.d4
   refine S.s (OpR.asn S.ok rfl (S.g 0 rfl)) rfl fun a w G S => ?_
   refine wpList_nil (hK _ _ ?_);clear hK K
   replace S := S.d1
   exact wp_ret (then_ret (S.retTmp rfl ((S.e 0 rfl).trans (iv_eq (by unfold mixedF;first | rw [if_pos (by omega)] | rw [if_neg (by omega),if_pos (by omega)] | rw [if_neg (by omega),if_neg (by omega)])))))
  ·
   have hp6 := of_decide_eq_false hc4
   refine wp_skip ?_
   refine hK _ _ ?_;clear hK K
   refine wp_seq_k fun K hK => ?_
   refine wp_reg fun K hK => ?_
   refine S.s (OpR.mv S.ok rfl (S.g 1 rfl)) rfl fun a w G S => ?_
   refine S.s (OpR.zeql S.ok rfl (S.e 0 rfl) (rfl : _ = nv .i64 0) MT.self) rfl fun a w G S => ?_
   refine wpList_nil (hK _ _ ?_);clear hK K
   replace S := S.d1
   refine S.cond 0 rfl (fun hc7 => ?_) (fun hc7 => ?_)
   ·
    have hp8 := of_decide_eq_true hc7
    refine wp_reg fun K hK => ?_
    refine S.s (OpR.mv S.ok rfl (S.g 3 rfl)) rfl fun a w G S => ?_
    replace S := S.d5
    refine S.s (OpR.asn S.ok rfl (S.g 0 rfl)) rfl fun a w G S => ?_
    refine wpList_nil (hK _ _ ?_);clear hK K
    replace S := S.d1
    exact wp_ret (then_ret (S.retTmp rfl ((S.e 0 rfl).trans (iv_eq (by unfold mixedF;first | rw [if_pos (by omega)] | rw [if_neg (by omega),if_pos (by omega)] | rw [if_neg (by omega),if_neg (by omega)])))))
   ·
    have hp9 := of_decide_eq_false hc7
    refine wp_skip ?_
    refine hK _ _ ?_;clear hK K
    refine wp_seq_k fun K hK => ?_
    replace S := S.d4
    refine S.drawn [⟨27,.g (IT x.num.sign),[]⟩,⟨28,.g (QV n x),[]⟩,⟨29,.g (QV n x),[]⟩,⟨30,.g (QC (n + n) (x * x)),[1,2]⟩,⟨31,.g (QV m y),[]⟩,⟨32,.g (QV m y),[]⟩,⟨33,.g (QC (m + m) (y * y)),[4,5]⟩,⟨34,.g (QV k d),[]⟩,⟨35,.g (QC ((m + m) + k) ((y * y) * d)),[6,7]⟩,⟨36,.g (IT (cmpQ (x * x) ((y * y) * d))),[3,8]⟩,⟨37,.g (IT (x.num.sign * cmpQ (x * x) (y * y * d))),[0,9]⟩,⟨6,.g (IT (x.num.sign * cmpQ (x * x) (y * y * d))),[10]⟩] mixedOrders (by kernel_rfl)
     ⟨fun a w G S => .of rfl (OpR.mv S.ok rfl (S.g 3 rfl)),
      fun a w G S => .of rfl (OpR.ldBox S.ok rfl (S.e 6 rfl) (S.box 2 rfl) tS_35),
      fun a w G S => .of rfl (OpR.ldBox S.ok rfl (S.e 6 rfl) (S.box 2 rfl) tS_35),
      fun a w G S => .of rfl (OpR.call2 rfl c_18 (fMul_ok S.ok (S.g 0 rfl) (S.g 1 rfl) (by omega))),
      fun a w G S => .of rfl (OpR.ldBox S.ok rfl (S.e 5 rfl) (S.box 1 rfl) tS_35),
      fun a w G S => .of rfl (OpR.ldBox S.ok rfl (S.e 5 rfl) (S.box 1 rfl) tS_35),
      fun a w G S => .of rfl (OpR.call2 rfl c_18 (fMul_ok S.ok (S.g 0 rfl) (S.g 1 rfl) (by omega))),
      fun a w G S => .of rfl (OpR.ldBox S.ok rfl (S.e 4 rfl) (S.box 0 rfl) tS_35),
      fun a w G S => .of rfl (OpR.call2 rfl c_18 (fMul_ok S.ok (QC.toQV (S.g 0 rfl)) (S.g 1 rfl) (by omega))),
      fun a w G S => .of rfl (OpR.call2 rfl c_25 (fCmp_ok S.ok (QC.toQV (S.g 0 rfl)) (QC.toQV (S.g 1 rfl)) (by omega))),
      fun a w G S => .of rfl (OpR.imul S.ok rfl (S.e 0 rfl) (S.e 1 rfl) (iw_i64 rfl (sg_cmp_bd _ _ _))),
      fun a w G S => .of rfl (OpR.asn S.ok rfl (S.g 0 rfl)),trivial⟩ fun β a w G S => ?_
    replace S : St W0 G0 38 [(6,IT (x.num.sign * cmpQ (x * x) (y * y * d))),(37,IT (x.num.sign * cmpQ (x * x) (y * y * d))),(36,IT (cmpQ (x * x) ((y * y) * d))),(35,QC ((m + m) + k) ((y * y) * d)),(34,QV k d),(33,QC (m + m) (y * y)),(32,QV m y),(31,QV m y),(30,QC (n + n) (x * x)),(29,QV n x),(28,QV n x),(27,IT x.num.sign),(25,BT (decide ((y.num.sign * d.num.sign) = 0))),(22,BT (decide (x.num.sign = (y.num.sign * d.num.sign)))),(8,IT (y.num.sign * d.num.sign)),(7,IT x.num.sign),(5,PB b5),(4,PB b4),(3,PB b3)] [⟨b5,35,some 3,QV k d⟩,⟨b4,35,some 3,QV m y⟩,⟨b3,35,some 3,QV n x⟩] a _ _ := S
    refine wpList_nil (hK _ _ ?_);clear hK K
    replace S := S.d11.d10.d9.d8.d7.d6.d5.d4.d3.d2.d1
    exact wp_ret (S.retTmp rfl ((S.e 0 rfl).trans (iv_eq (by unfold mixedF;first | rw [if_pos (by omega)] | rw [if_neg (by omega),if_pos (by omega)] | rw [if_neg (by omega),if_neg (by omega)]))))
theorem xroots_ok {n m k : Nat} {x d f : Rat} {v1 v2 v3 : Value} {W0 : World} {G0 : Gh} (hok : Gok W0 G0) (h1 : (QV n x).t v1 G0) (h2 : (QV m d).t v2 G0) (h3 : (QV k f).t v3 G0) (hn : 8 * n + 8 * m + 8 * k + 1000 ≤ BIG) : Calls Try.prog 60 #[v1,v2,v3] W0 (Ret W0 G0 (IT (rootsF x d f))) := by
 refine St.enter (N := 36) (L := [(2,QV k f),(1,QV m d),(0,QV n x)]) (args := [v1,v2,v3]) Try.func60 rfl rfl rfl hok (enter3 h1 h2 h3) fun a S => ?_
 refine wp_reg fun K hK => ?_
 refine S.boxop (x := .tmp 0) (τ := QV n x) (S.g 2 rfl) (sh (τ := QV n x) (S.g 2 rfl)) rfl rfl rfl rfl rfl fun b3 a w G S => ?_
 refine S.boxop (x := .tmp 1) (τ := QV m d) (S.g 2 rfl) (sh (τ := QV m d) (S.g 2 rfl)) rfl rfl rfl rfl rfl fun b4 a w G S => ?_
 refine S.boxop (x := .tmp 2) (τ := QV k f) (S.g 2 rfl) (sh (τ := QV k f) (S.g 2 rfl)) rfl rfl rfl rfl rfl fun b5 a w G S => ?_
 refine S.s (τ := NT 0) (OpR.asn S.ok rfl (rfl : _ = nv .i64 0)) rfl fun a w G S => ?_
 refine wpList_nil (hK _ _ ?_);clear hK K
 replace S := S.d6.d5.d4
 refine wp_reg fun K hK => ?_
 refine S.s (τ := QC 64 2) (OpR.conv' (OpR.call1 rfl c_72 (fOf_ok S.ok ((rfl : _ = nv .i64 2).trans (iv_eq (by first | rfl | omega | (simp only [Nat.zero_add,Nat.add_zero];done) | (simp;done) | (push_cast;omega)))) (by omega))) fun _ _ h => (QC.eq h (by rfl))) rfl fun a w G S => ?_
 refine S.alloc rfl rfl rfl z_35 zs_35 rfl rfl fun b7 a w G S => ?_
 refine S.store (τ := QC 64 2) 0 rfl rfl rfl rfl (S.e 0 rfl) tS_35 (S.g 1 rfl) (sh (τ := QC 64 2) (S.g 1 rfl)) fun w S => ?_
 replace S := S.n0
 refine wpList_nil (hK _ _ ?_);clear hK K
 replace S := S.d1
 refine wp_reg fun K hK => ?_
 refine S.s (OpR.ldBox S.ok rfl (S.e 4 rfl) (S.box 3 rfl) tS_35) rfl fun a w G S => ?_
 refine S.s (OpR.ldBox S.ok rfl (S.e 1 rfl) (S.box 0 rfl) tS_35) rfl fun a w G S => ?_
 refine S.s (OpR.ldBox S.ok rfl (S.e 5 rfl) (S.box 2 rfl) tS_35) rfl fun a w G S => ?_
 refine S.s (τ := IT (mixedF x 2 d)) (OpR.call3 rfl c_73 (xmixed_ok S.ok (S.g 2 rfl) (QC.toQV (S.g 1 rfl)) (S.g 0 rfl) (by omega))) rfl fun a w G S => ?_
 refine S.s (OpR.asn S.ok rfl (S.g 0 rfl)) rfl fun a w G S => ?_
 refine wpList_nil (hK _ _ ?_);clear hK K
 replace S := S.d4.d3.d2.d1
 refine wp_seq_k fun K hK => ?_
 refine wp_reg fun K hK => ?_
 refine S.s (OpR.mv S.ok rfl (S.g 0 rfl)) rfl fun a w G S => ?_
 refine S.s (OpR.ilss S.ok rfl (S.e 0 rfl) (rfl : _ = nv .i64 0) MT.self) rfl fun a w G S => ?_
 refine wpList_nil (hK _ _ ?_);clear hK K
 replace S := S.d2.d1
 refine S.cond 0 rfl (fun hc1 => ?_) (fun hc1 => ?_)
 ·
  have hp2 := of_decide_eq_true hc1
  refine wp_reg fun K hK => ?_
  replace S := S.d2
  refine S.s (τ := IT (-1)) (OpR.asn S.ok rfl (rfl : _ = Value.int .i64 (-1))) rfl fun a w G S => ?_
  refine wpList_nil (hK _ _ ?_);clear hK K
  exact wp_ret (then_ret (S.retTmp rfl ((S.e 0 rfl).trans (iv_eq (if_pos ‹_›).symm))))
 ·
  have hp3 := of_decide_eq_false hc1
  refine wp_skip ?_
  refine hK _ _ ?_;clear hK K
  refine wp_reg fun K hK => ?_
  refine S.s (τ := QC 64 4) (OpR.conv' (OpR.call1 rfl c_72 (fOf_ok S.ok ((rfl : _ = nv .i64 4).trans (iv_eq (by first | rfl | omega | (simp only [Nat.zero_add,Nat.add_zero];done) | (simp;done) | (push_cast;omega)))) (by omega))) fun _ _ h => (QC.eq h (by rfl))) rfl fun a w G S => ?_
  refine S.alloc rfl rfl rfl z_35 zs_35 rfl rfl fun b9 a w G S => ?_
  refine S.store (τ := QC 64 4) 0 rfl rfl rfl rfl (S.e 0 rfl) tS_35 (S.g 1 rfl) (sh (τ := QC 64 4) (S.g 1 rfl)) fun w S => ?_
  replace S := S.n0
  refine wpList_nil (hK _ _ ?_);clear hK K
  replace S := S.d1
  refine wp_seq_k fun K hK => ?_
  refine S.drawn [⟨19,.g (QV n x),[]⟩,⟨20,.g (QV n x),[]⟩,⟨21,.g (QC (n + n) (x * x)),[0,1]⟩,⟨22,.g (QC 64 4),[]⟩,⟨23,.g (QV m d),[]⟩,⟨24,.g (QC (64 + m) (4 * d)),[3,4]⟩,⟨25,.g (QC ((n + n) + (64 + m) + 1) ((x * x) + (4 * d))),[2,5]⟩,⟨26,.g (QC 64 4),[]⟩,⟨27,.g (QV k f),[]⟩,⟨28,.g (QC (64 + k) (4 * f)),[7,8]⟩,⟨29,.g (QC (((n + n) + (64 + m) + 1) + (64 + k) + 1) (((x * x) + (4 * d)) - (4 * f))),[6,9]⟩,⟨10,.al mkP 35 (some 3) (MT.ex (.agg #[.bool false,.slice none 0 0,.slice none 0 0])),[]⟩] mixedOrders (by kernel_rfl)
   ⟨fun a w G S => .of rfl (OpR.ldBox S.ok rfl (S.e 6 rfl) (S.box 4 rfl) tS_35),
    fun a w G S => .of rfl (OpR.ldBox S.ok rfl (S.e 6 rfl) (S.box 4 rfl) tS_35),
    fun a w G S => .of rfl (OpR.call2 rfl c_18 (fMul_ok S.ok (S.g 0 rfl) (S.g 1 rfl) (by omega))),
    fun a w G S => .of rfl (OpR.ldBox S.ok rfl (S.e 0 rfl) (S.box 0 rfl) tS_35),
    fun a w G S => .of rfl (OpR.ldBox S.ok rfl (S.e 5 rfl) (S.box 3 rfl) tS_35),
    fun a w G S => .of rfl (OpR.call2 rfl c_18 (fMul_ok S.ok (QC.toQV (S.g 0 rfl)) (S.g 1 rfl) (by omega))),
    fun a w G S => .of rfl (OpR.call2 rfl c_22 (fAdd_ok S.ok (QC.toQV (S.g 0 rfl)) (QC.toQV (S.g 1 rfl)) (by omega))),
    fun a w G S => .of rfl (OpR.ldBox S.ok rfl (S.e 0 rfl) (S.box 0 rfl) tS_35),
    fun a w G S => .of rfl (OpR.ldBox S.ok rfl (S.e 4 rfl) (S.box 2 rfl) tS_35),
    fun a w G S => .of rfl (OpR.call2 rfl c_18 (fMul_ok S.ok (QC.toQV (S.g 0 rfl)) (S.g 1 rfl) (by omega))),
    fun a w G S => .of rfl (OpR.call2 rfl c_61 (fSub_ok S.ok (QC.toQV (S.g 0 rfl)) (QC.toQV (S.g 1 rfl)) (by omega))),
    ⟨fun _ => rfl,rfl,fun a w G S => OpB.alloc S.ok rfl z_35 zs_35⟩,trivial⟩ fun β a w G S => ?_
  replace S : St W0 G0 36 [(10,PB (β 11)),(29,QC (((n + n) + (64 + m) + 1) + (64 + k) + 1) (((x * x) + (4 * d)) - (4 * f))),(28,QC (64 + k) (4 * f)),(27,QV k f),(26,QC 64 4),(25,QC ((n + n) + (64 + m) + 1) ((x * x) + (4 * d))),(24,QC (64 + m) (4 * d)),(23,QV m d),(22,QC 64 4),(21,QC (n + n) (x * x)),(20,QV n x),(19,QV n x),(9,PB b9),(17,BT (decide ((mixedF x 2 d) < 0))),(7,PB b7),(6,NT 0),(5,PB b5),(4,PB b4),(3,PB b3)] [⟨(β 11),35,some 3,MT.ex ((.agg #[.bool false,.slice none 0 0,.slice none 0 0] : Value))⟩,⟨b9,35,some 3,QC 64 4⟩,⟨b7,35,some 3,QC 64 2⟩,⟨b5,35,some 3,QV k f⟩,⟨b4,35,some 3,QV m d⟩,⟨b3,35,some 3,QV n x⟩] a _ _ := S
  generalize β 11 = b10 at S
  refine S.store (τ := QC (((n + n) + (64 + m) + 1) + (64 + k) + 1) (((x * x) + (4 * d)) - (4 * f))) 0 rfl rfl rfl rfl (S.e 0 rfl) tS_35 (S.g 1 rfl) (sh (τ := QC (((n + n) + (64 + m) + 1) + (64 + k) + 1) (((x * x) + (4 * d)) - (4 * f))) (S.g 1 rfl)) fun w S => ?_
  replace S := S.n0
  refine wpList_nil (hK _ _ ?_);clear hK K
  replace S := S.d16.d11.d10.d9.d8.d7.d6.d5.d4.d3.d2.d1
  refine wp_seq_k fun K hK => ?_
  replace S := S.d4
  refine S.drawn [⟨30,.g (QC (((n + n) + (64 + m) + 1) + (64 + k) + 1) (((x * x) + (4 * d)) - (4 * f))),[]⟩,⟨31,.g (QC 64 4),[]⟩,⟨32,.g (QV n x),[]⟩,⟨33,.g (QC (64 + n) (4 * x)),[1,2]⟩,⟨34,.g (QV m d),[]⟩,⟨35,.g (IT (mixedF (((x * x) + (4 * d)) - (4 * f)) (4 * x) d)),[0,3,4]⟩,⟨6,.g (IT (mixedF (((x * x) + (4 * d)) - (4 * f)) (4 * x) d)),[5]⟩] mixedOrders (by kernel_rfl)
   ⟨fun a w G S => .of rfl (OpR.ldBox S.ok rfl (S.e 0 rfl) (S.box 0 rfl) tS_35),
    fun a w G S => .of rfl (OpR.ldBox S.ok rfl (S.e 1 rfl) (S.box 1 rfl) tS_35),
    fun a w G S => .of rfl (OpR.ldBox S.ok rfl (S.e 5 rfl) (S.box 5 rfl) tS_35),
    fun a w G S => .of rfl (OpR.call2 rfl c_18 (fMul_ok S.ok (QC.toQV (S.g 0 rfl)) (S.g 1 rfl) (by omega))),
    fun a w G S => .of rfl (OpR.ldBox S.ok rfl (S.e 4 rfl) (S.box 4 rfl) tS_35),
    fun a w G S => .of rfl (OpR.call3 rfl c_73 (xmixed_ok S.ok (QC.toQV (S.g 0 rfl)) (QC.toQV (S.g 1 rfl)) (S.g 2 rfl) (by omega))),
    fun a w G S => .of rfl (OpR.asn S.ok rfl (S.g 0 rfl)),trivial⟩ fun β a w G S => ?_
  replace S : St W0 G0 36 [(6,IT (mixedF (((x * x) + (4 * d)) - (4 * f)) (4 * x) d)),(35,IT (mixedF (((x * x) + (4 * d)) - (4 * f)) (4 * x) d)),(34,QV m d),(33,QC (64 + n) (4 * x)),(32,QV n x),(31,QC 64 4),(30,QC (((n + n) + (64 + m) + 1) + (64 + k) + 1) (((x * x) + (4 * d)) - (4 * f))),(10,PB b10),(9,PB b9),(17,BT (decide ((mixedF x 2 d) < 0))),(7,PB b7),(4,PB b4),(3,PB b3)] [⟨b10,35,some 3,QC (((n + n) + (64 + m) + 1) + (64 + k) + 1) (((x * x) + (4 * d)) - (4 * f))⟩,⟨b9,35,some 3,QC 64 4⟩,⟨b7,35,some 3,QC 64 2⟩,⟨b5,35,some 3,QV k f⟩,⟨b4,35,some 3,QV m d⟩,⟨b3,35,some 3,QV n x⟩] a _ _ := S
  refine wpList_nil (hK _ _ ?_);clear hK K
  replace S := S.d6.d5.d4.d3.d2.d1
  exact wp_ret (S.retTmp rfl ((S.e 0 rfl).trans (iv_eq (if_neg ‹_›).symm)))
theorem xsquare_ok {n : Nat} {xs : List Rat} {v1 : Value} {W0 : World} {G0 : Gh} (hok : Gok W0 G0) (h1 : (LS (some 3) ((xs).map (QV n))).t v1 G0) (hl : 2 ≤ xs.length) (hn : n + n + 1 ≤ BIG) : Calls Try.prog 58 #[v1] W0 (Ret W0 G0 (MT.tup2 (QC (n + n + 1) (xs.getD 0 default + xs.getD 1 default)) (QC (n + n) (xs.getD 0 default * xs.getD 1 default)))) := by
 refine St.enter (N := 18) (L := [(0,LS (some 3) ((xs).map (QV n)))]) (args := [v1]) Try.func58 rfl rfl rfl hok (enter1 h1) fun a S => ?_
 refine wp_reg fun K hK => ?_
 refine S.alloc rfl rfl rfl z_35 zs_35 rfl rfl fun b2 a w G S => ?_
 refine S.alloc rfl rfl rfl z_35 zs_35 rfl rfl fun b3 a w G S => ?_
 refine wpList_nil (hK _ _ ?_);clear hK K
 refine wp_seq_k fun K hK => ?_
 refine S.drawn [⟨4,.g (LS (some 3) ((xs).map (QV n))),[]⟩,⟨5,.g (PE (some 3) (QV n (xs.getD 0 default))),[0]⟩,⟨6,.g (QV n (xs.getD 0 default)),[1]⟩,⟨7,.g (LS (some 3) ((xs).map (QV n))),[]⟩,⟨8,.g (PE (some 3) (QV n (xs.getD 1 default))),[3]⟩,⟨9,.g (QV n (xs.getD 1 default)),[4]⟩,⟨10,.g (QC (n + n + 1) ((xs.getD 0 default) + (xs.getD 1 default))),[2,5]⟩,⟨11,.g (LS (some 3) ((xs).map (QV n))),[]⟩,⟨12,.g (PE (some 3) (QV n (xs.getD 0 default))),[7]⟩,⟨13,.g (QV n (xs.getD 0 default)),[8]⟩,⟨14,.g (LS (some 3) ((xs).map (QV n))),[]⟩,⟨15,.g (PE (some 3) (QV n (xs.getD 1 default))),[10]⟩,⟨16,.g (QV n (xs.getD 1 default)),[11]⟩,⟨17,.g (QC (n + n) ((xs.getD 0 default) * (xs.getD 1 default))),[9,12]⟩] mixedOrders (by kernel_rfl)
  ⟨fun a w G S => .of rfl (OpR.mv S.ok rfl (S.g 2 rfl)),
   fun a w G S => .of rfl (OpR.ixM (T := (QV n)) (xs := xs) (i := 0) S.ok rfl Try.underlying22 tS_35 (S.g 0 rfl) (rfl : _ = nv .i64 0) rfl (by first | omega | (simp only [List.length_set,List.length_take,List.length_drop,List.length_append,List.length_map,List.length_replicate];omega))),
   fun a w G S => .of rfl (OpR.ldE S.ok rfl tS_35 (S.g 0 rfl)),
   fun a w G S => .of rfl (OpR.mv S.ok rfl (S.g 2 rfl)),
   fun a w G S => .of rfl (OpR.ixM (T := (QV n)) (xs := xs) (i := 1) S.ok rfl Try.underlying22 tS_35 (S.g 0 rfl) (rfl : _ = nv .i64 1) rfl (by first | omega | (simp only [List.length_set,List.length_take,List.length_drop,List.length_append,List.length_map,List.length_replicate];omega))),
   fun a w G S => .of rfl (OpR.ldE S.ok rfl tS_35 (S.g 0 rfl)),
   fun a w G S => .of rfl (OpR.call2 rfl c_22 (fAdd_ok S.ok (S.g 0 rfl) (S.g 1 rfl) (by omega))),
   fun a w G S => .of rfl (OpR.mv S.ok rfl (S.g 2 rfl)),
   fun a w G S => .of rfl (OpR.ixM (T := (QV n)) (xs := xs) (i := 0) S.ok rfl Try.underlying22 tS_35 (S.g 0 rfl) (rfl : _ = nv .i64 0) rfl (by first | omega | (simp only [List.length_set,List.length_take,List.length_drop,List.length_append,List.length_map,List.length_replicate];omega))),
   fun a w G S => .of rfl (OpR.ldE S.ok rfl tS_35 (S.g 0 rfl)),
   fun a w G S => .of rfl (OpR.mv S.ok rfl (S.g 2 rfl)),
   fun a w G S => .of rfl (OpR.ixM (T := (QV n)) (xs := xs) (i := 1) S.ok rfl Try.underlying22 tS_35 (S.g 0 rfl) (rfl : _ = nv .i64 1) rfl (by first | omega | (simp only [List.length_set,List.length_take,List.length_drop,List.length_append,List.length_map,List.length_replicate];omega))),
   fun a w G S => .of rfl (OpR.ldE S.ok rfl tS_35 (S.g 0 rfl)),
   fun a w G S => .of rfl (OpR.call2 rfl c_18 (fMul_ok S.ok (S.g 0 rfl) (S.g 1 rfl) (by omega))),trivial⟩ fun β a w G S => ?_
 replace S : St W0 G0 18 [(17,QC (n + n) ((xs.getD 0 default) * (xs.getD 1 default))),(16,QV n (xs.getD 1 default)),(15,PE (some 3) (QV n (xs.getD 1 default))),(14,LS (some 3) ((xs).map (QV n))),(13,QV n (xs.getD 0 default)),(12,PE (some 3) (QV n (xs.getD 0 default))),(11,LS (some 3) ((xs).map (QV n))),(10,QC (n + n + 1) ((xs.getD 0 default) + (xs.getD 1 default))),(9,QV n (xs.getD 1 default)),(8,PE (some 3) (QV n (xs.getD 1 default))),(7,LS (some 3) ((xs).map (QV n))),(6,QV n (xs.getD 0 default)),(5,PE (some 3) (QV n (xs.getD 0 default))),(4,LS (some 3) ((xs).map (QV n))),(3,PB b3),(2,PB b2),(0,LS (some 3) ((xs).map (QV n)))] [⟨b3,35,some 3,MT.ex ((.agg #[.bool false,.slice none 0 0,.slice none 0 0] : Value))⟩,⟨b2,35,some 3,MT.ex ((.agg #[.bool false,.slice none 0 0,.slice none 0 0] : Value))⟩] a _ _ := S
 refine S.store (τ := QC (n + n + 1) ((xs.getD 0 default) + (xs.getD 1 default))) 1 rfl rfl rfl rfl (S.e 15 rfl) tS_35 (S.g 7 rfl) (sh (τ := QC (n + n + 1) ((xs.getD 0 default) + (xs.getD 1 default))) (S.g 7 rfl)) fun w S => ?_
 replace S := S.n1
 refine S.store (τ := QC (n + n) ((xs.getD 0 default) * (xs.getD 1 default))) 0 rfl rfl rfl rfl (S.e 14 rfl) tS_35 (S.g 0 rfl) (sh (τ := QC (n + n) ((xs.getD 0 default) * (xs.getD 1 default))) (S.g 0 rfl)) fun w S => ?_
 replace S := S.n0
 refine wpList_nil (hK _ _ ?_);clear hK K
 replace S := S.d16.d13.d12.d11.d10.d9.d8.d7.d6.d5.d4.d3.d2.d1.d0
 exact wp_ret (S.retCell2 (i := 1) (i2 := 0) rfl (S.e 1 rfl) rfl tS_35 (S.e 0 rfl) rfl tS_35 (fun _ h => (QC.eq h (by first | rfl | omega | (simp only [Nat.zero_add,Nat.add_zero];done) | (simp;done) | (push_cast;omega)))) (fun _ h => (QC.eq h (by first | rfl | omega | (simp only [Nat.zero_add,Nat.add_zero];done) | (simp;done) | (push_cast;omega)))))
theorem xpair_ok {n : Nat} {xs : List Rat} {v1 : Value} {W0 : World} {G0 : Gh} (hok : Gok W0 G0) (h1 : (LS (some 3) ((xs).map (QV n))).t v1 G0) (hn : 1 ≤ n) : Calls Try.prog 59 #[v1] W0 (Ret W0 G0 (LS (some 3) ((pairF xs).map (QV n)))) := by
 refine St.enter (N := 11) (L := [(0,LS (some 3) ((xs).map (QV n)))]) (args := [v1]) Try.func59 rfl rfl rfl hok (enter1 h1) fun a S => ?_
 refine wp_reg fun K hK => ?_
 refine S.s (τ := MT.ex (Value.slice none 0 0)) (OpR.asn S.ok rfl rfl) rfl fun a w G S => ?_
 refine wpList_nil (hK _ _ ?_);clear hK K
 refine wp_reg fun K hK => ?_
 refine S.s (τ := QR false ([]) ([])) (OpR.bQ0 S.ok rfl bt_35_) rfl fun a w G S => ?_
 refine S.s (τ := QR false ([]) ([])) (OpR.bQ0 S.ok rfl bt_35_) rfl fun a w G S => ?_
 refine S.buildO (k := some 3) (τs := [0,0].map (QV n)) (us := [a.eval (.tmp 4),a.eval (.tmp 5)]) rfl rfl rfl Try.underlying22 el_35 rfl (by decide) (by decide) (by simp [Act.eval]) rfl (Els.cons (sh (τ := QV n 0) (QR.zQV (n := n) (S.g 1 rfl) (by omega))) (QR.zQV (n := n) (S.g 1 rfl) (by omega)) (Els.cons (sh (τ := QV n 0) (QR.zQV (n := n) (S.g 0 rfl) (by omega))) (QR.zQV (n := n) (S.g 0 rfl) (by omega)) Els.nil)) rfl rfl fun b6 a w G S => ?_
 refine S.s (OpR.asn S.ok rfl (S.g 0 rfl)) rfl fun a w G S => ?_
 refine wpList_nil (hK _ _ ?_);clear hK K
 replace S := S.d3.d2.d1
 refine wp_reg fun K hK => ?_
 refine S.s (OpR.mv S.ok rfl (S.g 0 rfl)) rfl fun a w G S => ?_
 refine S.s (OpR.mv S.ok rfl (S.g 3 rfl)) rfl fun a w G S => ?_
 refine S.copySM (k := some 3) (T := (QV n)) (ys := xs) 0 rfl rfl rfl Try.underlying22 el_35 rfl (S.e 1 rfl) (by simp) (S.g 0 rfl) rfl rfl fun a w G S => ?_
 refine wpList_nil (hK _ _ ?_);clear hK K
 replace S : St W0 G0 11 [(3,MT.ex (Value.slice (some ⟨b6,0,none⟩) (2) (2))),(2,MT.ex (Value.slice none 0 0))] [⟨b6,35,some (2 * (some 3 : Option Nat).getD 1),ROWS (some 3) ((xs.take (2) ++ ([0,0]).drop xs.length).map (QV n))⟩] a _ _ := S.keep [3,4]
 refine wp_reg fun K hK => ?_
 obtain ⟨vz1,Gz1,hz1,hs1,hg1,hle1,S⟩ := S.freeze 0 rfl
 have hsl1 := ROWS.slM hz1 hg1 (by simp;omega) (Nat.le_refl _) (by decide) (rfl : _ = Value.slice (some ⟨b6,0,none⟩) (2) (2))
 replace S := S.also (t := 3) (τ := LS (some 3) ((xs.take (2) ++ ([0,0]).drop xs.length).map (QV n))) ((S.e 0 rfl).symm ▸ hsl1)
 replace S : St W0 G0 11 [(3,LS (some 3) ((xs.take (2) ++ ([0,0]).drop xs.length).map (QV n))),(2,MT.ex (Value.slice none 0 0))] [] a _ _ := S.keep [0,2]
 refine S.s (OpR.mv S.ok rfl (S.g 0 rfl)) rfl fun a w G S => ?_
 replace S := S.d2
 refine S.s (OpR.asn S.ok rfl (S.g 0 rfl)) rfl fun a w G S => ?_
 refine wpList_nil (hK _ _ ?_);clear hK K
 replace S := S.d1
 exact wp_ret (S.retTmp rfl (LS.eqM (S.g 0 rfl) rfl))
theorem xcompare_ok {n m : Nat} {xs ys : List Rat} {v1 v2 : Value} {W0 : World} {G0 : Gh} (hok : Gok W0 G0) (h1 : (LS (some 3) ((xs).map (QV n))).t v1 G0) (h2 : (LS (some 3) ((ys).map (QV m))).t v2 G0) (hn1 : 1 ≤ n) (hm1 : 1 ≤ m) (hl : 100 * n + 100 * m + 1000 ≤ BIG) : Calls Try.prog 34 #[v1,v2] W0 (Ret W0 G0 (IT (compareF xs ys))) := by
 refine St.enter (N := 27) (L := [(1,LS (some 3) ((ys).map (QV m))),(0,LS (some 3) ((xs).map (QV n)))]) (args := [v1,v2]) Try.func34 rfl rfl rfl hok (enter2 h1 h2) fun a S => ?_
 refine wp_reg fun K hK => ?_
 refine S.s (τ := NT 0) (OpR.asn S.ok rfl (rfl : _ = nv .i64 0)) rfl fun a w G S => ?_
 refine wpList_nil (hK _ _ ?_);clear hK K
 refine wp_reg fun K hK => ?_
 refine S.s (OpR.mv S.ok rfl (S.g 2 rfl)) rfl fun a w G S => ?_
 refine S.s (τ := LS (some 3) ((pairF xs).map (QV n))) (OpR.call1 rfl c_59 (xpair_ok S.ok (S.g 0 rfl) (by omega))) rfl fun a w G S => ?_
 refine S.s (τ := MT.tup2 (QC (n + n + 1) ((pairF xs).getD 0 default + (pairF xs).getD 1 default)) (QC (n + n) ((pairF xs).getD 0 default * (pairF xs).getD 1 default))) (OpR.call1 rfl c_58 (xsquare_ok S.ok (LS.eqM (S.g 0 rfl) (by first | rfl | omega | (simp only [Nat.zero_add,Nat.add_zero];done) | (simp;done) | (push_cast;omega))) pairF_len (by omega))) rfl fun a w G S => ?_
 refine S.s (OpR.mv S.ok rfl (S.g 0 rfl)) rfl fun a w G S => ?_
 refine S.s (OpR.ext2a S.ok rfl (S.g 0 rfl)) rfl fun a w G S => ?_
 refine S.s (OpR.ext2b S.ok rfl (S.g 1 rfl)) rfl fun a w G S => ?_
 refine S.alloc rfl rfl rfl z_35 zs_35 rfl rfl fun b5 a w G S => ?_
 refine S.alloc rfl rfl rfl z_35 zs_35 rfl rfl fun b6 a w G S => ?_
 refine S.store (τ := QC (n + n + 1) ((pairF xs).getD 0 default + (pairF xs).getD 1 default)) 1 rfl rfl rfl rfl (S.e 1 rfl) tS_35 (S.g 3 rfl) (sh (τ := QC (n + n + 1) ((pairF xs).getD 0 default + (pairF xs).getD 1 default)) (S.g 3 rfl)) fun w S => ?_
 replace S := S.n1
 refine S.store (τ := QC (n + n) ((pairF xs).getD 0 default * (pairF xs).getD 1 default)) 0 rfl rfl rfl rfl (S.e 0 rfl) tS_35 (S.g 2 rfl) (sh (τ := QC (n + n) ((pairF xs).getD 0 default * (pairF xs).getD 1 default)) (S.g 2 rfl)) fun w S => ?_
 replace S := S.n0
 refine wpList_nil (hK _ _ ?_);clear hK K
 replace S := S.d10.d7.d6.d5.d4.d3.d2
 refine wp_reg fun K hK => ?_
 refine S.s (OpR.mv S.ok rfl (S.g 3 rfl)) rfl fun a w G S => ?_
 refine S.s (τ := LS (some 3) ((pairF ys).map (QV m))) (OpR.call1 rfl c_59 (xpair_ok S.ok (S.g 0 rfl) (by omega))) rfl fun a w G S => ?_
 refine S.s (τ := MT.tup2 (QC (m + m + 1) ((pairF ys).getD 0 default + (pairF ys).getD 1 default)) (QC (m + m) ((pairF ys).getD 0 default * (pairF ys).getD 1 default))) (OpR.call1 rfl c_58 (xsquare_ok S.ok (LS.eqM (S.g 0 rfl) (by first | rfl | omega | (simp only [Nat.zero_add,Nat.add_zero];done) | (simp;done) | (push_cast;omega))) pairF_len (by omega))) rfl fun a w G S => ?_
 refine S.s (OpR.mv S.ok rfl (S.g 0 rfl)) rfl fun a w G S => ?_
 refine S.s (OpR.ext2a S.ok rfl (S.g 0 rfl)) rfl fun a w G S => ?_
 refine S.s (OpR.ext2b S.ok rfl (S.g 1 rfl)) rfl fun a w G S => ?_
 refine S.alloc rfl rfl rfl z_35 zs_35 rfl rfl fun b7 a w G S => ?_
 refine S.alloc rfl rfl rfl z_35 zs_35 rfl rfl fun b8 a w G S => ?_
 refine S.store (τ := QC (m + m + 1) ((pairF ys).getD 0 default + (pairF ys).getD 1 default)) 1 rfl rfl rfl rfl (S.e 1 rfl) tS_35 (S.g 3 rfl) (sh (τ := QC (m + m + 1) ((pairF ys).getD 0 default + (pairF ys).getD 1 default)) (S.g 3 rfl)) fun w S => ?_
 replace S := S.n1
 refine S.store (τ := QC (m + m) ((pairF ys).getD 0 default * (pairF ys).getD 1 default)) 0 rfl rfl rfl rfl (S.e 0 rfl) tS_35 (S.g 2 rfl) (sh (τ := QC (m + m) ((pairF ys).getD 0 default * (pairF ys).getD 1 default)) (S.g 2 rfl)) fun w S => ?_
 replace S := S.n0
 refine wpList_nil (hK _ _ ?_);clear hK K
 replace S := S.d11.d7.d6.d5.d4.d3.d2
 refine wp_seq_k fun K hK => ?_
 replace S := S.d4
 refine S.drawn [⟨21,.g (QC (n + n + 1) ((pairF xs).getD 0 default + (pairF xs).getD 1 default)),[]⟩,⟨22,.g (QC (m + m + 1) ((pairF ys).getD 0 default + (pairF ys).getD 1 default)),[]⟩,⟨23,.g (QC ((n + n + 1) + (m + m + 1) + 1) (((pairF xs).getD 0 default + (pairF xs).getD 1 default) - ((pairF ys).getD 0 default + (pairF ys).getD 1 default))),[0,1]⟩,⟨24,.g (QC (n + n) ((pairF xs).getD 0 default * (pairF xs).getD 1 default)),[]⟩,⟨25,.g (QC (m + m) ((pairF ys).getD 0 default * (pairF ys).getD 1 default)),[]⟩,⟨26,.g (IT (rootsF (((pairF xs).getD 0 default + (pairF xs).getD 1 default) - ((pairF ys).getD 0 default + (pairF ys).getD 1 default)) ((pairF xs).getD 0 default * (pairF xs).getD 1 default) ((pairF ys).getD 0 default * (pairF ys).getD 1 default))),[2,3,4]⟩,⟨4,.g (IT (rootsF (((pairF xs).getD 0 default + (pairF xs).getD 1 default) - ((pairF ys).getD 0 default + (pairF ys).getD 1 default)) ((pairF xs).getD 0 default * (pairF xs).getD 1 default) ((pairF ys).getD 0 default * (pairF ys).getD 1 default))),[5]⟩] mixedOrders (by kernel_rfl)
  ⟨fun a w G S => .of rfl (OpR.ldBox S.ok rfl (S.e 3 rfl) (S.box 3 rfl) tS_35),
   fun a w G S => .of rfl (OpR.ldBox S.ok rfl (S.e 1 rfl) (S.box 1 rfl) tS_35),
   fun a w G S => .of rfl (OpR.call2 rfl c_61 (fSub_ok S.ok (QC.toQV (S.g 0 rfl)) (QC.toQV (S.g 1 rfl)) (by omega))),
   fun a w G S => .of rfl (OpR.ldBox S.ok rfl (S.e 2 rfl) (S.box 2 rfl) tS_35),
   fun a w G S => .of rfl (OpR.ldBox S.ok rfl (S.e 0 rfl) (S.box 0 rfl) tS_35),
   fun a w G S => .of rfl (OpR.call3 rfl c_60 (xroots_ok S.ok (QC.toQV (S.g 0 rfl)) (QC.toQV (S.g 1 rfl)) (QC.toQV (S.g 2 rfl)) (by omega))),
   fun a w G S => .of rfl (OpR.asn S.ok rfl (S.g 0 rfl)),trivial⟩ fun β a w G S => ?_
 replace S : St W0 G0 27 [(4,IT (rootsF (((pairF xs).getD 0 default + (pairF xs).getD 1 default) - ((pairF ys).getD 0 default + (pairF ys).getD 1 default)) ((pairF xs).getD 0 default * (pairF xs).getD 1 default) ((pairF ys).getD 0 default * (pairF ys).getD 1 default))),(26,IT (rootsF (((pairF xs).getD 0 default + (pairF xs).getD 1 default) - ((pairF ys).getD 0 default + (pairF ys).getD 1 default)) ((pairF xs).getD 0 default * (pairF xs).getD 1 default) ((pairF ys).getD 0 default * (pairF ys).getD 1 default))),(25,QC (m + m) ((pairF ys).getD 0 default * (pairF ys).getD 1 default)),(24,QC (n + n) ((pairF xs).getD 0 default * (pairF xs).getD 1 default)),(23,QC ((n + n + 1) + (m + m + 1) + 1) (((pairF xs).getD 0 default + (pairF xs).getD 1 default) - ((pairF ys).getD 0 default + (pairF ys).getD 1 default))),(22,QC (m + m + 1) ((pairF ys).getD 0 default + (pairF ys).getD 1 default)),(21,QC (n + n + 1) ((pairF xs).getD 0 default + (pairF xs).getD 1 default)),(8,PB b8),(7,PB b7),(6,PB b6),(5,PB b5)] [⟨b8,35,some 3,QC (m + m) ((pairF ys).getD 0 default * (pairF ys).getD 1 default)⟩,⟨b7,35,some 3,QC (m + m + 1) ((pairF ys).getD 0 default + (pairF ys).getD 1 default)⟩,⟨b6,35,some 3,QC (n + n) ((pairF xs).getD 0 default * (pairF xs).getD 1 default)⟩,⟨b5,35,some 3,QC (n + n + 1) ((pairF xs).getD 0 default + (pairF xs).getD 1 default)⟩] a _ _ := S
 refine wpList_nil (hK _ _ ?_);clear hK K
 replace S := S.d6.d5.d4.d3.d2.d1
 exact wp_ret (S.retTmp rfl ((S.e 0 rfl).trans (iv_eq (by first | rfl | omega | (simp only [Nat.zero_add,Nat.add_zero];done) | (simp;done) | (push_cast;omega)))))
end Go.Proofs.Ytdeihehaheelmaa
namespace Go.Proofs.Ytdeihehaheelmaa
set_option maxHeartbeats 1000000
set_option maxRecDepth 100000
open Go.RowKit (Below)
private theorem c_33 : callable Try.prog 33 = true := by kernel_rfl
private theorem c_34 : callable Try.prog 34 = true := by kernel_rfl
private theorem el_22 : elS Try.prog 22 1 24 (.slice none 0 0) := by unfold elS;kernel_rfl
private theorem fo_37_0 : fldOff Try.prog 37 0 = some 0 := by kernel_rfl
private theorem fo_37_1 : fldOff Try.prog 37 1 = some 3 := by kernel_rfl
private theorem fo_37_2 : fldOff Try.prog 37 2 = some 6 := by kernel_rfl
private theorem fo_37_3 : fldOff Try.prog 37 3 = some 9 := by kernel_rfl
private theorem ni_51 : (match Try.prog.underlying 51 with | some (.interface _) => false | some _ => true | none => false) = true := by kernel_rfl
private theorem tS_22 : tyS Try.prog 22 (none) = true := by kernel_rfl
theorem xCompare_ok {n : Nat} {l m2 : List FR} {v1 v2 : Value} {W0 : World} {G0 : Gh} (hok : Gok W0 G0) (h1 : (LS (some 3) ((l).map (FX n))).t v1 G0) (h2 : (LS (some 3) ((m2).map (FX n))).t v2 G0) (hn : 1000 * n + 1000 ≤ BIG) (hn1 : 1 ≤ n) : Calls Try.prog 11 #[v1,v2] W0 (Ret W0 G0 (MT.tup2 (IT (cmpRes l m2)) (MT.ex (errV 51 (cmpCode l m2))))) := by
 have hlim1 := LS.lenM h1
 have hlim2 := LS.lenM h2
 simp only [LIM] at hlim1 hlim2
 refine St.enter (N := 47) (L := [(1,LS (some 3) ((m2).map (FX n))),(0,LS (some 3) ((l).map (FX n)))]) (args := [v1,v2]) Try.func11 rfl rfl rfl hok (enter2 h1 h2) fun a S => ?_
 refine wp_reg fun K hK => ?_
 refine S.s (τ := NT 0) (OpR.asn S.ok rfl (rfl : _ = nv .i64 0)) rfl fun a w G S => ?_
 refine S.s (τ := MT.ex (Value.nilIface)) (OpR.asn S.ok rfl rfl) rfl fun a w G S => ?_
 refine wpList_nil (hK _ _ ?_);clear hK K
 refine wp_seq_k fun K hK => ?_
 refine wp_reg fun K hK => ?_
 refine S.s (OpR.mv S.ok rfl (S.g 3 rfl)) rfl fun a w G S => ?_
 refine S.s (OpR.lenM S.ok rfl Try.underlying22 (S.g 0 rfl) MT.self) rfl fun a w G S => ?_
 refine S.s (OpR.ngtr S.ok rfl (S.e 0 rfl) (rfl : _ = nv .i64 2) MT.self) rfl fun a w G S => ?_
 refine S.s (OpR.mv S.ok rfl (S.g 0 rfl)) rfl fun a w G S => ?_
 rcases Bool.eq_false_or_eq_true (decide (2 < l.length)) with hc1 | hc1
 ·
  have hp2 := of_decide_eq_true hc1
  replace S := S.boolIs 0 rfl hc1
  refine S.skipG 0 rfl rfl rfl rfl rfl rfl fun a w G S => ?_
  refine S.skipG 1 rfl rfl rfl rfl rfl rfl fun a w G S => ?_
  refine S.skipG 2 rfl rfl rfl rfl rfl rfl fun a w G S => ?_
  refine S.s (τ := BT true) (OpR.pick S.ok rfl (S.e 3 rfl) rfl) rfl fun a w G S => ?_
  refine wpList_nil (hK _ _ ?_);clear hK K
  replace S := S.d8.d7.d6.d5.d4.d3.d2.d1
  refine wp_cond_true (S.e 0 rfl) ?_
  refine wp_reg fun K hK => ?_
  refine S.s (OpR.mkI S.ok rfl ni_51 (rfl : _ = nv .i64 4) MT.self) rfl fun a w G S => ?_
  replace S := S.d3
  refine S.s (τ := NT 0) (OpR.asn S.ok rfl (rfl : _ = nv .i64 0)) rfl fun a w G S => ?_
  replace S := S.d3
  refine S.s (OpR.asn S.ok rfl (S.g 1 rfl)) rfl fun a w G S => ?_
  refine wpList_nil (hK _ _ ?_);clear hK K
  replace S := S.d2
  exact wp_ret (then_ret (S.retTmp2 rfl ((S.e 1 rfl).trans (iv_eq (by first | (unfold cmpRes;rw [cmpCode4 (by omega)];rfl) | (unfold cmpRes;rw [cmpCode3 (by omega) (two_bad (by omega) (all_not (by omega) (by first | exact goodR_not1 (not_true_of ‹_›) | exact goodR_not2 ‹_›)))];rfl) | (unfold cmpRes;rw [if_pos (cmpCode0 (by omega) (hg 0 (by omega)) (hg 1 (by omega)))])))) ((S.e 0 rfl).trans (by first | exact errV_ne (cmpCode4 (by omega)) (by decide) | exact errV_ne (cmpCode3 (by omega) (two_bad (by omega) (all_not (by omega) (by first | exact goodR_not1 (not_true_of ‹_›) | exact goodR_not2 ‹_›)))) (by decide) | exact errV_z (cmpCode0 (by omega) (hg 0 (by omega)) (hg 1 (by omega)))))))
 ·
  have hp3 := of_decide_eq_false hc1
  replace S := S.boolIs 0 rfl hc1
  refine S.stepG 0 (OpR.mv S.ok rfl (S.g 7 rfl)) rfl rfl rfl rfl rfl rfl fun a w G S => ?_
  refine S.stepG 1 (OpR.lenM S.ok rfl Try.underlying22 (S.g 0 rfl) MT.self) rfl rfl rfl rfl rfl rfl fun a w G S => ?_
  refine S.stepG 2 (OpR.ngtr S.ok rfl (S.e 0 rfl) (rfl : _ = nv .i64 2) MT.self) rfl rfl rfl rfl rfl rfl fun a w G S => ?_
  refine S.s (τ := BT (decide (2 < m2.length))) (OpR.pick S.ok rfl (S.e 3 rfl) (S.g 0 rfl)) rfl fun a w G S => ?_
  refine wpList_nil (hK _ _ ?_);clear hK K
  replace S := S.d8.d7.d6.d5.d4.d3.d2.d1
  refine S.cond 0 rfl (fun hc4 => ?_) (fun hc4 => ?_)
  ·
   have hp5 := of_decide_eq_true hc4
   refine wp_reg fun K hK => ?_
   refine S.s (OpR.mkI S.ok rfl ni_51 (rfl : _ = nv .i64 4) MT.self) rfl fun a w G S => ?_
   replace S := S.d3
   refine S.s (τ := NT 0) (OpR.asn S.ok rfl (rfl : _ = nv .i64 0)) rfl fun a w G S => ?_
   replace S := S.d3
   refine S.s (OpR.asn S.ok rfl (S.g 1 rfl)) rfl fun a w G S => ?_
   refine wpList_nil (hK _ _ ?_);clear hK K
   replace S := S.d2
   exact wp_ret (then_ret (S.retTmp2 rfl ((S.e 1 rfl).trans (iv_eq (by first | (unfold cmpRes;rw [cmpCode4 (by omega)];rfl) | (unfold cmpRes;rw [cmpCode3 (by omega) (two_bad (by omega) (all_not (by omega) (by first | exact goodR_not1 (not_true_of ‹_›) | exact goodR_not2 ‹_›)))];rfl) | (unfold cmpRes;rw [if_pos (cmpCode0 (by omega) (hg 0 (by omega)) (hg 1 (by omega)))])))) ((S.e 0 rfl).trans (by first | exact errV_ne (cmpCode4 (by omega)) (by decide) | exact errV_ne (cmpCode3 (by omega) (two_bad (by omega) (all_not (by omega) (by first | exact goodR_not1 (not_true_of ‹_›) | exact goodR_not2 ‹_›)))) (by decide) | exact errV_z (cmpCode0 (by omega) (hg 0 (by omega)) (hg 1 (by omega)))))))
  ·
   have hp6 := of_decide_eq_false hc4
   refine wp_skip ?_
   refine hK _ _ ?_;clear hK K
   refine wp_seq_k fun K hK => ?_
   refine wp_reg fun K hK => ?_
   refine S.s (OpR.mv S.ok rfl (S.g 4 rfl)) rfl fun a w G S => ?_
   refine S.s (OpR.mv S.ok rfl (S.g 4 rfl)) rfl fun a w G S => ?_
   refine S.s (τ := LS (none) (([l,m2]).map (fun (z_ : List (FR)) => LS (some 3) ((z_).map (FX n))))) (OpR.buildS (k := none) (τs := [l,m2].map (fun (z_ : List (FR)) => LS (some 3) ((z_).map (FX n)))) (us := [a.eval (.tmp 19),a.eval (.tmp 20)]) S.ok rfl Try.underlying60 el_22 rfl (by decide) (by decide) (by simp [Act.eval]) rfl (Els.cons (sh (τ := LS (some 3) ((l).map (FX n))) (S.g 1 rfl)) (S.g 1 rfl) (Els.cons (sh (τ := LS (some 3) ((m2).map (FX n))) (S.g 0 rfl)) (S.g 0 rfl) Els.nil))) rfl fun a w G S => ?_
   refine S.s (τ := NT 2) (OpR.lenM S.ok rfl Try.underlying60 (S.g 0 rfl) rfl) rfl fun a w G S => ?_
   refine S.s (τ := NT 0) (OpR.mv S.ok rfl (rfl : _ = nv .i64 0)) rfl fun a w G S => ?_
   refine wpList_nil (hK _ _ ?_);clear hK K
   replace S := S.d4.d3
   refine wp_block ?_
   refine wp_loopJ (fun μ a w => ∃ (k : Nat) (G : Gh),μ = 2 - k ∧ (k ≤ 2) ∧ (∀ i,i < k → ([l,m2].getD i default).all goodR = true) ∧  St W0 G0 47 [(23,NT k),(22,NT 2),(21,LS (none) (([l,m2]).map (fun (z_ : List (FR)) => LS (some 3) ((z_).map (FX n))))),(17,BT (decide (2 < m2.length))),(5,MT.ex (Value.nilIface)),(4,NT 0),(1,LS (some 3) ((m2).map (FX n))),(0,LS (some 3) ((l).map (FX n)))] [] a w G) (2 - 0) ⟨0,_,rfl,(by omega),(fun i h => absurd h (Nat.not_lt_zero _)),(S.keep [0,1,2,3,4,5,6,7]).keepB [] (by decide)⟩ ?_
   clear S
   intro μ a w ⟨k,G,hm,hk,hg,S⟩
   refine wp_reg fun K hK => ?_
   refine S.s (OpR.nlss S.ok rfl (S.e 0 rfl) (S.e 1 rfl) MT.self) rfl fun a w G S => ?_
   refine wpList_nil (hK _ _ ?_);clear hK K
   refine wp_seq_k fun K hK => ?_
   refine S.cond 0 rfl (fun hc7 => ?_) (fun hc7 => ?_)
   ·
    have hp8 := of_decide_eq_true hc7
    refine wp_skip ?_
    refine hK _ _ ?_;clear hK K
    refine wp_seq_k fun K hK => ?_
    refine wp_block ?_
    refine wp_reg fun K hK => ?_
    refine S.s (τ := PE (none) (LS (some 3) ((([l,m2]).getD k default).map (FX n)))) (OpR.ixM (T := (fun (z_ : List (FR)) => LS (some 3) ((z_).map (FX n)))) (xs := [l,m2]) (i := k) S.ok rfl Try.underlying60 tS_22 (S.g 3 rfl) (S.e 1 rfl) rfl (by first | omega | (simp only [List.length_set,List.length_take,List.length_drop,List.length_append,List.length_map,List.length_replicate];omega))) rfl fun a w G S => ?_
    refine S.s (OpR.ldE S.ok rfl tS_22 (S.g 0 rfl)) rfl fun a w G S => ?_
    refine S.s (OpR.asn S.ok rfl (S.g 0 rfl)) rfl fun a w G S => ?_
    refine wpList_nil (hK _ _ ?_);clear hK K
    replace S := S.d2.d1
    refine wp_reg fun K hK => ?_
    have hlk : ([l,m2].getD k default).length ≤ 35184372088832 := two_len (by omega) hlim1 hlim2
    refine S.s (OpR.mv S.ok rfl (S.g 0 rfl)) rfl fun a w G S => ?_
    refine S.s (OpR.lenM S.ok rfl Try.underlying22 (S.g 0 rfl) MT.self) rfl fun a w G S => ?_
    refine S.s (τ := NT 0) (OpR.mv S.ok rfl (rfl : _ = nv .i64 0)) rfl fun a w G S => ?_
    refine wpList_nil (hK _ _ ?_);clear hK K
    replace S := S.d3
    refine wp_block ?_
    refine wp_loopJ (fun μ a w => ∃ (j : Nat) (G : Gh),μ = ([l,m2].getD k default).length - j ∧ (j ≤ ([l,m2].getD k default).length) ∧ ((([l,m2].getD k default).take j).all goodR = true) ∧  St W0 G0 47 [(29,NT j),(28,NT ((([l,m2]).getD k default).length)),(27,LS (some 3) ((([l,m2]).getD k default).map (FX n))),(24,BT (decide (k < 2))),(23,NT k),(22,NT 2),(21,LS (none) (([l,m2]).map (fun (z_ : List (FR)) => LS (some 3) ((z_).map (FX n))))),(17,BT (decide (2 < m2.length))),(5,MT.ex (Value.nilIface)),(4,NT 0),(1,LS (some 3) ((m2).map (FX n))),(0,LS (some 3) ((l).map (FX n)))] [] a w G) (([l,m2].getD k default).length - 0) ⟨0,_,rfl,(by omega),rfl,(S.keep [0,1,2,3,4,5,6,7,8,9,10,11]).keepB [] (by decide)⟩ ?_
    clear S
    intro μ a w ⟨j,G,hm,hj,hgj,S⟩
    refine wp_reg fun K hK => ?_
    refine S.s (OpR.nlss S.ok rfl (S.e 0 rfl) (S.e 1 rfl) MT.self) rfl fun a w G S => ?_
    refine wpList_nil (hK _ _ ?_);clear hK K
    refine wp_seq_k fun K hK => ?_
    refine S.cond 0 rfl (fun hc9 => ?_) (fun hc9 => ?_)
    ·
     have hp10 := of_decide_eq_true hc9
     refine wp_skip ?_
     refine hK _ _ ?_;clear hK K
     refine wp_seq_k fun K hK => ?_
     refine wp_block ?_
     refine wp_reg fun K hK => ?_
     refine S.s (τ := PE (some 3) (FX n ((([l,m2]).getD k default).getD j default))) (OpR.ixM (T := (FX n)) (xs := ([l,m2]).getD k default) (i := j) S.ok rfl Try.underlying22 tS_35 (S.g 3 rfl) (S.e 1 rfl) rfl (by first | omega | (simp only [List.length_set,List.length_take,List.length_drop,List.length_append,List.length_map,List.length_replicate];omega))) rfl fun a w G S => ?_
     refine S.s (OpR.ldE S.ok rfl tS_35 (S.g 0 rfl)) rfl fun a w G S => ?_
     refine S.alloc rfl rfl rfl z_35 zs_35 rfl rfl fun b9 a w G S => ?_
     refine S.store (τ := FX n ((([l,m2]).getD k default).getD j default)) 0 rfl rfl rfl rfl (S.e 0 rfl) tS_35 (S.g 1 rfl) (sh (τ := FX n ((([l,m2]).getD k default).getD j default)) (S.g 1 rfl)) fun w S => ?_
     replace S := S.n0
     refine wpList_nil (hK _ _ ?_);clear hK K
     replace S := S.d2.d1
     refine wp_reg fun K hK => ?_
     refine S.s (OpR.ldBox S.ok rfl (S.e 0 rfl) (S.box 0 rfl) tS_35) rfl fun a w G S => ?_
     refine S.s (τ := BT (((([l,m2]).getD k default).getD j default).ok)) (OpR.call1 rfl c_33 (fValidX_ok S.ok (S.g 0 rfl) (by omega))) rfl fun a w G S => ?_
     refine S.s (OpR.bnot S.ok rfl (S.e 0 rfl) MT.self) rfl fun a w G S => ?_
     refine S.s (OpR.mv S.ok rfl (S.g 0 rfl)) rfl fun a w G S => ?_
     rcases Bool.eq_false_or_eq_true (!(((([l,m2]).getD k default).getD j default).ok)) with hc11 | hc11
     ·
      replace S := S.boolIs 0 rfl hc11
      refine S.skipG 0 rfl rfl rfl rfl rfl rfl fun a w G S => ?_
      refine S.skipG 1 rfl rfl rfl rfl rfl rfl fun a w G S => ?_
      refine S.skipG 2 rfl rfl rfl rfl rfl rfl fun a w G S => ?_
      refine S.s (τ := BT true) (OpR.pick S.ok rfl (S.e 3 rfl) rfl) rfl fun a w G S => ?_
      refine wpList_nil (hK _ _ ?_);clear hK K
      replace S := S.d8.d7.d6.d5.d4.d3.d2.d1
      refine wp_cond_true (S.e 0 rfl) ?_
      refine wp_reg fun K hK => ?_
      refine S.s (OpR.mkI S.ok rfl ni_51 (rfl : _ = nv .i64 3) MT.self) rfl fun a w G S => ?_
      replace S := S.d13
      refine S.s (τ := NT 0) (OpR.asn S.ok rfl (rfl : _ = nv .i64 0)) rfl fun a w G S => ?_
      replace S := S.d13
      refine S.s (OpR.asn S.ok rfl (S.g 1 rfl)) rfl fun a w G S => ?_
      refine wpList_nil (hK _ _ ?_);clear hK K
      replace S := S.d2
      exact wp_ret (block_ret (then_ret (then_ret (block_ret (block_ret (then_ret (then_ret (block_ret (then_ret (S.retTmp2 rfl ((S.e 1 rfl).trans (iv_eq (by first | (unfold cmpRes;rw [cmpCode4 (by omega)];rfl) | (unfold cmpRes;rw [cmpCode3 (by omega) (two_bad (by omega) (all_not (by omega) (by first | exact goodR_not1 (not_true_of ‹_›) | exact goodR_not2 ‹_›)))];rfl) | (unfold cmpRes;rw [if_pos (cmpCode0 (by omega) (hg 0 (by omega)) (hg 1 (by omega)))])))) ((S.e 0 rfl).trans (by first | exact errV_ne (cmpCode4 (by omega)) (by decide) | exact errV_ne (cmpCode3 (by omega) (two_bad (by omega) (all_not (by omega) (by first | exact goodR_not1 (not_true_of ‹_›) | exact goodR_not2 ‹_›)))) (by decide) | exact errV_z (cmpCode0 (by omega) (hg 0 (by omega)) (hg 1 (by omega)))))))))))))))
     ·
      replace S := S.boolIs 0 rfl hc11
      refine S.stepG 0 (OpR.ldBox S.ok rfl (S.e 5 rfl) (S.box 0 rfl) tS_35) rfl rfl rfl rfl rfl rfl fun a w G S => ?_
      refine S.stepG (τ := IT ((((([l,m2]).getD k default).getD j default).val).num.sign)) 1 (OpR.call1 rfl c_23 (fSign_ok S.ok (FX.toQV (S.g 0 rfl)) (by omega))) rfl rfl rfl rfl rfl rfl fun a w G S => ?_
      refine S.stepG 2 (OpR.ilss S.ok rfl (S.e 0 rfl) (rfl : _ = nv .i64 0) MT.self) rfl rfl rfl rfl rfl rfl fun a w G S => ?_
      refine S.s (τ := BT (decide (((((([l,m2]).getD k default).getD j default).val).num.sign) < 0))) (OpR.pick S.ok rfl (S.e 3 rfl) (S.g 0 rfl)) rfl fun a w G S => ?_
      refine wpList_nil (hK _ _ ?_);clear hK K
      replace S := S.d8.d7.d6.d5.d4.d3.d2.d1
      refine S.cond 0 rfl (fun hc14 => ?_) (fun hc14 => ?_)
      ·
       have hp15 := of_decide_eq_true hc14
       refine wp_reg fun K hK => ?_
       refine S.s (OpR.mkI S.ok rfl ni_51 (rfl : _ = nv .i64 3) MT.self) rfl fun a w G S => ?_
       replace S := S.d13
       refine S.s (τ := NT 0) (OpR.asn S.ok rfl (rfl : _ = nv .i64 0)) rfl fun a w G S => ?_
       replace S := S.d13
       refine S.s (OpR.asn S.ok rfl (S.g 1 rfl)) rfl fun a w G S => ?_
       refine wpList_nil (hK _ _ ?_);clear hK K
       replace S := S.d2
       exact wp_ret (block_ret (then_ret (then_ret (block_ret (block_ret (then_ret (then_ret (block_ret (then_ret (S.retTmp2 rfl ((S.e 1 rfl).trans (iv_eq (by first | (unfold cmpRes;rw [cmpCode4 (by omega)];rfl) | (unfold cmpRes;rw [cmpCode3 (by omega) (two_bad (by omega) (all_not (by omega) (by first | exact goodR_not1 (not_true_of ‹_›) | exact goodR_not2 ‹_›)))];rfl) | (unfold cmpRes;rw [if_pos (cmpCode0 (by omega) (hg 0 (by omega)) (hg 1 (by omega)))])))) ((S.e 0 rfl).trans (by first | exact errV_ne (cmpCode4 (by omega)) (by decide) | exact errV_ne (cmpCode3 (by omega) (two_bad (by omega) (all_not (by omega) (by first | exact goodR_not1 (not_true_of ‹_›) | exact goodR_not2 ‹_›)))) (by decide) | exact errV_z (cmpCode0 (by omega) (hg 0 (by omega)) (hg 1 (by omega)))))))))))))))
      ·
       have hp16 := of_decide_eq_false hc14
       refine wp_skip ?_
       refine hK _ _ ?_;clear hK K
       refine wp_region_lit ?_
       refine S.s (OpR.nadd S.ok rfl (S.e 3 rfl) (rfl : _ = nv .i64 1) (wr_i64 (by omega)) MT.self) rfl fun a w G S => ?_
       replace S := S.d4
       refine S.s (OpR.mv S.ok rfl (S.g 0 rfl)) rfl fun a w G S => ?_
       refine wpList_nil ?_
       replace S := S.d1
       exact ⟨([l,m2].getD k default).length - (j + 1),(by omega),j + 1,_,rfl,(by omega),(all_snoc (by omega) hgj (goodR_of (not_false_of ‹_›) ‹_›)),(S.keep [0,4,5,6,7,8,9,10,11,12,13,14]).keepB [] (by decide)⟩
    ·
     have hp17 := of_decide_eq_false hc9
     refine wp_exit (then_exit (then_exit (exit_same ?_)))
     clear hK K
     refine hK _ _ ?_;clear hK K
     refine wp_region_lit ?_
     refine S.s (OpR.nadd S.ok rfl (S.e 5 rfl) (rfl : _ = nv .i64 1) (wr_i64 (by omega)) MT.self) rfl fun a w G S => ?_
     replace S := S.d6
     refine S.s (OpR.mv S.ok rfl (S.g 0 rfl)) rfl fun a w G S => ?_
     refine wpList_nil ?_
     replace S := S.d1
     exact ⟨2 - (k + 1),(by omega),k + 1,_,rfl,(by omega),(upto_step hg (all_end ‹_› hgj)),(S.keep [0,6,7,8,9,10,11,12]).keepB [] (by decide)⟩
   ·
    have hp18 := of_decide_eq_false hc7
    refine wp_exit (then_exit (then_exit (exit_same ?_)))
    clear hK K
    refine hK _ _ ?_;clear hK K
    refine wp_reg fun K hK => ?_
    refine S.s (OpR.mv S.ok rfl (S.g 8 rfl)) rfl fun a w G S => ?_
    refine S.s (OpR.mv S.ok rfl (S.g 8 rfl)) rfl fun a w G S => ?_
    refine S.s (τ := IT (compareF (l.map FR.val) (m2.map FR.val))) (OpR.call2 rfl c_34 (xcompare_ok S.ok (LS.convM (T := (FX n)) (U := (QV n)) (f := FR.val) (S.g 1 rfl) (by first | rfl | (simp;done)) fun z_ _ _ _ h => (QV.eq (FX.toQV h) (by first | rfl | omega | (simp only [Nat.zero_add,Nat.add_zero];done) | (simp;done) | (push_cast;omega)))) (LS.convM (T := (FX n)) (U := (QV n)) (f := FR.val) (S.g 0 rfl) (by first | rfl | (simp;done)) fun z_ _ _ _ h => (QV.eq (FX.toQV h) (by first | rfl | omega | (simp only [Nat.zero_add,Nat.add_zero];done) | (simp;done) | (push_cast;omega)))) (by omega) (by omega) (by omega))) rfl fun a w G S => ?_
    replace S := S.d9
    refine S.s (OpR.asn S.ok rfl (S.g 0 rfl)) rfl fun a w G S => ?_
    replace S := S.d9
    refine S.s (τ := MT.ex (Value.nilIface)) (OpR.asn S.ok rfl rfl) rfl fun a w G S => ?_
    refine wpList_nil (hK _ _ ?_);clear hK K
    replace S := S.d4.d3.d2
    exact wp_ret (S.retTmp2 rfl ((S.e 1 rfl).trans (iv_eq (by first | (unfold cmpRes;rw [cmpCode4 (by omega)];rfl) | (unfold cmpRes;rw [cmpCode3 (by omega) (two_bad (by omega) (all_not (by omega) (by first | exact goodR_not1 (not_true_of ‹_›) | exact goodR_not2 ‹_›)))];rfl) | (unfold cmpRes;rw [if_pos (cmpCode0 (by omega) (hg 0 (by omega)) (hg 1 (by omega)))])))) ((S.e 0 rfl).trans (by first | exact errV_ne (cmpCode4 (by omega)) (by decide) | exact errV_ne (cmpCode3 (by omega) (two_bad (by omega) (all_not (by omega) (by first | exact goodR_not1 (not_true_of ‹_›) | exact goodR_not2 ‹_›)))) (by decide) | exact errV_z (cmpCode0 (by omega) (hg 0 (by omega)) (hg 1 (by omega))))))
theorem xlist_ok {n : Nat} {rg ra rb rc : FR} {v1 : Value} {W0 : World} {G0 : Gh} (hok : Gok W0 G0) (h1 : (PTS [(some 3,FX n rg),(some 3,FX n ra),(some 3,FX n rb),(some 3,FX n rc)]).t v1 G0) (hn : 1000 * n + 1000 ≤ BIG) (hn1 : 1 ≤ n) : Calls Try.prog 43 #[v1] W0 (Ret W0 G0 (LS (some 3) (([rg,ra,rb,rc]).map (FX n)))) := by
 refine St.enter (N := 12) (L := [(0,PTS [(some 3,FX n rg),(some 3,FX n ra),(some 3,FX n rb),(some 3,FX n rc)])]) (args := [v1]) Try.func43 rfl rfl rfl hok (enter1 h1) fun a S => ?_
 refine wp_reg fun K hK => ?_
 refine S.boxop (x := .tmp 0) (τ := PTS [(some 3,FX n rg),(some 3,FX n ra),(some 3,FX n rb),(some 3,FX n rc)]) (S.g 0 rfl) (sh (τ := PTS [(some 3,FX n rg),(some 3,FX n ra),(some 3,FX n rb),(some 3,FX n rc)]) (S.g 0 rfl)) rfl rfl rfl rfl rfl fun b1 a w G S => ?_
 refine S.s (τ := MT.ex (Value.slice none 0 0)) (OpR.asn S.ok rfl rfl) rfl fun a w G S => ?_
 refine wpList_nil (hK _ _ ?_);clear hK K
 replace S := S.d2
 refine wp_reg fun K hK => ?_
 refine S.s (τ := PB b1) (OpR.fldA S.ok rfl (S.e 1 rfl) fo_37_0 rfl) rfl fun a w G S => ?_
 refine S.s (OpR.ldPart S.ok rfl (S.e 0 rfl) (S.box 0 rfl) tS_35 fun _ h hs => part_load (PTS.part 0 rfl rfl h hs) rfl) rfl fun a w G S => ?_
 refine S.s (τ := MT.ex (Value.pointer (some ⟨b1,3,none⟩))) (OpR.fldA S.ok rfl (S.e 3 rfl) fo_37_1 rfl) rfl fun a w G S => ?_
 refine S.s (OpR.ldPart S.ok rfl (S.e 0 rfl) (S.box 0 rfl) tS_35 fun _ h hs => part_load (PTS.part 1 rfl rfl h hs) rfl) rfl fun a w G S => ?_
 refine S.s (τ := MT.ex (Value.pointer (some ⟨b1,6,none⟩))) (OpR.fldA S.ok rfl (S.e 5 rfl) fo_37_2 rfl) rfl fun a w G S => ?_
 refine S.s (OpR.ldPart S.ok rfl (S.e 0 rfl) (S.box 0 rfl) tS_35 fun _ h hs => part_load (PTS.part 2 rfl rfl h hs) rfl) rfl fun a w G S => ?_
 refine S.s (τ := MT.ex (Value.pointer (some ⟨b1,9,none⟩))) (OpR.fldA S.ok rfl (S.e 7 rfl) fo_37_3 rfl) rfl fun a w G S => ?_
 refine S.s (OpR.ldPart S.ok rfl (S.e 0 rfl) (S.box 0 rfl) tS_35 fun _ h hs => part_load (PTS.part 3 rfl rfl h hs) rfl) rfl fun a w G S => ?_
 refine S.s (τ := LS (some 3) (([rg,ra,rb,rc]).map (FX n))) (OpR.buildS (k := some 3) (τs := [rg,ra,rb,rc].map (FX n)) (us := [a.eval (.tmp 4),a.eval (.tmp 6),a.eval (.tmp 8),a.eval (.tmp 10)]) S.ok rfl Try.underlying22 el_35 rfl (by decide) (by decide) (by simp [Act.eval]) rfl (Els.cons (sh (τ := FX n rg) (S.g 6 rfl)) (S.g 6 rfl) (Els.cons (sh (τ := FX n ra) (S.g 4 rfl)) (S.g 4 rfl) (Els.cons (sh (τ := FX n rb) (S.g 2 rfl)) (S.g 2 rfl) (Els.cons (sh (τ := FX n rc) (S.g 0 rfl)) (S.g 0 rfl) Els.nil))))) rfl fun a w G S => ?_
 replace S := S.d9
 refine S.s (OpR.asn S.ok rfl (S.g 0 rfl)) rfl fun a w G S => ?_
 refine wpList_nil (hK _ _ ?_);clear hK K
 replace S := S.d10.d9.d8.d7.d6.d5.d4.d3.d2.d1
 exact wp_ret (S.retTmp rfl (S.g 0 rfl))
end Go.Proofs.Ytdeihehaheelmaa
namespace Go.Proofs.Ytdeihehaheelmaa
set_option maxHeartbeats 1000000
set_option maxRecDepth 100000
open Go.RowKit (Below)
private theorem el_3 : elS Try.prog 3 1 8 (.int .i64 0) := by unfold elS;kernel_rfl
private theorem tS_3 : tyS Try.prog 3 (none) = true := by kernel_rfl
theorem xorder_ok {n : Nat} {xs : List Rat} {v1 : Value} {W0 : World} {G0 : Gh} (hok : Gok W0 G0) (h1 : (LS (some 3) ((xs).map (QV n))).t v1 G0) (hl : xs.length = 4) (hn : n + n ≤ BIG) : Calls Try.prog 44 #[v1] W0 (Ret W0 G0 (LS (none) ((orderF xs).map NT))) := by
 refine St.enter (N := 54) (L := [(0,LS (some 3) ((xs).map (QV n)))]) (args := [v1]) Try.func44 rfl rfl rfl hok (enter1 h1) fun a S => ?_
 refine wp_reg fun K hK => ?_
 refine S.s (τ := MT.ex (Value.slice none 0 0)) (OpR.asn S.ok rfl rfl) rfl fun a w G S => ?_
 refine wpList_nil (hK _ _ ?_);clear hK K
 refine wp_reg fun K hK => ?_
 refine S.buildO (k := none) (τs := [0,1,2,3].map NT) (us := [Value.int .i64 (0),Value.int .i64 (1),Value.int .i64 (2),Value.int .i64 (3)]) rfl rfl rfl Try.underlying75 el_3 rfl (by decide) (by decide) (by simp [Act.eval]) rfl (Els.cons (sh (τ := NT 0) (G := fun _ => none) (rfl : _ = nv .i64 0)) (rfl : _ = nv .i64 0) (Els.cons (sh (τ := NT 1) (G := fun _ => none) (rfl : _ = nv .i64 1)) (rfl : _ = nv .i64 1) (Els.cons (sh (τ := NT 2) (G := fun _ => none) (rfl : _ = nv .i64 2)) (rfl : _ = nv .i64 2) (Els.cons (sh (τ := NT 3) (G := fun _ => none) (rfl : _ = nv .i64 3)) (rfl : _ = nv .i64 3) Els.nil)))) rfl rfl fun b6 a w G S => ?_
 refine S.s (OpR.asn S.ok rfl (S.g 0 rfl)) rfl fun a w G S => ?_
 refine wpList_nil (hK _ _ ?_);clear hK K
 replace S := S.d1
 refine wp_seq_k fun K hK => ?_
 refine wp_reg fun K hK => ?_
 refine S.s (OpR.mv S.ok rfl (S.g 0 rfl)) rfl fun a w G S => ?_
 refine S.s (OpR.lenA S.ok rfl Try.underlying75 (S.e 0 rfl) MT.self) rfl fun a w G S => ?_
 refine S.s (τ := NT 0) (OpR.mv S.ok rfl (rfl : _ = nv .i64 0)) rfl fun a w G S => ?_
 refine wpList_nil (hK _ _ ?_);clear hK K
 replace S := S.d2
 refine wp_block ?_
 replace S := S.castBox (τ' := ROWS (none) ((([0,1,2,3])).map NT)) 0 rfl fun _ h _ => (ROWS.eqM h (by first | rfl | omega | (simp;done)))
 replace S := S.n0
 refine wp_loopJ (fun μ a w => ∃ (i : Nat) (o : List Nat) (G : Gh),μ = 4 - i ∧ (i ≤ 4) ∧ (o.length = 4) ∧ (∀ x ∈ o,x < 4) ∧ (ordF xs i o (4 - i) = orderF xs) ∧  St W0 G0 54 [(9,NT i),(8,NT 4),(3,MT.ex (Value.slice (some ⟨b6,0,none⟩) (4) (4))),(2,MT.ex (Value.slice none 0 0)),(0,LS (some 3) ((xs).map (QV n)))] [⟨b6,3,some (4 * (none : Option Nat).getD 1),ROWS (none) ((o).map NT)⟩] a w G) (4 - 0) ⟨0,[0,1,2,3],_,rfl,(by omega),rfl,(by decide),rfl,(S.keep [0,1,2,3,4]).keepB [0] (by decide)⟩ ?_
 clear S
 intro μ a w ⟨i,o,G,hm,hi,ho,hb,hr,S⟩
 refine wp_reg fun K hK => ?_
 refine S.s (OpR.nlss S.ok rfl (S.e 0 rfl) (S.e 1 rfl) MT.self) rfl fun a w G S => ?_
 refine wpList_nil (hK _ _ ?_);clear hK K
 refine wp_seq_k fun K hK => ?_
 refine S.cond 0 rfl (fun hc1 => ?_) (fun hc1 => ?_)
 ·
  have hp2 := of_decide_eq_true hc1
  refine wp_skip ?_
  refine hK _ _ ?_;clear hK K
  refine wp_seq_k fun K hK => ?_
  refine wp_block ?_
  refine wp_reg fun K hK => ?_
  refine S.s (OpR.mv S.ok rfl (S.g 1 rfl)) rfl fun a w G S => ?_
  refine S.s (OpR.asn S.ok rfl (S.g 0 rfl)) rfl fun a w G S => ?_
  refine wpList_nil (hK _ _ ?_);clear hK K
  replace S := S.d1
  refine wp_reg fun K hK => ?_
  refine S.s (OpR.mv S.ok rfl (S.g 0 rfl)) rfl fun a w G S => ?_
  refine S.s (OpR.asn S.ok rfl (S.g 0 rfl)) rfl fun a w G S => ?_
  refine wpList_nil (hK _ _ ?_);clear hK K
  replace S := S.d2.d1
  refine wp_block ?_
  refine wp_loopJ (fun μ a w => ∃ (k : Nat) (q : List Nat) (G : Gh),μ = k ∧ (k ≤ i) ∧ (q.length = 4) ∧ (∀ x ∈ q,x < 4) ∧ (insF xs k q = insF xs i o) ∧  St W0 G0 54 [(5,NT k),(10,BT (decide (i < 4))),(9,NT i),(8,NT 4),(3,MT.ex (Value.slice (some ⟨b6,0,none⟩) (4) (4))),(2,MT.ex (Value.slice none 0 0)),(0,LS (some 3) ((xs).map (QV n)))] [⟨b6,3,some (4 * (none : Option Nat).getD 1),ROWS (none) ((q).map NT)⟩] a w G) (i) ⟨i,o,_,rfl,(by omega),ho,hb,rfl,(S.keep [0,1,2,3,4,5,6]).keepB [0] (by decide)⟩ ?_
  clear S
  intro μ a w ⟨k,q,G,hm,hk,hq,hbq,hrq,S⟩
  have hkl : q.getD k default < 4 := getD_lt hbq (by decide)
  have hkl1 : q.getD (k - 1) default < 4 := getD_lt hbq (by decide)
  refine wp_seq_k fun K hK => ?_
  refine wp_seq_k fun K hK => ?_
  rcases Bool.eq_false_or_eq_true (decide (0 < k)) with hc3 | hc3
  ·
   have hp4 := of_decide_eq_true hc3
   refine S.drawn [⟨13,.g (NT k),[]⟩,⟨14,.g (BT true),[0]⟩,⟨15,.g (BT true),[1]⟩,⟨16,.g (LS (some 3) ((xs).map (QV n))),[2]⟩,⟨17,.g (MT.ex (Value.slice (some ⟨b6,0,none⟩) (4) (4))),[2]⟩,⟨18,.g (NT k),[2]⟩,⟨19,.g (MT.ex (Value.pointer (some ⟨b6,(k) * (none : Option Nat).getD 1,none⟩))),[4,5,2]⟩,⟨20,.g (NT (q.getD k default)),[6,2]⟩,⟨21,.g (PE (some 3) (QV n (xs.getD (q.getD k default) default))),[3,7,2]⟩,⟨22,.g (QV n (xs.getD (q.getD k default) default)),[8,2]⟩,⟨23,.g (LS (some 3) ((xs).map (QV n))),[2]⟩,⟨24,.g (MT.ex (Value.slice (some ⟨b6,0,none⟩) (4) (4))),[2]⟩,⟨25,.g (NT k),[2]⟩,⟨26,.g (NT (k - 1)),[12,2]⟩,⟨27,.g (MT.ex (Value.pointer (some ⟨b6,(k - 1) * (none : Option Nat).getD 1,none⟩))),[11,13,2]⟩,⟨28,.g (NT (q.getD (k - 1) default)),[14,2]⟩,⟨29,.g (PE (some 3) (QV n (xs.getD (q.getD (k - 1) default) default))),[10,15,2]⟩,⟨30,.g (QV n (xs.getD (q.getD (k - 1) default) default)),[16,2]⟩,⟨31,.g (IT (cmpQ (xs.getD (q.getD k default) default) (xs.getD (q.getD (k - 1) default) default))),[9,17,2]⟩,⟨32,.g (BT (decide ((cmpQ (xs.getD (q.getD k default) default) (xs.getD (q.getD (k - 1) default) default)) < 0))),[18,2]⟩,⟨33,.g (BT (decide ((cmpQ (xs.getD (q.getD k default) default) (xs.getD (q.getD (k - 1) default) default)) < 0))),[2,19]⟩] mixedOrders (by kernel_rfl)
    ⟨fun a w G S => .of rfl (OpR.mv S.ok rfl (S.g 0 rfl)),
     fun a w G S => .of rfl (OpR.isB hc3 (OpR.ngtr S.ok rfl (S.e 0 rfl) (rfl : _ = nv .i64 0) MT.self)),
     fun a w G S => .of rfl (OpR.mv S.ok rfl (S.g 0 rfl)),
     fun a w G S => .yes S 0 rfl rfl rfl (OpR.mv S.ok rfl (S.g 7 rfl)),
     fun a w G S => .yes S 0 rfl rfl rfl (OpR.mv S.ok rfl (S.g 5 rfl)),
     fun a w G S => .yes S 0 rfl rfl rfl (OpR.mv S.ok rfl (S.g 1 rfl)),
     fun a w G S => .yes S 2 rfl rfl rfl (OpR.ixA (i := k) S.ok rfl Try.underlying75 tS_3 (S.e 0 rfl) (S.e 1 rfl) rfl (by first | omega | (simp only [List.length_set,List.length_take,List.length_drop,List.length_append,List.length_map,List.length_replicate];omega)) (congrArg (fun j => Value.pointer (some ⟨b6,j,none⟩)) (Nat.zero_add _))),
     fun a w G S => .yes S 1 rfl rfl rfl (OpR.ldSM (k := none) (T := NT) (xs := q) (i := k) S.ok rfl (S.e 0 rfl) (S.box 0 rfl) tS_3 (by first | omega | (simp only [List.length_set,List.length_take,List.length_drop,List.length_append,List.length_map,List.length_replicate];omega))),
     fun a w G S => .yes S 2 rfl rfl rfl (OpR.ixM (T := (QV n)) (xs := xs) (i := q.getD k default) S.ok rfl Try.underlying22 tS_35 (S.g 0 rfl) (S.e 1 rfl) rfl (by first | omega | (simp only [List.length_set,List.length_take,List.length_drop,List.length_append,List.length_map,List.length_replicate];omega))),
     fun a w G S => .yes S 1 rfl rfl rfl (OpR.ldE S.ok rfl tS_35 (S.g 0 rfl)),
     fun a w G S => .yes S 0 rfl rfl rfl (OpR.mv S.ok rfl (S.g 7 rfl)),
     fun a w G S => .yes S 0 rfl rfl rfl (OpR.mv S.ok rfl (S.g 5 rfl)),
     fun a w G S => .yes S 0 rfl rfl rfl (OpR.mv S.ok rfl (S.g 1 rfl)),
     fun a w G S => .yes S 1 rfl rfl rfl (OpR.nsub S.ok rfl (S.e 0 rfl) (rfl : _ = nv .i64 1) (by omega) (wr_i64 (by omega)) MT.self),
     fun a w G S => .yes S 2 rfl rfl rfl (OpR.ixA (i := k - 1) S.ok rfl Try.underlying75 tS_3 (S.e 0 rfl) (S.e 1 rfl) rfl (by first | omega | (simp only [List.length_set,List.length_take,List.length_drop,List.length_append,List.length_map,List.length_replicate];omega)) (congrArg (fun j => Value.pointer (some ⟨b6,j,none⟩)) (Nat.zero_add _))),
     fun a w G S => .yes S 1 rfl rfl rfl (OpR.ldSM (k := none) (T := NT) (xs := q) (i := k - 1) S.ok rfl (S.e 0 rfl) (S.box 0 rfl) tS_3 (by first | omega | (simp only [List.length_set,List.length_take,List.length_drop,List.length_append,List.length_map,List.length_replicate];omega))),
     fun a w G S => .yes S 2 rfl rfl rfl (OpR.ixM (T := (QV n)) (xs := xs) (i := q.getD (k - 1) default) S.ok rfl Try.underlying22 tS_35 (S.g 0 rfl) (S.e 1 rfl) rfl (by first | omega | (simp only [List.length_set,List.length_take,List.length_drop,List.length_append,List.length_map,List.length_replicate];omega))),
     fun a w G S => .yes S 1 rfl rfl rfl (OpR.ldE S.ok rfl tS_35 (S.g 0 rfl)),
     fun a w G S => .yes S 2 rfl rfl rfl (OpR.call2 rfl c_25 (fCmp_ok S.ok (S.g 0 rfl) (S.g 1 rfl) (by omega))),
     fun a w G S => .yes S 1 rfl rfl rfl (OpR.ilss S.ok rfl (S.e 0 rfl) (rfl : _ = nv .i64 0) MT.self),
     fun a w G S => .of rfl (OpR.pick S.ok rfl (S.e 0 rfl) (S.g 1 rfl)),trivial⟩ fun β a w G S => ?_
   replace S : St W0 G0 54 [(33,BT (decide ((cmpQ (xs.getD (q.getD k default) default) (xs.getD (q.getD (k - 1) default) default)) < 0))),(32,BT (decide ((cmpQ (xs.getD (q.getD k default) default) (xs.getD (q.getD (k - 1) default) default)) < 0))),(31,IT (cmpQ (xs.getD (q.getD k default) default) (xs.getD (q.getD (k - 1) default) default))),(30,QV n (xs.getD (q.getD (k - 1) default) default)),(29,PE (some 3) (QV n (xs.getD (q.getD (k - 1) default) default))),(28,NT (q.getD (k - 1) default)),(27,MT.ex (Value.pointer (some ⟨b6,(k - 1) * (none : Option Nat).getD 1,none⟩))),(26,NT (k - 1)),(25,NT k),(24,MT.ex (Value.slice (some ⟨b6,0,none⟩) (4) (4))),(23,LS (some 3) ((xs).map (QV n))),(22,QV n (xs.getD (q.getD k default) default)),(21,PE (some 3) (QV n (xs.getD (q.getD k default) default))),(20,NT (q.getD k default)),(19,MT.ex (Value.pointer (some ⟨b6,(k) * (none : Option Nat).getD 1,none⟩))),(18,NT k),(17,MT.ex (Value.slice (some ⟨b6,0,none⟩) (4) (4))),(16,LS (some 3) ((xs).map (QV n))),(15,BT true),(14,BT true),(13,NT k),(5,NT k),(10,BT (decide (i < 4))),(9,NT i),(8,NT 4),(3,MT.ex (Value.slice (some ⟨b6,0,none⟩) (4) (4))),(2,MT.ex (Value.slice none 0 0)),(0,LS (some 3) ((xs).map (QV n)))] [⟨b6,3,some (4 * (none : Option Nat).getD 1),ROWS (none) ((q).map NT)⟩] a _ _ := S
   refine wpList_nil (hK _ _ ?_);clear hK K
   replace S := S.d20.d19.d18.d17.d16.d15.d14.d13.d12.d11.d10.d9.d8.d7.d6.d5.d4.d3.d2.d1
   refine S.cond 0 rfl (fun hc5 => ?_) (fun hc5 => ?_)
   ·
    have hp6 := of_decide_eq_true hc5
    refine wp_skip ?_
    refine hK _ _ ?_;clear hK K
    refine wp_seq_k fun K hK => ?_
    refine wp_block ?_
    refine S.drawnS [⟨36,.g (MT.ex (Value.slice (some ⟨b6,0,none⟩) (4) (4))),[]⟩,⟨37,.g (NT k),[]⟩,⟨38,.g (MT.ex (Value.slice (some ⟨b6,0,none⟩) (4) (4))),[]⟩,⟨39,.g (NT k),[]⟩,⟨40,.g (NT (k - 1)),[3]⟩,⟨41,.g (MT.ex (Value.slice (some ⟨b6,0,none⟩) (4) (4))),[]⟩,⟨42,.g (NT k),[]⟩,⟨43,.g (NT (k - 1)),[6]⟩,⟨44,.g (MT.ex (Value.pointer (some ⟨b6,(k - 1) * (none : Option Nat).getD 1,none⟩))),[5,7]⟩,⟨45,.g (NT (q.getD (k - 1) default)),[8]⟩,⟨46,.g (MT.ex (Value.slice (some ⟨b6,0,none⟩) (4) (4))),[]⟩,⟨47,.g (NT k),[]⟩,⟨48,.g (MT.ex (Value.pointer (some ⟨b6,(k) * (none : Option Nat).getD 1,none⟩))),[10,11]⟩,⟨49,.g (NT (q.getD k default)),[12]⟩,⟨50,.g (MT.ex (Value.pointer (some ⟨b6,(k) * (none : Option Nat).getD 1,none⟩))),[0,1]⟩,⟨9998,.st 0 (ROWS (none) ((q.set (k) (q.getD (k - 1) default)).map NT)),[14,9]⟩,⟨51,.g (MT.ex (Value.pointer (some ⟨b6,(k - 1) * (none : Option Nat).getD 1,none⟩))),[2,4]⟩] mixedOrders (by kernel_rfl)
     ⟨⟨rfl,fun a w G S => .of rfl (OpR.mv S.ok rfl (S.g 5 rfl))⟩,
      ⟨rfl,fun a w G S => .of rfl (OpR.mv S.ok rfl (S.g 1 rfl))⟩,
      ⟨rfl,fun a w G S => .of rfl (OpR.mv S.ok rfl (S.g 5 rfl))⟩,
      ⟨rfl,fun a w G S => .of rfl (OpR.mv S.ok rfl (S.g 1 rfl))⟩,
      ⟨rfl,fun a w G S => .of rfl (OpR.nsub S.ok rfl (S.e 0 rfl) (rfl : _ = nv .i64 1) (by omega) (wr_i64 (by omega)) MT.self)⟩,
      ⟨rfl,fun a w G S => .of rfl (OpR.mv S.ok rfl (S.g 5 rfl))⟩,
      ⟨rfl,fun a w G S => .of rfl (OpR.mv S.ok rfl (S.g 1 rfl))⟩,
      ⟨rfl,fun a w G S => .of rfl (OpR.nsub S.ok rfl (S.e 0 rfl) (rfl : _ = nv .i64 1) (by omega) (wr_i64 (by omega)) MT.self)⟩,
      ⟨rfl,fun a w G S => .of rfl (OpR.ixA (i := k - 1) S.ok rfl Try.underlying75 tS_3 (S.e 0 rfl) (S.e 1 rfl) rfl (by first | omega | (simp only [List.length_set,List.length_take,List.length_drop,List.length_append,List.length_map,List.length_replicate];omega)) (congrArg (fun j => Value.pointer (some ⟨b6,j,none⟩)) (Nat.zero_add _)))⟩,
      ⟨rfl,fun a w G S => have S := S.boxes (B' := [⟨b6,3,some (4 * (none : Option Nat).getD 1),ROWS (none) ((q).map NT)⟩]) (by kernel_rfl);OpG.of rfl (OpR.ldSM (k := none) (T := NT) (xs := q) (i := k - 1) S.ok rfl (S.e 0 rfl) (S.box 0 rfl) tS_3 (by first | omega | (simp only [List.length_set,List.length_take,List.length_drop,List.length_append,List.length_map,List.length_replicate];omega)))⟩,
      ⟨rfl,fun a w G S => .of rfl (OpR.mv S.ok rfl (S.g 5 rfl))⟩,
      ⟨rfl,fun a w G S => .of rfl (OpR.mv S.ok rfl (S.g 1 rfl))⟩,
      ⟨rfl,fun a w G S => .of rfl (OpR.ixA (i := k) S.ok rfl Try.underlying75 tS_3 (S.e 0 rfl) (S.e 1 rfl) rfl (by first | omega | (simp only [List.length_set,List.length_take,List.length_drop,List.length_append,List.length_map,List.length_replicate];omega)) (congrArg (fun j => Value.pointer (some ⟨b6,j,none⟩)) (Nat.zero_add _)))⟩,
      ⟨rfl,fun a w G S => have S := S.boxes (B' := [⟨b6,3,some (4 * (none : Option Nat).getD 1),ROWS (none) ((q).map NT)⟩]) (by kernel_rfl);OpG.of rfl (OpR.ldSM (k := none) (T := NT) (xs := q) (i := k) S.ok rfl (S.e 0 rfl) (S.box 0 rfl) tS_3 (by first | omega | (simp only [List.length_set,List.length_take,List.length_drop,List.length_append,List.length_map,List.length_replicate];omega)))⟩,
      ⟨rfl,fun a w G S => .of rfl (OpR.ixA (i := k) S.ok rfl Try.underlying75 tS_3 (S.e 0 rfl) (S.e 1 rfl) rfl (by first | omega | (simp only [List.length_set,List.length_take,List.length_drop,List.length_append,List.length_map,List.length_replicate];omega)) (congrArg (fun j => Value.pointer (some ⟨b6,j,none⟩)) (Nat.zero_add _)))⟩,
      ⟨rfl,rfl,rfl,.inr ⟨by simp only [List.length_cons,List.length_nil];omega,_,rfl,fun a w G v0 S hv hs h0 => elem_storeS (k := none) (T := NT) (z := q.getD (k - 1) default) (i := k) rfl rfl (S.e 0 rfl) tS_3 (S.g 1 rfl) (sh (τ := NT (q.getD (k - 1) default)) (S.g 1 rfl)) (by first | omega | (simp only [List.length_set,List.length_take,List.length_drop,List.length_append,List.length_map,List.length_replicate];omega)) hv hs h0⟩⟩,
      ⟨rfl,fun a w G S => .of rfl (OpR.ixA (i := k - 1) S.ok rfl Try.underlying75 tS_3 (S.e 0 rfl) (S.e 1 rfl) rfl (by first | omega | (simp only [List.length_set,List.length_take,List.length_drop,List.length_append,List.length_map,List.length_replicate];omega)) (congrArg (fun j => Value.pointer (some ⟨b6,j,none⟩)) (Nat.zero_add _)))⟩,trivial⟩ fun β a w G S => ?_
    replace S : St W0 G0 54 [(51,MT.ex (Value.pointer (some ⟨b6,(k - 1) * (none : Option Nat).getD 1,none⟩))),(50,MT.ex (Value.pointer (some ⟨b6,(k) * (none : Option Nat).getD 1,none⟩))),(49,NT (q.getD k default)),(48,MT.ex (Value.pointer (some ⟨b6,(k) * (none : Option Nat).getD 1,none⟩))),(47,NT k),(46,MT.ex (Value.slice (some ⟨b6,0,none⟩) (4) (4))),(45,NT (q.getD (k - 1) default)),(44,MT.ex (Value.pointer (some ⟨b6,(k - 1) * (none : Option Nat).getD 1,none⟩))),(43,NT (k - 1)),(42,NT k),(41,MT.ex (Value.slice (some ⟨b6,0,none⟩) (4) (4))),(40,NT (k - 1)),(39,NT k),(38,MT.ex (Value.slice (some ⟨b6,0,none⟩) (4) (4))),(37,NT k),(36,MT.ex (Value.slice (some ⟨b6,0,none⟩) (4) (4))),(33,BT (decide ((cmpQ (xs.getD (q.getD k default) default) (xs.getD (q.getD (k - 1) default) default)) < 0))),(5,NT k),(10,BT (decide (i < 4))),(9,NT i),(8,NT 4),(3,MT.ex (Value.slice (some ⟨b6,0,none⟩) (4) (4))),(2,MT.ex (Value.slice none 0 0)),(0,LS (some 3) ((xs).map (QV n)))] [⟨b6,3,some (4 * (none : Option Nat).getD 1),ROWS (none) ((q.set (k) (q.getD (k - 1) default)).map NT)⟩] a _ _ := S
    refine S.setSM (k := none) (T := NT) (z := q.getD k default) (i := k - 1) 0 rfl rfl rfl rfl (S.e 0 rfl) tS_3 (S.g 2 rfl) (sh (τ := NT (q.getD k default)) (S.g 2 rfl)) (by first | omega | (simp only [List.length_set,List.length_take,List.length_drop,List.length_append,List.length_map,List.length_replicate];omega)) fun w S => ?_
    replace S := S.n0
    refine wpList_nil ?_
    replace S := S.d15.d14.d13.d12.d11.d10.d9.d8.d7.d6.d5.d4.d3.d2.d1.d0
    refine hK _ _ ?_;clear hK K
    refine wp_region_lit ?_
    refine S.s (OpR.mv S.ok rfl (S.g 1 rfl)) rfl fun a w G S => ?_
    refine S.s (OpR.nsub S.ok rfl (S.e 0 rfl) (rfl : _ = nv .i64 1) (by omega) (wr_i64 (by omega)) MT.self) rfl fun a w G S => ?_
    replace S := S.d3
    refine S.s (OpR.asn S.ok rfl (S.g 0 rfl)) rfl fun a w G S => ?_
    refine wpList_nil ?_
    replace S := S.d2.d1
    replace S := S.castBox (τ' := ROWS (none) ((((q.set (k) (q.getD (k - 1) default)).set (k - 1) (q.getD k default))).map NT)) 0 rfl fun _ h _ => (ROWS.eqM h (by first | rfl | omega | (simp;done)))
    replace S := S.n0
    exact ⟨(k - 1),(by omega),k - 1,(q.set (k) (q.getD (k - 1) default)).set (k - 1) (q.getD k default),_,rfl,(by omega),(by simpa using hq),(swap_lt hbq),(ins_step (by omega) ‹_› hrq),(S.keep [0,2,3,4,5,6,7]).keepB [0] (by decide)⟩
   ·
    have hp7 := of_decide_eq_false hc5
    refine wp_exit (then_exit (then_exit (exit_same ?_)))
    clear hK K
    refine hK _ _ ?_;clear hK K
    refine wp_region_lit ?_
    have hnx := ord_next (by omega) hr (by first | exact ins_end0 (by omega) hrq | exact ins_end1 (by omega) ‹_› hrq)
    refine S.s (OpR.nadd S.ok rfl (S.e 3 rfl) (rfl : _ = nv .i64 1) (wr_i64 (by omega)) MT.self) rfl fun a w G S => ?_
    replace S := S.d4
    refine S.s (OpR.mv S.ok rfl (S.g 0 rfl)) rfl fun a w G S => ?_
    refine wpList_nil ?_
    replace S := S.d1
    exact ⟨4 - (i + 1),(by omega),i + 1,q,_,rfl,(by omega),hq,hbq,hnx,(S.keep [0,4,5,6,7]).keepB [0] (by decide)⟩
  ·
   have hp8 := of_decide_eq_false hc3
   refine S.drawn [⟨13,.g (NT k),[]⟩,⟨14,.g (BT false),[0]⟩,⟨15,.g (BT false),[1]⟩,⟨16,.g (MT.ex undef),[2]⟩,⟨17,.g (MT.ex undef),[2]⟩,⟨18,.g (MT.ex undef),[2]⟩,⟨19,.g (MT.ex undef),[4,5,2]⟩,⟨20,.g (MT.ex undef),[6,2]⟩,⟨21,.g (MT.ex undef),[3,7,2]⟩,⟨22,.g (MT.ex undef),[8,2]⟩,⟨23,.g (MT.ex undef),[2]⟩,⟨24,.g (MT.ex undef),[2]⟩,⟨25,.g (MT.ex undef),[2]⟩,⟨26,.g (MT.ex undef),[12,2]⟩,⟨27,.g (MT.ex undef),[11,13,2]⟩,⟨28,.g (MT.ex undef),[14,2]⟩,⟨29,.g (MT.ex undef),[10,15,2]⟩,⟨30,.g (MT.ex undef),[16,2]⟩,⟨31,.g (MT.ex undef),[9,17,2]⟩,⟨32,.g (MT.ex undef),[18,2]⟩,⟨33,.g (BT false),[2,19]⟩] mixedOrders (by kernel_rfl)
    ⟨fun a w G S => .of rfl (OpR.mv S.ok rfl (S.g 0 rfl)),
     fun a w G S => .of rfl (OpR.isB hc3 (OpR.ngtr S.ok rfl (S.e 0 rfl) (rfl : _ = nv .i64 0) MT.self)),
     fun a w G S => .of rfl (OpR.mv S.ok rfl (S.g 0 rfl)),
     fun a w G S => .no S 0 rfl rfl rfl rfl,
     fun a w G S => .no S 0 rfl rfl rfl rfl,
     fun a w G S => .no S 0 rfl rfl rfl rfl,
     fun a w G S => .no S 2 rfl rfl rfl rfl,
     fun a w G S => .no S 1 rfl rfl rfl rfl,
     fun a w G S => .no S 2 rfl rfl rfl rfl,
     fun a w G S => .no S 1 rfl rfl rfl rfl,
     fun a w G S => .no S 0 rfl rfl rfl rfl,
     fun a w G S => .no S 0 rfl rfl rfl rfl,
     fun a w G S => .no S 0 rfl rfl rfl rfl,
     fun a w G S => .no S 1 rfl rfl rfl rfl,
     fun a w G S => .no S 2 rfl rfl rfl rfl,
     fun a w G S => .no S 1 rfl rfl rfl rfl,
     fun a w G S => .no S 2 rfl rfl rfl rfl,
     fun a w G S => .no S 1 rfl rfl rfl rfl,
     fun a w G S => .no S 2 rfl rfl rfl rfl,
     fun a w G S => .no S 1 rfl rfl rfl rfl,
     fun a w G S => .of rfl (OpR.pick S.ok rfl (S.e 0 rfl) rfl),trivial⟩ fun β a w G S => ?_
   replace S : St W0 G0 54 [(33,BT false),(32,MT.ex undef),(31,MT.ex undef),(30,MT.ex undef),(29,MT.ex undef),(28,MT.ex undef),(27,MT.ex undef),(26,MT.ex undef),(25,MT.ex undef),(24,MT.ex undef),(23,MT.ex undef),(22,MT.ex undef),(21,MT.ex undef),(20,MT.ex undef),(19,MT.ex undef),(18,MT.ex undef),(17,MT.ex undef),(16,MT.ex undef),(15,BT false),(14,BT false),(13,NT k),(5,NT k),(10,BT (decide (i < 4))),(9,NT i),(8,NT 4),(3,MT.ex (Value.slice (some ⟨b6,0,none⟩) (4) (4))),(2,MT.ex (Value.slice none 0 0)),(0,LS (some 3) ((xs).map (QV n)))] [⟨b6,3,some (4 * (none : Option Nat).getD 1),ROWS (none) ((q).map NT)⟩] a _ _ := S
   refine wpList_nil (hK _ _ ?_);clear hK K
   replace S := S.d20.d19.d18.d17.d16.d15.d14.d13.d12.d11.d10.d9.d8.d7.d6.d5.d4.d3.d2.d1
   refine wp_cond_false (S.e 0 rfl) ?_
   refine wp_exit (then_exit (then_exit (exit_same ?_)))
   clear hK K
   refine hK _ _ ?_;clear hK K
   refine wp_region_lit ?_
   have hnx := ord_next (by omega) hr (by first | exact ins_end0 (by omega) hrq | exact ins_end1 (by omega) ‹_› hrq)
   refine S.s (OpR.nadd S.ok rfl (S.e 3 rfl) (rfl : _ = nv .i64 1) (wr_i64 (by omega)) MT.self) rfl fun a w G S => ?_
   replace S := S.d4
   refine S.s (OpR.mv S.ok rfl (S.g 0 rfl)) rfl fun a w G S => ?_
   refine wpList_nil ?_
   replace S := S.d1
   exact ⟨4 - (i + 1),(by omega),i + 1,q,_,rfl,(by omega),hq,hbq,hnx,(S.keep [0,4,5,6,7]).keepB [0] (by decide)⟩
 ·
  have hp9 := of_decide_eq_false hc1
  refine wp_exit (then_exit (then_exit (exit_same ?_)))
  clear hK K
  refine hK _ _ ?_;clear hK K
  refine wp_reg fun K hK => ?_
  obtain ⟨vz10,Gz10,hz10,hs10,hg10,hle10,S⟩ := S.freeze 0 rfl
  have hsl10 := ROWS.slM hz10 hg10 ho.symm (Nat.le_refl _) (by decide) (rfl : _ = Value.slice (some ⟨b6,0,none⟩) (4) (4))
  replace S := S.also (t := 3) (τ := LS (none) ((o).map NT)) ((S.e 3 rfl).symm ▸ hsl10)
  replace S : St W0 G0 54 [(3,LS (none) ((o).map NT)),(10,BT (decide (i < 4))),(9,NT i),(8,NT 4),(2,MT.ex (Value.slice none 0 0)),(0,LS (some 3) ((xs).map (QV n)))] [] a _ _ := S.keep [0,1,2,3,5,6]
  refine S.s (OpR.mv S.ok rfl (S.g 0 rfl)) rfl fun a w G S => ?_
  replace S := S.d5
  refine S.s (OpR.asn S.ok rfl (S.g 0 rfl)) rfl fun a w G S => ?_
  refine wpList_nil (hK _ _ ?_);clear hK K
  replace S := S.d1
  exact wp_ret (S.retTmp rfl (LS.eqM (S.g 0 rfl) (by rw [show i = 4 by omega] at hr;exact hr)))
end Go.Proofs.Ytdeihehaheelmaa
namespace Go.Proofs.Ytdeihehaheelmaa
set_option maxHeartbeats 1000000
set_option maxRecDepth 100000
open Go.RowKit (Below)
private theorem c_17 : callable Try.prog 17 = true := by kernel_rfl
private theorem c_43 : callable Try.prog 43 = true := by kernel_rfl
private theorem c_44 : callable Try.prog 44 = true := by kernel_rfl
private theorem c_45 : callable Try.prog 45 = true := by kernel_rfl
private theorem c_49 : callable Try.prog 49 = true := by kernel_rfl
private theorem tS_37 : tyS Try.prog 37 (some 12) = true := by kernel_rfl
theorem xcloses_ok {n1 n2 n3 n4 : Nat} {p q r s : Rat} {v1 v2 v3 v4 : Value} {W0 : World} {G0 : Gh} (hok : Gok W0 G0) (h1 : (QV n1 p).t v1 G0) (h2 : (QV n2 q).t v2 G0) (h3 : (QV n3 r).t v3 G0) (h4 : (QV n4 s).t v4 G0) (hn : 30 * n1 + 30 * n2 + 30 * n3 + 30 * n4 + 1000 ≤ BIG) : Calls Try.prog 45 #[v1,v2,v3,v4] W0 (Ret W0 G0 (BT (closesF p q r s))) := by
 refine St.enter (N := 53) (L := [(3,QV n4 s),(2,QV n3 r),(1,QV n2 q),(0,QV n1 p)]) (args := [v1,v2,v3,v4]) Try.func45 rfl rfl rfl hok (enter4 h1 h2 h3 h4) fun a S => ?_
 refine wp_reg fun K hK => ?_
 refine S.boxop (x := .tmp 0) (τ := QV n1 p) (S.g 3 rfl) (sh (τ := QV n1 p) (S.g 3 rfl)) rfl rfl rfl rfl rfl fun b4 a w G S => ?_
 refine S.boxop (x := .tmp 1) (τ := QV n2 q) (S.g 3 rfl) (sh (τ := QV n2 q) (S.g 3 rfl)) rfl rfl rfl rfl rfl fun b5 a w G S => ?_
 refine S.boxop (x := .tmp 2) (τ := QV n3 r) (S.g 3 rfl) (sh (τ := QV n3 r) (S.g 3 rfl)) rfl rfl rfl rfl rfl fun b6 a w G S => ?_
 refine S.boxop (x := .tmp 3) (τ := QV n4 s) (S.g 3 rfl) (sh (τ := QV n4 s) (S.g 3 rfl)) rfl rfl rfl rfl rfl fun b7 a w G S => ?_
 refine S.s (τ := BT false) (OpR.asn S.ok rfl rfl) rfl fun a w G S => ?_
 refine wpList_nil (hK _ _ ?_);clear hK K
 replace S := S.d8.d7.d6.d5
 refine wp_seq_k fun K hK => ?_
 refine S.drawn [⟨13,.g (QV n2 q),[]⟩,⟨14,.g (QV n3 r),[]⟩,⟨15,.g (QC (n2 + n3 + 1) (q + r)),[0,1]⟩,⟨16,.g (QV n1 p),[]⟩,⟨17,.g (QV n4 s),[]⟩,⟨18,.g (QC (n1 + n4 + 1) (p + s)),[3,4]⟩,⟨19,.g (QC ((n2 + n3 + 1) + (n1 + n4 + 1) + 1) ((q + r) - (p + s))),[2,5]⟩,⟨9,.al mkP 35 (some 3) (MT.ex (.agg #[.bool false,.slice none 0 0,.slice none 0 0])),[]⟩] mixedOrders (by kernel_rfl)
  ⟨fun a w G S => .of rfl (OpR.ldBox S.ok rfl (S.e 3 rfl) (S.box 2 rfl) tS_35),
   fun a w G S => .of rfl (OpR.ldBox S.ok rfl (S.e 2 rfl) (S.box 1 rfl) tS_35),
   fun a w G S => .of rfl (OpR.call2 rfl c_22 (fAdd_ok S.ok (S.g 0 rfl) (S.g 1 rfl) (by omega))),
   fun a w G S => .of rfl (OpR.ldBox S.ok rfl (S.e 4 rfl) (S.box 3 rfl) tS_35),
   fun a w G S => .of rfl (OpR.ldBox S.ok rfl (S.e 1 rfl) (S.box 0 rfl) tS_35),
   fun a w G S => .of rfl (OpR.call2 rfl c_22 (fAdd_ok S.ok (S.g 0 rfl) (S.g 1 rfl) (by omega))),
   fun a w G S => .of rfl (OpR.call2 rfl c_61 (fSub_ok S.ok (QC.toQV (S.g 0 rfl)) (QC.toQV (S.g 1 rfl)) (by omega))),
   ⟨fun _ => rfl,rfl,fun a w G S => OpB.alloc S.ok rfl z_35 zs_35⟩,trivial⟩ fun β a w G S => ?_
 replace S : St W0 G0 53 [(9,PB (β 7)),(19,QC ((n2 + n3 + 1) + (n1 + n4 + 1) + 1) ((q + r) - (p + s))),(18,QC (n1 + n4 + 1) (p + s)),(17,QV n4 s),(16,QV n1 p),(15,QC (n2 + n3 + 1) (q + r)),(14,QV n3 r),(13,QV n2 q),(8,BT false),(7,PB b7),(6,PB b6),(5,PB b5),(4,PB b4)] [⟨(β 7),35,some 3,MT.ex ((.agg #[.bool false,.slice none 0 0,.slice none 0 0] : Value))⟩,⟨b7,35,some 3,QV n4 s⟩,⟨b6,35,some 3,QV n3 r⟩,⟨b5,35,some 3,QV n2 q⟩,⟨b4,35,some 3,QV n1 p⟩] a _ _ := S
 generalize β 7 = b9 at S
 refine S.store (τ := QC ((n2 + n3 + 1) + (n1 + n4 + 1) + 1) ((q + r) - (p + s))) 0 rfl rfl rfl rfl (S.e 0 rfl) tS_35 (S.g 1 rfl) (sh (τ := QC ((n2 + n3 + 1) + (n1 + n4 + 1) + 1) ((q + r) - (p + s))) (S.g 1 rfl)) fun w S => ?_
 replace S := S.n0
 refine wpList_nil (hK _ _ ?_);clear hK K
 replace S := S.d7.d6.d5.d4.d3.d2.d1
 refine wp_reg fun K hK => ?_
 refine S.s (τ := QC 64 2) (OpR.conv' (OpR.call1 rfl c_72 (fOf_ok S.ok ((rfl : _ = nv .i64 2).trans (iv_eq (by first | rfl | omega | (simp only [Nat.zero_add,Nat.add_zero];done) | (simp;done) | (push_cast;omega)))) (by omega))) fun _ _ h => (QC.eq h (by rfl))) rfl fun a w G S => ?_
 refine S.alloc rfl rfl rfl z_35 zs_35 rfl rfl fun b10 a w G S => ?_
 refine S.store (τ := QC 64 2) 0 rfl rfl rfl rfl (S.e 0 rfl) tS_35 (S.g 1 rfl) (sh (τ := QC 64 2) (S.g 1 rfl)) fun w S => ?_
 replace S := S.n0
 refine wpList_nil (hK _ _ ?_);clear hK K
 replace S := S.d1
 refine wp_seq_k fun K hK => ?_
 refine wp_seq_k fun K hK => ?_
 refine S.drawn [⟨21,.g (QC ((n2 + n3 + 1) + (n1 + n4 + 1) + 1) ((q + r) - (p + s))),[]⟩,⟨22,.g (QC 64 2),[]⟩,⟨23,.g (QV n2 q),[]⟩,⟨24,.g (QV n3 r),[]⟩,⟨25,.g (QC (n2 + n3) (q * r)),[2,3]⟩,⟨26,.g (IT (mixedF ((q + r) - (p + s)) 2 (q * r))),[0,1,4]⟩,⟨27,.g (BT (decide ((mixedF ((q + r) - (p + s)) 2 (q * r)) ≥ 0))),[5]⟩] mixedOrders (by kernel_rfl)
  ⟨fun a w G S => .of rfl (OpR.ldBox S.ok rfl (S.e 1 rfl) (S.box 1 rfl) tS_35),
   fun a w G S => .of rfl (OpR.ldBox S.ok rfl (S.e 0 rfl) (S.box 0 rfl) tS_35),
   fun a w G S => .of rfl (OpR.ldBox S.ok rfl (S.e 5 rfl) (S.box 4 rfl) tS_35),
   fun a w G S => .of rfl (OpR.ldBox S.ok rfl (S.e 4 rfl) (S.box 3 rfl) tS_35),
   fun a w G S => .of rfl (OpR.call2 rfl c_18 (fMul_ok S.ok (S.g 0 rfl) (S.g 1 rfl) (by omega))),
   fun a w G S => .of rfl (OpR.call3 rfl c_73 (xmixed_ok S.ok (QC.toQV (S.g 0 rfl)) (QC.toQV (S.g 1 rfl)) (QC.toQV (S.g 2 rfl)) (by omega))),
   fun a w G S => .of rfl (OpR.igeq S.ok rfl (S.e 0 rfl) (rfl : _ = nv .i64 0) MT.self),trivial⟩ fun β a w G S => ?_
 replace S : St W0 G0 53 [(27,BT (decide ((mixedF ((q + r) - (p + s)) 2 (q * r)) ≥ 0))),(26,IT (mixedF ((q + r) - (p + s)) 2 (q * r))),(25,QC (n2 + n3) (q * r)),(24,QV n3 r),(23,QV n2 q),(22,QC 64 2),(21,QC ((n2 + n3 + 1) + (n1 + n4 + 1) + 1) ((q + r) - (p + s))),(10,PB b10),(9,PB b9),(8,BT false),(7,PB b7),(6,PB b6),(5,PB b5),(4,PB b4)] [⟨b10,35,some 3,QC 64 2⟩,⟨b9,35,some 3,QC ((n2 + n3 + 1) + (n1 + n4 + 1) + 1) ((q + r) - (p + s))⟩,⟨b7,35,some 3,QV n4 s⟩,⟨b6,35,some 3,QV n3 r⟩,⟨b5,35,some 3,QV n2 q⟩,⟨b4,35,some 3,QV n1 p⟩] a _ _ := S
 refine wpList_nil (hK _ _ ?_);clear hK K
 replace S := S.d6.d5.d4.d3.d2.d1
 refine S.cond 0 rfl (fun hc1 => ?_) (fun hc1 => ?_)
 ·
  have hp2 := of_decide_eq_true hc1
  refine wp_reg fun K hK => ?_
  replace S := S.d3
  refine S.s (τ := BT true) (OpR.asn S.ok rfl rfl) rfl fun a w G S => ?_
  refine wpList_nil (hK _ _ ?_);clear hK K
  exact wp_ret (then_ret (S.retTmp rfl ((S.e 0 rfl).trans (bv_eq (if_pos ‹_›).symm))))
 ·
  have hp3 := of_decide_eq_false hc1
  refine wp_skip ?_
  refine hK _ _ ?_;clear hK K
  refine wp_reg fun K hK => ?_
  refine S.s (τ := QC 64 4) (OpR.conv' (OpR.call1 rfl c_72 (fOf_ok S.ok ((rfl : _ = nv .i64 4).trans (iv_eq (by first | rfl | omega | (simp only [Nat.zero_add,Nat.add_zero];done) | (simp;done) | (push_cast;omega)))) (by omega))) fun _ _ h => (QC.eq h (by rfl))) rfl fun a w G S => ?_
  refine S.alloc rfl rfl rfl z_35 zs_35 rfl rfl fun b11 a w G S => ?_
  refine S.store (τ := QC 64 4) 0 rfl rfl rfl rfl (S.e 0 rfl) tS_35 (S.g 1 rfl) (sh (τ := QC 64 4) (S.g 1 rfl)) fun w S => ?_
  replace S := S.n0
  refine wpList_nil (hK _ _ ?_);clear hK K
  replace S := S.d1
  refine wp_seq_k fun K hK => ?_
  refine S.drawn [⟨29,.g (QC ((n2 + n3 + 1) + (n1 + n4 + 1) + 1) ((q + r) - (p + s))),[]⟩,⟨30,.g (QC ((n2 + n3 + 1) + (n1 + n4 + 1) + 1) ((q + r) - (p + s))),[]⟩,⟨31,.g (QC (((n2 + n3 + 1) + (n1 + n4 + 1) + 1) + ((n2 + n3 + 1) + (n1 + n4 + 1) + 1)) (((q + r) - (p + s)) * ((q + r) - (p + s)))),[0,1]⟩,⟨32,.g (QC 64 4),[]⟩,⟨33,.g (QV n2 q),[]⟩,⟨34,.g (QV n3 r),[]⟩,⟨35,.g (QC (n2 + n3) (q * r)),[4,5]⟩,⟨36,.g (QC (64 + (n2 + n3)) (4 * (q * r))),[3,6]⟩,⟨37,.g (QC ((((n2 + n3 + 1) + (n1 + n4 + 1) + 1) + ((n2 + n3 + 1) + (n1 + n4 + 1) + 1)) + (64 + (n2 + n3)) + 1) ((((q + r) - (p + s)) * ((q + r) - (p + s))) + (4 * (q * r)))),[2,7]⟩,⟨38,.g (QC 64 4),[]⟩,⟨39,.g (QV n1 p),[]⟩,⟨40,.g (QV n4 s),[]⟩,⟨41,.g (QC (n1 + n4) (p * s)),[10,11]⟩,⟨42,.g (QC (64 + (n1 + n4)) (4 * (p * s))),[9,12]⟩,⟨43,.g (QC (((((n2 + n3 + 1) + (n1 + n4 + 1) + 1) + ((n2 + n3 + 1) + (n1 + n4 + 1) + 1)) + (64 + (n2 + n3)) + 1) + (64 + (n1 + n4)) + 1) (((((q + r) - (p + s)) * ((q + r) - (p + s))) + (4 * (q * r))) - (4 * (p * s)))),[8,13]⟩,⟨12,.al mkP 35 (some 3) (MT.ex (.agg #[.bool false,.slice none 0 0,.slice none 0 0])),[]⟩] mixedOrders (by kernel_rfl)
   ⟨fun a w G S => .of rfl (OpR.ldBox S.ok rfl (S.e 3 rfl) (S.box 2 rfl) tS_35),
    fun a w G S => .of rfl (OpR.ldBox S.ok rfl (S.e 3 rfl) (S.box 2 rfl) tS_35),
    fun a w G S => .of rfl (OpR.call2 rfl c_18 (fMul_ok S.ok (QC.toQV (S.g 0 rfl)) (QC.toQV (S.g 1 rfl)) (by omega))),
    fun a w G S => .of rfl (OpR.ldBox S.ok rfl (S.e 0 rfl) (S.box 0 rfl) tS_35),
    fun a w G S => .of rfl (OpR.ldBox S.ok rfl (S.e 7 rfl) (S.box 5 rfl) tS_35),
    fun a w G S => .of rfl (OpR.ldBox S.ok rfl (S.e 6 rfl) (S.box 4 rfl) tS_35),
    fun a w G S => .of rfl (OpR.call2 rfl c_18 (fMul_ok S.ok (S.g 0 rfl) (S.g 1 rfl) (by omega))),
    fun a w G S => .of rfl (OpR.call2 rfl c_18 (fMul_ok S.ok (QC.toQV (S.g 0 rfl)) (QC.toQV (S.g 1 rfl)) (by omega))),
    fun a w G S => .of rfl (OpR.call2 rfl c_22 (fAdd_ok S.ok (QC.toQV (S.g 0 rfl)) (QC.toQV (S.g 1 rfl)) (by omega))),
    fun a w G S => .of rfl (OpR.ldBox S.ok rfl (S.e 0 rfl) (S.box 0 rfl) tS_35),
    fun a w G S => .of rfl (OpR.ldBox S.ok rfl (S.e 8 rfl) (S.box 6 rfl) tS_35),
    fun a w G S => .of rfl (OpR.ldBox S.ok rfl (S.e 5 rfl) (S.box 3 rfl) tS_35),
    fun a w G S => .of rfl (OpR.call2 rfl c_18 (fMul_ok S.ok (S.g 0 rfl) (S.g 1 rfl) (by omega))),
    fun a w G S => .of rfl (OpR.call2 rfl c_18 (fMul_ok S.ok (QC.toQV (S.g 0 rfl)) (QC.toQV (S.g 1 rfl)) (by omega))),
    fun a w G S => .of rfl (OpR.call2 rfl c_61 (fSub_ok S.ok (QC.toQV (S.g 0 rfl)) (QC.toQV (S.g 1 rfl)) (by omega))),
    ⟨fun _ => rfl,rfl,fun a w G S => OpB.alloc S.ok rfl z_35 zs_35⟩,trivial⟩ fun β a w G S => ?_
  replace S : St W0 G0 53 [(12,PB (β 15)),(43,QC (((((n2 + n3 + 1) + (n1 + n4 + 1) + 1) + ((n2 + n3 + 1) + (n1 + n4 + 1) + 1)) + (64 + (n2 + n3)) + 1) + (64 + (n1 + n4)) + 1) (((((q + r) - (p + s)) * ((q + r) - (p + s))) + (4 * (q * r))) - (4 * (p * s)))),(42,QC (64 + (n1 + n4)) (4 * (p * s))),(41,QC (n1 + n4) (p * s)),(40,QV n4 s),(39,QV n1 p),(38,QC 64 4),(37,QC ((((n2 + n3 + 1) + (n1 + n4 + 1) + 1) + ((n2 + n3 + 1) + (n1 + n4 + 1) + 1)) + (64 + (n2 + n3)) + 1) ((((q + r) - (p + s)) * ((q + r) - (p + s))) + (4 * (q * r)))),(36,QC (64 + (n2 + n3)) (4 * (q * r))),(35,QC (n2 + n3) (q * r)),(34,QV n3 r),(33,QV n2 q),(32,QC 64 4),(31,QC (((n2 + n3 + 1) + (n1 + n4 + 1) + 1) + ((n2 + n3 + 1) + (n1 + n4 + 1) + 1)) (((q + r) - (p + s)) * ((q + r) - (p + s)))),(30,QC ((n2 + n3 + 1) + (n1 + n4 + 1) + 1) ((q + r) - (p + s))),(29,QC ((n2 + n3 + 1) + (n1 + n4 + 1) + 1) ((q + r) - (p + s))),(11,PB b11),(27,BT (decide ((mixedF ((q + r) - (p + s)) 2 (q * r)) ≥ 0))),(10,PB b10),(9,PB b9),(8,BT false),(7,PB b7),(6,PB b6),(5,PB b5),(4,PB b4)] [⟨(β 15),35,some 3,MT.ex ((.agg #[.bool false,.slice none 0 0,.slice none 0 0] : Value))⟩,⟨b11,35,some 3,QC 64 4⟩,⟨b10,35,some 3,QC 64 2⟩,⟨b9,35,some 3,QC ((n2 + n3 + 1) + (n1 + n4 + 1) + 1) ((q + r) - (p + s))⟩,⟨b7,35,some 3,QV n4 s⟩,⟨b6,35,some 3,QV n3 r⟩,⟨b5,35,some 3,QV n2 q⟩,⟨b4,35,some 3,QV n1 p⟩] a _ _ := S
  generalize β 15 = b12 at S
  refine S.store (τ := QC (((((n2 + n3 + 1) + (n1 + n4 + 1) + 1) + ((n2 + n3 + 1) + (n1 + n4 + 1) + 1)) + (64 + (n2 + n3)) + 1) + (64 + (n1 + n4)) + 1) (((((q + r) - (p + s)) * ((q + r) - (p + s))) + (4 * (q * r))) - (4 * (p * s)))) 0 rfl rfl rfl rfl (S.e 0 rfl) tS_35 (S.g 1 rfl) (sh (τ := QC (((((n2 + n3 + 1) + (n1 + n4 + 1) + 1) + ((n2 + n3 + 1) + (n1 + n4 + 1) + 1)) + (64 + (n2 + n3)) + 1) + (64 + (n1 + n4)) + 1) (((((q + r) - (p + s)) * ((q + r) - (p + s))) + (4 * (q * r))) - (4 * (p * s)))) (S.g 1 rfl)) fun w S => ?_
  replace S := S.n0
  refine wpList_nil (hK _ _ ?_);clear hK K
  replace S := S.d15.d14.d13.d12.d11.d10.d9.d8.d7.d6.d5.d4.d3.d2.d1
  refine wp_seq_k fun K hK => ?_
  replace S := S.d5
  refine S.drawn [⟨44,.g (QC (((((n2 + n3 + 1) + (n1 + n4 + 1) + 1) + ((n2 + n3 + 1) + (n1 + n4 + 1) + 1)) + (64 + (n2 + n3)) + 1) + (64 + (n1 + n4)) + 1) (((((q + r) - (p + s)) * ((q + r) - (p + s))) + (4 * (q * r))) - (4 * (p * s)))),[]⟩,⟨45,.g (QC 64 4),[]⟩,⟨46,.g (QC ((n2 + n3 + 1) + (n1 + n4 + 1) + 1) ((q + r) - (p + s))),[]⟩,⟨47,.g (QC (64 + ((n2 + n3 + 1) + (n1 + n4 + 1) + 1)) (4 * ((q + r) - (p + s)))),[1,2]⟩,⟨48,.g (QV n2 q),[]⟩,⟨49,.g (QV n3 r),[]⟩,⟨50,.g (QC (n2 + n3) (q * r)),[4,5]⟩,⟨51,.g (IT (mixedF (((((q + r) - (p + s)) * ((q + r) - (p + s))) + (4 * (q * r))) - (4 * (p * s))) (4 * ((q + r) - (p + s))) (q * r))),[0,3,6]⟩,⟨52,.g (BT (decide ((mixedF (((((q + r) - (p + s)) * ((q + r) - (p + s))) + (4 * (q * r))) - (4 * (p * s))) (4 * ((q + r) - (p + s))) (q * r)) ≤ 0))),[7]⟩,⟨8,.g (BT (decide ((mixedF (((((q + r) - (p + s)) * ((q + r) - (p + s))) + (4 * (q * r))) - (4 * (p * s))) (4 * ((q + r) - (p + s))) (q * r)) ≤ 0))),[8]⟩] mixedOrders (by kernel_rfl)
   ⟨fun a w G S => .of rfl (OpR.ldBox S.ok rfl (S.e 0 rfl) (S.box 0 rfl) tS_35),
    fun a w G S => .of rfl (OpR.ldBox S.ok rfl (S.e 1 rfl) (S.box 1 rfl) tS_35),
    fun a w G S => .of rfl (OpR.ldBox S.ok rfl (S.e 4 rfl) (S.box 3 rfl) tS_35),
    fun a w G S => .of rfl (OpR.call2 rfl c_18 (fMul_ok S.ok (QC.toQV (S.g 0 rfl)) (QC.toQV (S.g 1 rfl)) (by omega))),
    fun a w G S => .of rfl (OpR.ldBox S.ok rfl (S.e 7 rfl) (S.box 6 rfl) tS_35),
    fun a w G S => .of rfl (OpR.ldBox S.ok rfl (S.e 6 rfl) (S.box 5 rfl) tS_35),
    fun a w G S => .of rfl (OpR.call2 rfl c_18 (fMul_ok S.ok (S.g 0 rfl) (S.g 1 rfl) (by omega))),
    fun a w G S => .of rfl (OpR.call3 rfl c_73 (xmixed_ok S.ok (QC.toQV (S.g 0 rfl)) (QC.toQV (S.g 1 rfl)) (QC.toQV (S.g 2 rfl)) (by omega))),
    fun a w G S => .of rfl (OpR.ileq S.ok rfl (S.e 0 rfl) (rfl : _ = nv .i64 0) MT.self),
    fun a w G S => .of rfl (OpR.asn S.ok rfl (S.g 0 rfl)),trivial⟩ fun β a w G S => ?_
  replace S : St W0 G0 53 [(8,BT (decide ((mixedF (((((q + r) - (p + s)) * ((q + r) - (p + s))) + (4 * (q * r))) - (4 * (p * s))) (4 * ((q + r) - (p + s))) (q * r)) ≤ 0))),(52,BT (decide ((mixedF (((((q + r) - (p + s)) * ((q + r) - (p + s))) + (4 * (q * r))) - (4 * (p * s))) (4 * ((q + r) - (p + s))) (q * r)) ≤ 0))),(51,IT (mixedF (((((q + r) - (p + s)) * ((q + r) - (p + s))) + (4 * (q * r))) - (4 * (p * s))) (4 * ((q + r) - (p + s))) (q * r))),(50,QC (n2 + n3) (q * r)),(49,QV n3 r),(48,QV n2 q),(47,QC (64 + ((n2 + n3 + 1) + (n1 + n4 + 1) + 1)) (4 * ((q + r) - (p + s)))),(46,QC ((n2 + n3 + 1) + (n1 + n4 + 1) + 1) ((q + r) - (p + s))),(45,QC 64 4),(44,QC (((((n2 + n3 + 1) + (n1 + n4 + 1) + 1) + ((n2 + n3 + 1) + (n1 + n4 + 1) + 1)) + (64 + (n2 + n3)) + 1) + (64 + (n1 + n4)) + 1) (((((q + r) - (p + s)) * ((q + r) - (p + s))) + (4 * (q * r))) - (4 * (p * s)))),(12,PB b12),(11,PB b11),(27,BT (decide ((mixedF ((q + r) - (p + s)) 2 (q * r)) ≥ 0))),(10,PB b10),(9,PB b9),(7,PB b7),(6,PB b6),(5,PB b5),(4,PB b4)] [⟨b12,35,some 3,QC (((((n2 + n3 + 1) + (n1 + n4 + 1) + 1) + ((n2 + n3 + 1) + (n1 + n4 + 1) + 1)) + (64 + (n2 + n3)) + 1) + (64 + (n1 + n4)) + 1) (((((q + r) - (p + s)) * ((q + r) - (p + s))) + (4 * (q * r))) - (4 * (p * s)))⟩,⟨b11,35,some 3,QC 64 4⟩,⟨b10,35,some 3,QC 64 2⟩,⟨b9,35,some 3,QC ((n2 + n3 + 1) + (n1 + n4 + 1) + 1) ((q + r) - (p + s))⟩,⟨b7,35,some 3,QV n4 s⟩,⟨b6,35,some 3,QV n3 r⟩,⟨b5,35,some 3,QV n2 q⟩,⟨b4,35,some 3,QV n1 p⟩] a _ _ := S
  refine wpList_nil (hK _ _ ?_);clear hK K
  replace S := S.d9.d8.d7.d6.d5.d4.d3.d2.d1
  exact wp_ret (S.retTmp rfl ((S.e 0 rfl).trans (bv_eq (if_neg ‹_›).symm)))
theorem xCheck_ok {n : Nat} {rg ra rb rc : FR} {v1 : Value} {W0 : World} {G0 : Gh} (hok : Gok W0 G0) (h1 : (PTS [(some 3,FX n rg),(some 3,FX n ra),(some 3,FX n rb),(some 3,FX n rc)]).t v1 G0) (hn : 1000 * n + 1000 ≤ BIG) (hn1 : 1 ≤ n) : Calls Try.prog 17 #[v1] W0 (Ret W0 G0 (MT.ex (errV 51 (chkF [rg,ra,rb,rc])))) := by
 refine St.enter (N := 53) (L := [(0,PTS [(some 3,FX n rg),(some 3,FX n ra),(some 3,FX n rb),(some 3,FX n rc)])]) (args := [v1]) Try.func17 rfl rfl rfl hok (enter1 h1) fun a S => ?_
 refine wp_reg fun K hK => ?_
 refine S.boxop (x := .tmp 0) (τ := PTS [(some 3,FX n rg),(some 3,FX n ra),(some 3,FX n rb),(some 3,FX n rc)]) (S.g 0 rfl) (sh (τ := PTS [(some 3,FX n rg),(some 3,FX n ra),(some 3,FX n rb),(some 3,FX n rc)]) (S.g 0 rfl)) rfl rfl rfl rfl rfl fun b1 a w G S => ?_
 refine S.s (τ := MT.ex (Value.nilIface)) (OpR.asn S.ok rfl rfl) rfl fun a w G S => ?_
 refine wpList_nil (hK _ _ ?_);clear hK K
 replace S := S.d2
 refine wp_reg fun K hK => ?_
 refine S.s (OpR.ldBox S.ok rfl (S.e 1 rfl) (S.box 0 rfl) tS_37) rfl fun a w G S => ?_
 refine S.s (τ := LS (some 3) (([rg,ra,rb,rc]).map (FX n))) (OpR.call1 rfl c_43 (xlist_ok S.ok (S.g 0 rfl) (by omega) (by omega))) rfl fun a w G S => ?_
 refine S.s (OpR.asn S.ok rfl (S.g 0 rfl)) rfl fun a w G S => ?_
 refine wpList_nil (hK _ _ ?_);clear hK K
 replace S := S.d4.d2.d1
 refine wp_seq_k fun K hK => ?_
 refine wp_reg fun K hK => ?_
 refine S.s (OpR.mv S.ok rfl (S.g 0 rfl)) rfl fun a w G S => ?_
 refine S.s (τ := NT 4) (OpR.lenM S.ok rfl Try.underlying22 (S.g 0 rfl) rfl) rfl fun a w G S => ?_
 refine S.s (τ := NT 0) (OpR.mv S.ok rfl (rfl : _ = nv .i64 0)) rfl fun a w G S => ?_
 refine wpList_nil (hK _ _ ?_);clear hK K
 refine wp_block ?_
 refine wp_loopJ (fun μ a w => ∃ (j : Nat) (G : Gh),μ = 4 - j ∧ (j ≤ 4) ∧ (([rg,ra,rb,rc].take j).all posR = true) ∧  St W0 G0 53 [(11,NT j),(10,NT 4),(9,LS (some 3) (([rg,ra,rb,rc]).map (FX n))),(3,LS (some 3) (([rg,ra,rb,rc]).map (FX n))),(2,MT.ex (Value.nilIface))] [⟨b1,37,some 12,PTS [(some 3,FX n rg),(some 3,FX n ra),(some 3,FX n rb),(some 3,FX n rc)]⟩] a w G) (4 - 0) ⟨0,_,rfl,(by omega),rfl,(S.keep [0,1,2,3,4]).keepB [0] (by decide)⟩ ?_
 clear S
 intro μ a w ⟨j,G,hm,hj,hg,S⟩
 refine wp_reg fun K hK => ?_
 refine S.s (OpR.nlss S.ok rfl (S.e 0 rfl) (S.e 1 rfl) MT.self) rfl fun a w G S => ?_
 refine wpList_nil (hK _ _ ?_);clear hK K
 refine wp_seq_k fun K hK => ?_
 refine S.cond 0 rfl (fun hc1 => ?_) (fun hc1 => ?_)
 ·
  have hp2 := of_decide_eq_true hc1
  refine wp_skip ?_
  refine hK _ _ ?_;clear hK K
  refine wp_seq_k fun K hK => ?_
  refine wp_block ?_
  refine wp_reg fun K hK => ?_
  refine S.s (τ := PE (some 3) (FX n (([rg,ra,rb,rc]).getD j default))) (OpR.ixM (T := (FX n)) (xs := [rg,ra,rb,rc]) (i := j) S.ok rfl Try.underlying22 tS_35 (S.g 3 rfl) (S.e 1 rfl) rfl (by first | omega | (simp only [List.length_set,List.length_take,List.length_drop,List.length_append,List.length_map,List.length_replicate];omega))) rfl fun a w G S => ?_
  refine S.s (OpR.ldE S.ok rfl tS_35 (S.g 0 rfl)) rfl fun a w G S => ?_
  refine S.alloc rfl rfl rfl z_35 zs_35 rfl rfl fun b5 a w G S => ?_
  refine S.store (τ := FX n (([rg,ra,rb,rc]).getD j default)) 0 rfl rfl rfl rfl (S.e 0 rfl) tS_35 (S.g 1 rfl) (sh (τ := FX n (([rg,ra,rb,rc]).getD j default)) (S.g 1 rfl)) fun w S => ?_
  replace S := S.n0
  refine wpList_nil (hK _ _ ?_);clear hK K
  replace S := S.d2.d1
  refine wp_reg fun K hK => ?_
  refine S.s (OpR.ldBox S.ok rfl (S.e 0 rfl) (S.box 0 rfl) tS_35) rfl fun a w G S => ?_
  refine S.s (τ := BT ((([rg,ra,rb,rc]).getD j default).ok)) (OpR.call1 rfl c_33 (fValidX_ok S.ok (S.g 0 rfl) (by omega))) rfl fun a w G S => ?_
  refine S.s (OpR.bnot S.ok rfl (S.e 0 rfl) MT.self) rfl fun a w G S => ?_
  refine S.s (OpR.mv S.ok rfl (S.g 0 rfl)) rfl fun a w G S => ?_
  rcases Bool.eq_false_or_eq_true (!((([rg,ra,rb,rc]).getD j default).ok)) with hc3 | hc3
  ·
   replace S := S.boolIs 0 rfl hc3
   refine S.skipG 0 rfl rfl rfl rfl rfl rfl fun a w G S => ?_
   refine S.skipG 1 rfl rfl rfl rfl rfl rfl fun a w G S => ?_
   refine S.skipG 2 rfl rfl rfl rfl rfl rfl fun a w G S => ?_
   refine S.s (τ := BT true) (OpR.pick S.ok rfl (S.e 3 rfl) rfl) rfl fun a w G S => ?_
   refine wpList_nil (hK _ _ ?_);clear hK K
   replace S := S.d8.d7.d6.d5.d4.d3.d2.d1
   refine wp_cond_true (S.e 0 rfl) ?_
   refine wp_reg fun K hK => ?_
   refine S.s (OpR.mkI S.ok rfl ni_51 (rfl : _ = nv .i64 3) MT.self) rfl fun a w G S => ?_
   replace S := S.d8
   refine S.s (OpR.asn S.ok rfl (S.g 0 rfl)) rfl fun a w G S => ?_
   refine wpList_nil (hK _ _ ?_);clear hK K
   replace S := S.d1
   exact wp_ret (block_ret (then_ret (then_ret (block_ret (then_ret (S.retTmp rfl ((S.e 0 rfl).trans (by first | exact errV_ne (chk3 (all_not (show j < 4 by omega) (by first | exact posR_not1 (not_true_of ‹_›) | exact posR_not2 ‹_›))) (by decide) | exact errV_z (chk0 (all_end (show ¬ j < 4 by omega) hg) hcl) | exact errV_ne (chk16 (all_end (show ¬ j < 4 by omega) hg) hcl) (by decide)))))))))
  ·
   replace S := S.boolIs 0 rfl hc3
   refine S.stepG 0 (OpR.ldBox S.ok rfl (S.e 5 rfl) (S.box 0 rfl) tS_35) rfl rfl rfl rfl rfl rfl fun a w G S => ?_
   refine S.stepG (τ := IT (((([rg,ra,rb,rc]).getD j default).val).num.sign)) 1 (OpR.call1 rfl c_23 (fSign_ok S.ok (FX.toQV (S.g 0 rfl)) (by omega))) rfl rfl rfl rfl rfl rfl fun a w G S => ?_
   refine S.stepG 2 (OpR.ileq S.ok rfl (S.e 0 rfl) (rfl : _ = nv .i64 0) MT.self) rfl rfl rfl rfl rfl rfl fun a w G S => ?_
   refine S.s (τ := BT (decide ((((([rg,ra,rb,rc]).getD j default).val).num.sign) ≤ 0))) (OpR.pick S.ok rfl (S.e 3 rfl) (S.g 0 rfl)) rfl fun a w G S => ?_
   refine wpList_nil (hK _ _ ?_);clear hK K
   replace S := S.d8.d7.d6.d5.d4.d3.d2.d1
   refine S.cond 0 rfl (fun hc6 => ?_) (fun hc6 => ?_)
   ·
    have hp7 := of_decide_eq_true hc6
    refine wp_reg fun K hK => ?_
    refine S.s (OpR.mkI S.ok rfl ni_51 (rfl : _ = nv .i64 3) MT.self) rfl fun a w G S => ?_
    replace S := S.d8
    refine S.s (OpR.asn S.ok rfl (S.g 0 rfl)) rfl fun a w G S => ?_
    refine wpList_nil (hK _ _ ?_);clear hK K
    replace S := S.d1
    exact wp_ret (block_ret (then_ret (then_ret (block_ret (then_ret (S.retTmp rfl ((S.e 0 rfl).trans (by first | exact errV_ne (chk3 (all_not (show j < 4 by omega) (by first | exact posR_not1 (not_true_of ‹_›) | exact posR_not2 ‹_›))) (by decide) | exact errV_z (chk0 (all_end (show ¬ j < 4 by omega) hg) hcl) | exact errV_ne (chk16 (all_end (show ¬ j < 4 by omega) hg) hcl) (by decide)))))))))
   ·
    have hp8 := of_decide_eq_false hc6
    refine wp_skip ?_
    refine hK _ _ ?_;clear hK K
    refine wp_region_lit ?_
    refine S.s (OpR.nadd S.ok rfl (S.e 3 rfl) (rfl : _ = nv .i64 1) (wr_i64 (by omega)) MT.self) rfl fun a w G S => ?_
    replace S := S.d4
    refine S.s (OpR.mv S.ok rfl (S.g 0 rfl)) rfl fun a w G S => ?_
    refine wpList_nil ?_
    replace S := S.d1
    exact ⟨4 - (j + 1),(by omega),j + 1,_,rfl,(by omega),(all_snoc (show j < 4 by omega) hg (posR_of (not_false_of ‹_›) ‹_›)),(S.keep [0,4,5,6,7]).keepB [1] (by decide)⟩
 ·
  have hp9 := of_decide_eq_false hc1
  refine wp_exit (then_exit (then_exit (exit_same ?_)))
  clear hK K
  refine hK _ _ ?_;clear hK K
  refine wp_reg fun K hK => ?_
  refine S.s (OpR.mv S.ok rfl (S.g 4 rfl)) rfl fun a w G S => ?_
  refine S.s (τ := LS (none) ((orderF (([rg,ra,rb,rc]).map FR.val)).map NT)) (OpR.call1 rfl c_44 (xorder_ok S.ok (LS.convM (T := (FX n)) (U := (QV n)) (f := FR.val) (S.g 0 rfl) (by first | rfl | (simp;done)) fun z_ _ _ _ h => (QV.eq (FX.toQV h) (by first | rfl | omega | (simp only [Nat.zero_add,Nat.add_zero];done) | (simp;done) | (push_cast;omega)))) rfl (by omega))) rfl fun a w G S => ?_
  refine S.s (OpR.asn S.ok rfl (S.g 0 rfl)) rfl fun a w G S => ?_
  refine wpList_nil (hK _ _ ?_);clear hK K
  replace S := S.d2.d1
  refine wp_seq_k fun K hK => ?_
  refine wp_seq_k fun K hK => ?_
  have ho0 := orderF_lt ([rg,ra,rb,rc].map FR.val) 0
  have ho1 := orderF_lt ([rg,ra,rb,rc].map FR.val) 1
  have ho2 := orderF_lt ([rg,ra,rb,rc].map FR.val) 2
  have ho3 := orderF_lt ([rg,ra,rb,rc].map FR.val) 3
  have hol := orderF_len ([rg,ra,rb,rc].map FR.val)
  refine S.drawn [⟨27,.g (LS (some 3) (([rg,ra,rb,rc]).map (FX n))),[]⟩,⟨28,.g (LS (none) ((orderF (([rg,ra,rb,rc]).map FR.val)).map NT)),[]⟩,⟨29,.g (PE (none) (NT ((orderF (([rg,ra,rb,rc]).map FR.val)).getD 3 default))),[1]⟩,⟨30,.g (NT ((orderF (([rg,ra,rb,rc]).map FR.val)).getD 3 default)),[2]⟩,⟨31,.g (PE (some 3) (FX n (([rg,ra,rb,rc]).getD ((orderF (([rg,ra,rb,rc]).map FR.val)).getD 3 default) default))),[0,3]⟩,⟨32,.g (FX n (([rg,ra,rb,rc]).getD ((orderF (([rg,ra,rb,rc]).map FR.val)).getD 3 default) default)),[4]⟩,⟨33,.g (LS (some 3) (([rg,ra,rb,rc]).map (FX n))),[]⟩,⟨34,.g (LS (none) ((orderF (([rg,ra,rb,rc]).map FR.val)).map NT)),[]⟩,⟨35,.g (PE (none) (NT ((orderF (([rg,ra,rb,rc]).map FR.val)).getD 0 default))),[7]⟩,⟨36,.g (NT ((orderF (([rg,ra,rb,rc]).map FR.val)).getD 0 default)),[8]⟩,⟨37,.g (PE (some 3) (FX n (([rg,ra,rb,rc]).getD ((orderF (([rg,ra,rb,rc]).map FR.val)).getD 0 default) default))),[6,9]⟩,⟨38,.g (FX n (([rg,ra,rb,rc]).getD ((orderF (([rg,ra,rb,rc]).map FR.val)).getD 0 default) default)),[10]⟩,⟨39,.g (LS (some 3) (([rg,ra,rb,rc]).map (FX n))),[]⟩,⟨40,.g (LS (none) ((orderF (([rg,ra,rb,rc]).map FR.val)).map NT)),[]⟩,⟨41,.g (PE (none) (NT ((orderF (([rg,ra,rb,rc]).map FR.val)).getD 1 default))),[13]⟩,⟨42,.g (NT ((orderF (([rg,ra,rb,rc]).map FR.val)).getD 1 default)),[14]⟩,⟨43,.g (PE (some 3) (FX n (([rg,ra,rb,rc]).getD ((orderF (([rg,ra,rb,rc]).map FR.val)).getD 1 default) default))),[12,15]⟩,⟨44,.g (FX n (([rg,ra,rb,rc]).getD ((orderF (([rg,ra,rb,rc]).map FR.val)).getD 1 default) default)),[16]⟩,⟨45,.g (LS (some 3) (([rg,ra,rb,rc]).map (FX n))),[]⟩,⟨46,.g (LS (none) ((orderF (([rg,ra,rb,rc]).map FR.val)).map NT)),[]⟩,⟨47,.g (PE (none) (NT ((orderF (([rg,ra,rb,rc]).map FR.val)).getD 2 default))),[19]⟩,⟨48,.g (NT ((orderF (([rg,ra,rb,rc]).map FR.val)).getD 2 default)),[20]⟩,⟨49,.g (PE (some 3) (FX n (([rg,ra,rb,rc]).getD ((orderF (([rg,ra,rb,rc]).map FR.val)).getD 2 default) default))),[18,21]⟩,⟨50,.g (FX n (([rg,ra,rb,rc]).getD ((orderF (([rg,ra,rb,rc]).map FR.val)).getD 2 default) default)),[22]⟩,⟨51,.g (BT (closesF (lk [rg,ra,rb,rc] 3) (lk [rg,ra,rb,rc] 0) (lk [rg,ra,rb,rc] 1) (lk [rg,ra,rb,rc] 2))),[5,11,17,23]⟩] mixedOrders (by kernel_rfl)
   ⟨fun a w G S => .of rfl (OpR.mv S.ok rfl (S.g 5 rfl)),
    fun a w G S => .of rfl (OpR.mv S.ok rfl (S.g 0 rfl)),
    fun a w G S => .of rfl (OpR.ixM (T := NT) (xs := orderF (([rg,ra,rb,rc]).map FR.val)) (i := 3) S.ok rfl Try.underlying75 tS_3 (S.g 0 rfl) (rfl : _ = nv .i64 3) rfl (by rw [hol];decide)),
    fun a w G S => .of rfl (OpR.ldE S.ok rfl tS_3 (S.g 0 rfl)),
    fun a w G S => .of rfl (OpR.ixM (T := (FX n)) (xs := [rg,ra,rb,rc]) (i := (orderF (([rg,ra,rb,rc]).map FR.val)).getD 3 default) S.ok rfl Try.underlying22 tS_35 (S.g 0 rfl) (S.e 1 rfl) rfl (show _ < 4 by omega)),
    fun a w G S => .of rfl (OpR.ldE S.ok rfl tS_35 (S.g 0 rfl)),
    fun a w G S => .of rfl (OpR.mv S.ok rfl (S.g 5 rfl)),
    fun a w G S => .of rfl (OpR.mv S.ok rfl (S.g 0 rfl)),
    fun a w G S => .of rfl (OpR.ixM (T := NT) (xs := orderF (([rg,ra,rb,rc]).map FR.val)) (i := 0) S.ok rfl Try.underlying75 tS_3 (S.g 0 rfl) (rfl : _ = nv .i64 0) rfl (by rw [hol];decide)),
    fun a w G S => .of rfl (OpR.ldE S.ok rfl tS_3 (S.g 0 rfl)),
    fun a w G S => .of rfl (OpR.ixM (T := (FX n)) (xs := [rg,ra,rb,rc]) (i := (orderF (([rg,ra,rb,rc]).map FR.val)).getD 0 default) S.ok rfl Try.underlying22 tS_35 (S.g 0 rfl) (S.e 1 rfl) rfl (show _ < 4 by omega)),
    fun a w G S => .of rfl (OpR.ldE S.ok rfl tS_35 (S.g 0 rfl)),
    fun a w G S => .of rfl (OpR.mv S.ok rfl (S.g 5 rfl)),
    fun a w G S => .of rfl (OpR.mv S.ok rfl (S.g 0 rfl)),
    fun a w G S => .of rfl (OpR.ixM (T := NT) (xs := orderF (([rg,ra,rb,rc]).map FR.val)) (i := 1) S.ok rfl Try.underlying75 tS_3 (S.g 0 rfl) (rfl : _ = nv .i64 1) rfl (by rw [hol];decide)),
    fun a w G S => .of rfl (OpR.ldE S.ok rfl tS_3 (S.g 0 rfl)),
    fun a w G S => .of rfl (OpR.ixM (T := (FX n)) (xs := [rg,ra,rb,rc]) (i := (orderF (([rg,ra,rb,rc]).map FR.val)).getD 1 default) S.ok rfl Try.underlying22 tS_35 (S.g 0 rfl) (S.e 1 rfl) rfl (show _ < 4 by omega)),
    fun a w G S => .of rfl (OpR.ldE S.ok rfl tS_35 (S.g 0 rfl)),
    fun a w G S => .of rfl (OpR.mv S.ok rfl (S.g 5 rfl)),
    fun a w G S => .of rfl (OpR.mv S.ok rfl (S.g 0 rfl)),
    fun a w G S => .of rfl (OpR.ixM (T := NT) (xs := orderF (([rg,ra,rb,rc]).map FR.val)) (i := 2) S.ok rfl Try.underlying75 tS_3 (S.g 0 rfl) (rfl : _ = nv .i64 2) rfl (by rw [hol];decide)),
    fun a w G S => .of rfl (OpR.ldE S.ok rfl tS_3 (S.g 0 rfl)),
    fun a w G S => .of rfl (OpR.ixM (T := (FX n)) (xs := [rg,ra,rb,rc]) (i := (orderF (([rg,ra,rb,rc]).map FR.val)).getD 2 default) S.ok rfl Try.underlying22 tS_35 (S.g 0 rfl) (S.e 1 rfl) rfl (show _ < 4 by omega)),
    fun a w G S => .of rfl (OpR.ldE S.ok rfl tS_35 (S.g 0 rfl)),
    fun a w G S => .of rfl (OpR.conv' (OpR.call4 rfl c_45 (xcloses_ok S.ok (FX.toQV (S.g 0 rfl)) (FX.toQV (S.g 1 rfl)) (FX.toQV (S.g 2 rfl)) (FX.toQV (S.g 3 rfl)) (by omega))) fun _ _ h => h),trivial⟩ fun β a w G S => ?_
  replace S : St W0 G0 53 [(51,BT (closesF (lk [rg,ra,rb,rc] 3) (lk [rg,ra,rb,rc] 0) (lk [rg,ra,rb,rc] 1) (lk [rg,ra,rb,rc] 2))),(50,FX n (([rg,ra,rb,rc]).getD ((orderF (([rg,ra,rb,rc]).map FR.val)).getD 2 default) default)),(49,PE (some 3) (FX n (([rg,ra,rb,rc]).getD ((orderF (([rg,ra,rb,rc]).map FR.val)).getD 2 default) default))),(48,NT ((orderF (([rg,ra,rb,rc]).map FR.val)).getD 2 default)),(47,PE (none) (NT ((orderF (([rg,ra,rb,rc]).map FR.val)).getD 2 default))),(46,LS (none) ((orderF (([rg,ra,rb,rc]).map FR.val)).map NT)),(45,LS (some 3) (([rg,ra,rb,rc]).map (FX n))),(44,FX n (([rg,ra,rb,rc]).getD ((orderF (([rg,ra,rb,rc]).map FR.val)).getD 1 default) default)),(43,PE (some 3) (FX n (([rg,ra,rb,rc]).getD ((orderF (([rg,ra,rb,rc]).map FR.val)).getD 1 default) default))),(42,NT ((orderF (([rg,ra,rb,rc]).map FR.val)).getD 1 default)),(41,PE (none) (NT ((orderF (([rg,ra,rb,rc]).map FR.val)).getD 1 default))),(40,LS (none) ((orderF (([rg,ra,rb,rc]).map FR.val)).map NT)),(39,LS (some 3) (([rg,ra,rb,rc]).map (FX n))),(38,FX n (([rg,ra,rb,rc]).getD ((orderF (([rg,ra,rb,rc]).map FR.val)).getD 0 default) default)),(37,PE (some 3) (FX n (([rg,ra,rb,rc]).getD ((orderF (([rg,ra,rb,rc]).map FR.val)).getD 0 default) default))),(36,NT ((orderF (([rg,ra,rb,rc]).map FR.val)).getD 0 default)),(35,PE (none) (NT ((orderF (([rg,ra,rb,rc]).map FR.val)).getD 0 default))),(34,LS (none) ((orderF (([rg,ra,rb,rc]).map FR.val)).map NT)),(33,LS (some 3) (([rg,ra,rb,rc]).map (FX n))),(32,FX n (([rg,ra,rb,rc]).getD ((orderF (([rg,ra,rb,rc]).map FR.val)).getD 3 default) default)),(31,PE (some 3) (FX n (([rg,ra,rb,rc]).getD ((orderF (([rg,ra,rb,rc]).map FR.val)).getD 3 default) default))),(30,NT ((orderF (([rg,ra,rb,rc]).map FR.val)).getD 3 default)),(29,PE (none) (NT ((orderF (([rg,ra,rb,rc]).map FR.val)).getD 3 default))),(28,LS (none) ((orderF (([rg,ra,rb,rc]).map FR.val)).map NT)),(27,LS (some 3) (([rg,ra,rb,rc]).map (FX n))),(6,LS (none) ((orderF (([rg,ra,rb,rc]).map FR.val)).map NT)),(12,BT (decide (j < 4))),(11,NT j),(10,NT 4),(9,LS (some 3) (([rg,ra,rb,rc]).map (FX n))),(3,LS (some 3) (([rg,ra,rb,rc]).map (FX n))),(2,MT.ex (Value.nilIface))] [⟨b1,37,some 12,PTS [(some 3,FX n rg),(some 3,FX n ra),(some 3,FX n rb),(some 3,FX n rc)]⟩] a _ _ := S
  refine wpList_nil (hK _ _ ?_);clear hK K
  replace S := S.d25.d24.d23.d22.d21.d20.d19.d18.d17.d16.d15.d14.d13.d12.d11.d10.d9.d8.d7.d6.d5.d4.d3.d2.d1
  refine S.cond 0 rfl (fun hc10 => ?_) (fun hc10 => ?_)
  ·
   have hcl := hc10
   refine wp_reg fun K hK => ?_
   replace S := S.d6
   refine S.s (τ := MT.ex (Value.nilIface)) (OpR.asn S.ok rfl rfl) rfl fun a w G S => ?_
   refine wpList_nil (hK _ _ ?_);clear hK K
   exact wp_ret (then_ret (S.retTmp rfl ((S.e 0 rfl).trans (by first | exact errV_ne (chk3 (all_not (show j < 4 by omega) (by first | exact posR_not1 (not_true_of ‹_›) | exact posR_not2 ‹_›))) (by decide) | exact errV_z (chk0 (all_end (show ¬ j < 4 by omega) hg) hcl) | exact errV_ne (chk16 (all_end (show ¬ j < 4 by omega) hg) hcl) (by decide)))))
  ·
   have hcl := hc10
   refine wp_skip ?_
   refine hK _ _ ?_;clear hK K
   refine wp_reg fun K hK => ?_
   refine S.s (OpR.mkI S.ok rfl ni_51 (rfl : _ = nv .i64 16) MT.self) rfl fun a w G S => ?_
   replace S := S.d7
   refine S.s (OpR.asn S.ok rfl (S.g 0 rfl)) rfl fun a w G S => ?_
   refine wpList_nil (hK _ _ ?_);clear hK K
   replace S := S.d1
   exact wp_ret (S.retTmp rfl ((S.e 0 rfl).trans (by first | exact errV_ne (chk3 (all_not (show j < 4 by omega) (by first | exact posR_not1 (not_true_of ‹_›) | exact posR_not2 ‹_›))) (by decide) | exact errV_z (chk0 (all_end (show ¬ j < 4 by omega) hg) hcl) | exact errV_ne (chk16 (all_end (show ¬ j < 4 by omega) hg) hcl) (by decide))))
theorem xexcess_ok {n : Nat} {rg ra rb rc : FR} {v1 : Value} {W0 : World} {G0 : Gh} (hok : Gok W0 G0) (h1 : (PTS [(some 3,FX n rg),(some 3,FX n ra),(some 3,FX n rb),(some 3,FX n rc)]).t v1 G0) (hn : 1000 * n + 1000 ≤ BIG) (hn1 : 1 ≤ n) : Calls Try.prog 49 #[v1] W0 (Ret W0 G0 (IT (excF [rg,ra,rb,rc]))) := by
 refine St.enter (N := 36) (L := [(0,PTS [(some 3,FX n rg),(some 3,FX n ra),(some 3,FX n rb),(some 3,FX n rc)])]) (args := [v1]) Try.func49 rfl rfl rfl hok (enter1 h1) fun a S => ?_
 refine wp_reg fun K hK => ?_
 refine S.boxop (x := .tmp 0) (τ := PTS [(some 3,FX n rg),(some 3,FX n ra),(some 3,FX n rb),(some 3,FX n rc)]) (S.g 0 rfl) (sh (τ := PTS [(some 3,FX n rg),(some 3,FX n ra),(some 3,FX n rb),(some 3,FX n rc)]) (S.g 0 rfl)) rfl rfl rfl rfl rfl fun b1 a w G S => ?_
 refine S.s (τ := NT 0) (OpR.asn S.ok rfl (rfl : _ = nv .i64 0)) rfl fun a w G S => ?_
 refine wpList_nil (hK _ _ ?_);clear hK K
 replace S := S.d2
 refine wp_reg fun K hK => ?_
 refine S.s (OpR.ldBox S.ok rfl (S.e 1 rfl) (S.box 0 rfl) tS_37) rfl fun a w G S => ?_
 refine S.s (τ := LS (some 3) (([rg,ra,rb,rc]).map (FX n))) (OpR.call1 rfl c_43 (xlist_ok S.ok (S.g 0 rfl) (by omega) (by omega))) rfl fun a w G S => ?_
 refine S.s (OpR.asn S.ok rfl (S.g 0 rfl)) rfl fun a w G S => ?_
 refine wpList_nil (hK _ _ ?_);clear hK K
 replace S := S.d4.d2.d1
 refine wp_reg fun K hK => ?_
 refine S.s (OpR.mv S.ok rfl (S.g 0 rfl)) rfl fun a w G S => ?_
 refine S.s (τ := LS (none) ((orderF (([rg,ra,rb,rc]).map FR.val)).map NT)) (OpR.call1 rfl c_44 (xorder_ok S.ok (LS.convM (T := (FX n)) (U := (QV n)) (f := FR.val) (S.g 0 rfl) (by first | rfl | (simp;done)) fun z_ _ _ _ h => (QV.eq (FX.toQV h) (by first | rfl | omega | (simp only [Nat.zero_add,Nat.add_zero];done) | (simp;done) | (push_cast;omega)))) rfl (by omega))) rfl fun a w G S => ?_
 refine S.s (OpR.asn S.ok rfl (S.g 0 rfl)) rfl fun a w G S => ?_
 refine wpList_nil (hK _ _ ?_);clear hK K
 replace S := S.d2.d1
 refine wp_seq_k fun K hK => ?_
 have ho0 := orderF_lt ([rg,ra,rb,rc].map FR.val) 0
 have ho1 := orderF_lt ([rg,ra,rb,rc].map FR.val) 1
 have ho2 := orderF_lt ([rg,ra,rb,rc].map FR.val) 2
 have ho3 := orderF_lt ([rg,ra,rb,rc].map FR.val) 3
 have hol := orderF_len ([rg,ra,rb,rc].map FR.val)
 replace S := S.d2
 refine S.drawn [⟨9,.g (LS (some 3) (([rg,ra,rb,rc]).map (FX n))),[]⟩,⟨10,.g (LS (none) ((orderF (([rg,ra,rb,rc]).map FR.val)).map NT)),[]⟩,⟨11,.g (PE (none) (NT ((orderF (([rg,ra,rb,rc]).map FR.val)).getD 0 default))),[1]⟩,⟨12,.g (NT ((orderF (([rg,ra,rb,rc]).map FR.val)).getD 0 default)),[2]⟩,⟨13,.g (PE (some 3) (FX n (([rg,ra,rb,rc]).getD ((orderF (([rg,ra,rb,rc]).map FR.val)).getD 0 default) default))),[0,3]⟩,⟨14,.g (FX n (([rg,ra,rb,rc]).getD ((orderF (([rg,ra,rb,rc]).map FR.val)).getD 0 default) default)),[4]⟩,⟨15,.g (LS (some 3) (([rg,ra,rb,rc]).map (FX n))),[]⟩,⟨16,.g (LS (none) ((orderF (([rg,ra,rb,rc]).map FR.val)).map NT)),[]⟩,⟨17,.g (PE (none) (NT ((orderF (([rg,ra,rb,rc]).map FR.val)).getD 3 default))),[7]⟩,⟨18,.g (NT ((orderF (([rg,ra,rb,rc]).map FR.val)).getD 3 default)),[8]⟩,⟨19,.g (PE (some 3) (FX n (([rg,ra,rb,rc]).getD ((orderF (([rg,ra,rb,rc]).map FR.val)).getD 3 default) default))),[6,9]⟩,⟨20,.g (FX n (([rg,ra,rb,rc]).getD ((orderF (([rg,ra,rb,rc]).map FR.val)).getD 3 default) default)),[10]⟩,⟨21,.g (LS (some 3) (([(([rg,ra,rb,rc]).getD ((orderF (([rg,ra,rb,rc]).map FR.val)).getD 0 default) default).val,(([rg,ra,rb,rc]).getD ((orderF (([rg,ra,rb,rc]).map FR.val)).getD 3 default) default).val]).map (QV n))),[5,11]⟩,⟨22,.g (LS (some 3) (([rg,ra,rb,rc]).map (FX n))),[]⟩,⟨23,.g (LS (none) ((orderF (([rg,ra,rb,rc]).map FR.val)).map NT)),[]⟩,⟨24,.g (PE (none) (NT ((orderF (([rg,ra,rb,rc]).map FR.val)).getD 1 default))),[14]⟩,⟨25,.g (NT ((orderF (([rg,ra,rb,rc]).map FR.val)).getD 1 default)),[15]⟩,⟨26,.g (PE (some 3) (FX n (([rg,ra,rb,rc]).getD ((orderF (([rg,ra,rb,rc]).map FR.val)).getD 1 default) default))),[13,16]⟩,⟨27,.g (FX n (([rg,ra,rb,rc]).getD ((orderF (([rg,ra,rb,rc]).map FR.val)).getD 1 default) default)),[17]⟩,⟨28,.g (LS (some 3) (([rg,ra,rb,rc]).map (FX n))),[]⟩,⟨29,.g (LS (none) ((orderF (([rg,ra,rb,rc]).map FR.val)).map NT)),[]⟩,⟨30,.g (PE (none) (NT ((orderF (([rg,ra,rb,rc]).map FR.val)).getD 2 default))),[20]⟩,⟨31,.g (NT ((orderF (([rg,ra,rb,rc]).map FR.val)).getD 2 default)),[21]⟩,⟨32,.g (PE (some 3) (FX n (([rg,ra,rb,rc]).getD ((orderF (([rg,ra,rb,rc]).map FR.val)).getD 2 default) default))),[19,22]⟩,⟨33,.g (FX n (([rg,ra,rb,rc]).getD ((orderF (([rg,ra,rb,rc]).map FR.val)).getD 2 default) default)),[23]⟩,⟨34,.g (LS (some 3) (([(([rg,ra,rb,rc]).getD ((orderF (([rg,ra,rb,rc]).map FR.val)).getD 1 default) default).val,(([rg,ra,rb,rc]).getD ((orderF (([rg,ra,rb,rc]).map FR.val)).getD 2 default) default).val]).map (QV n))),[18,24]⟩,⟨35,.g (IT (compareF ([(([rg,ra,rb,rc]).getD ((orderF (([rg,ra,rb,rc]).map FR.val)).getD 0 default) default).val,(([rg,ra,rb,rc]).getD ((orderF (([rg,ra,rb,rc]).map FR.val)).getD 3 default) default).val]) ([(([rg,ra,rb,rc]).getD ((orderF (([rg,ra,rb,rc]).map FR.val)).getD 1 default) default).val,(([rg,ra,rb,rc]).getD ((orderF (([rg,ra,rb,rc]).map FR.val)).getD 2 default) default).val]))),[12,25]⟩,⟨2,.g (IT (compareF ([(([rg,ra,rb,rc]).getD ((orderF (([rg,ra,rb,rc]).map FR.val)).getD 0 default) default).val,(([rg,ra,rb,rc]).getD ((orderF (([rg,ra,rb,rc]).map FR.val)).getD 3 default) default).val]) ([(([rg,ra,rb,rc]).getD ((orderF (([rg,ra,rb,rc]).map FR.val)).getD 1 default) default).val,(([rg,ra,rb,rc]).getD ((orderF (([rg,ra,rb,rc]).map FR.val)).getD 2 default) default).val]))),[26]⟩] mixedOrders (by kernel_rfl)
  ⟨fun a w G S => .of rfl (OpR.mv S.ok rfl (S.g 1 rfl)),
   fun a w G S => .of rfl (OpR.mv S.ok rfl (S.g 0 rfl)),
   fun a w G S => .of rfl (OpR.ixM (T := NT) (xs := orderF (([rg,ra,rb,rc]).map FR.val)) (i := 0) S.ok rfl Try.underlying75 tS_3 (S.g 0 rfl) (rfl : _ = nv .i64 0) rfl (by rw [hol];decide)),
   fun a w G S => .of rfl (OpR.ldE S.ok rfl tS_3 (S.g 0 rfl)),
   fun a w G S => .of rfl (OpR.ixM (T := (FX n)) (xs := [rg,ra,rb,rc]) (i := (orderF (([rg,ra,rb,rc]).map FR.val)).getD 0 default) S.ok rfl Try.underlying22 tS_35 (S.g 0 rfl) (S.e 1 rfl) rfl (show _ < 4 by omega)),
   fun a w G S => .of rfl (OpR.ldE S.ok rfl tS_35 (S.g 0 rfl)),
   fun a w G S => .of rfl (OpR.mv S.ok rfl (S.g 1 rfl)),
   fun a w G S => .of rfl (OpR.mv S.ok rfl (S.g 0 rfl)),
   fun a w G S => .of rfl (OpR.ixM (T := NT) (xs := orderF (([rg,ra,rb,rc]).map FR.val)) (i := 3) S.ok rfl Try.underlying75 tS_3 (S.g 0 rfl) (rfl : _ = nv .i64 3) rfl (by rw [hol];decide)),
   fun a w G S => .of rfl (OpR.ldE S.ok rfl tS_3 (S.g 0 rfl)),
   fun a w G S => .of rfl (OpR.ixM (T := (FX n)) (xs := [rg,ra,rb,rc]) (i := (orderF (([rg,ra,rb,rc]).map FR.val)).getD 3 default) S.ok rfl Try.underlying22 tS_35 (S.g 0 rfl) (S.e 1 rfl) rfl (show _ < 4 by omega)),
   fun a w G S => .of rfl (OpR.ldE S.ok rfl tS_35 (S.g 0 rfl)),
   fun a w G S => .of rfl (OpR.buildS (k := some 3) (τs := [(([rg,ra,rb,rc]).getD ((orderF (([rg,ra,rb,rc]).map FR.val)).getD 0 default) default).val,(([rg,ra,rb,rc]).getD ((orderF (([rg,ra,rb,rc]).map FR.val)).getD 3 default) default).val].map (QV n)) (us := [a.eval (.tmp 14),a.eval (.tmp 20)]) S.ok rfl Try.underlying22 el_35 rfl (by decide) (by decide) (by simp [Act.eval]) rfl (Els.cons (sh (τ := QV n ((([rg,ra,rb,rc]).getD ((orderF (([rg,ra,rb,rc]).map FR.val)).getD 0 default) default).val)) (FX.toQV (S.g 0 rfl))) (FX.toQV (S.g 0 rfl)) (Els.cons (sh (τ := QV n ((([rg,ra,rb,rc]).getD ((orderF (([rg,ra,rb,rc]).map FR.val)).getD 3 default) default).val)) (FX.toQV (S.g 1 rfl))) (FX.toQV (S.g 1 rfl)) Els.nil))),
   fun a w G S => .of rfl (OpR.mv S.ok rfl (S.g 1 rfl)),
   fun a w G S => .of rfl (OpR.mv S.ok rfl (S.g 0 rfl)),
   fun a w G S => .of rfl (OpR.ixM (T := NT) (xs := orderF (([rg,ra,rb,rc]).map FR.val)) (i := 1) S.ok rfl Try.underlying75 tS_3 (S.g 0 rfl) (rfl : _ = nv .i64 1) rfl (by rw [hol];decide)),
   fun a w G S => .of rfl (OpR.ldE S.ok rfl tS_3 (S.g 0 rfl)),
   fun a w G S => .of rfl (OpR.ixM (T := (FX n)) (xs := [rg,ra,rb,rc]) (i := (orderF (([rg,ra,rb,rc]).map FR.val)).getD 1 default) S.ok rfl Try.underlying22 tS_35 (S.g 0 rfl) (S.e 1 rfl) rfl (show _ < 4 by omega)),
   fun a w G S => .of rfl (OpR.ldE S.ok rfl tS_35 (S.g 0 rfl)),
   fun a w G S => .of rfl (OpR.mv S.ok rfl (S.g 1 rfl)),
   fun a w G S => .of rfl (OpR.mv S.ok rfl (S.g 0 rfl)),
   fun a w G S => .of rfl (OpR.ixM (T := NT) (xs := orderF (([rg,ra,rb,rc]).map FR.val)) (i := 2) S.ok rfl Try.underlying75 tS_3 (S.g 0 rfl) (rfl : _ = nv .i64 2) rfl (by rw [hol];decide)),
   fun a w G S => .of rfl (OpR.ldE S.ok rfl tS_3 (S.g 0 rfl)),
   fun a w G S => .of rfl (OpR.ixM (T := (FX n)) (xs := [rg,ra,rb,rc]) (i := (orderF (([rg,ra,rb,rc]).map FR.val)).getD 2 default) S.ok rfl Try.underlying22 tS_35 (S.g 0 rfl) (S.e 1 rfl) rfl (show _ < 4 by omega)),
   fun a w G S => .of rfl (OpR.ldE S.ok rfl tS_35 (S.g 0 rfl)),
   fun a w G S => .of rfl (OpR.buildS (k := some 3) (τs := [(([rg,ra,rb,rc]).getD ((orderF (([rg,ra,rb,rc]).map FR.val)).getD 1 default) default).val,(([rg,ra,rb,rc]).getD ((orderF (([rg,ra,rb,rc]).map FR.val)).getD 2 default) default).val].map (QV n)) (us := [a.eval (.tmp 27),a.eval (.tmp 33)]) S.ok rfl Try.underlying22 el_35 rfl (by decide) (by decide) (by simp [Act.eval]) rfl (Els.cons (sh (τ := QV n ((([rg,ra,rb,rc]).getD ((orderF (([rg,ra,rb,rc]).map FR.val)).getD 1 default) default).val)) (FX.toQV (S.g 0 rfl))) (FX.toQV (S.g 0 rfl)) (Els.cons (sh (τ := QV n ((([rg,ra,rb,rc]).getD ((orderF (([rg,ra,rb,rc]).map FR.val)).getD 2 default) default).val)) (FX.toQV (S.g 1 rfl))) (FX.toQV (S.g 1 rfl)) Els.nil))),
   fun a w G S => .of rfl (OpR.call2 rfl c_34 (xcompare_ok S.ok (LS.eqM (S.g 0 rfl) (by first | rfl | omega | (simp only [Nat.zero_add,Nat.add_zero];done) | (simp;done) | (push_cast;omega))) (LS.eqM (S.g 1 rfl) (by first | rfl | omega | (simp only [Nat.zero_add,Nat.add_zero];done) | (simp;done) | (push_cast;omega))) (by omega) (by omega) (by omega))),
   fun a w G S => .of rfl (OpR.asn S.ok rfl (S.g 0 rfl)),trivial⟩ fun β a w G S => ?_
 replace S : St W0 G0 36 [(2,IT (compareF ([(([rg,ra,rb,rc]).getD ((orderF (([rg,ra,rb,rc]).map FR.val)).getD 0 default) default).val,(([rg,ra,rb,rc]).getD ((orderF (([rg,ra,rb,rc]).map FR.val)).getD 3 default) default).val]) ([(([rg,ra,rb,rc]).getD ((orderF (([rg,ra,rb,rc]).map FR.val)).getD 1 default) default).val,(([rg,ra,rb,rc]).getD ((orderF (([rg,ra,rb,rc]).map FR.val)).getD 2 default) default).val]))),(35,IT (compareF ([(([rg,ra,rb,rc]).getD ((orderF (([rg,ra,rb,rc]).map FR.val)).getD 0 default) default).val,(([rg,ra,rb,rc]).getD ((orderF (([rg,ra,rb,rc]).map FR.val)).getD 3 default) default).val]) ([(([rg,ra,rb,rc]).getD ((orderF (([rg,ra,rb,rc]).map FR.val)).getD 1 default) default).val,(([rg,ra,rb,rc]).getD ((orderF (([rg,ra,rb,rc]).map FR.val)).getD 2 default) default).val]))),(34,LS (some 3) (([(([rg,ra,rb,rc]).getD ((orderF (([rg,ra,rb,rc]).map FR.val)).getD 1 default) default).val,(([rg,ra,rb,rc]).getD ((orderF (([rg,ra,rb,rc]).map FR.val)).getD 2 default) default).val]).map (QV n))),(33,FX n (([rg,ra,rb,rc]).getD ((orderF (([rg,ra,rb,rc]).map FR.val)).getD 2 default) default)),(32,PE (some 3) (FX n (([rg,ra,rb,rc]).getD ((orderF (([rg,ra,rb,rc]).map FR.val)).getD 2 default) default))),(31,NT ((orderF (([rg,ra,rb,rc]).map FR.val)).getD 2 default)),(30,PE (none) (NT ((orderF (([rg,ra,rb,rc]).map FR.val)).getD 2 default))),(29,LS (none) ((orderF (([rg,ra,rb,rc]).map FR.val)).map NT)),(28,LS (some 3) (([rg,ra,rb,rc]).map (FX n))),(27,FX n (([rg,ra,rb,rc]).getD ((orderF (([rg,ra,rb,rc]).map FR.val)).getD 1 default) default)),(26,PE (some 3) (FX n (([rg,ra,rb,rc]).getD ((orderF (([rg,ra,rb,rc]).map FR.val)).getD 1 default) default))),(25,NT ((orderF (([rg,ra,rb,rc]).map FR.val)).getD 1 default)),(24,PE (none) (NT ((orderF (([rg,ra,rb,rc]).map FR.val)).getD 1 default))),(23,LS (none) ((orderF (([rg,ra,rb,rc]).map FR.val)).map NT)),(22,LS (some 3) (([rg,ra,rb,rc]).map (FX n))),(21,LS (some 3) (([(([rg,ra,rb,rc]).getD ((orderF (([rg,ra,rb,rc]).map FR.val)).getD 0 default) default).val,(([rg,ra,rb,rc]).getD ((orderF (([rg,ra,rb,rc]).map FR.val)).getD 3 default) default).val]).map (QV n))),(20,FX n (([rg,ra,rb,rc]).getD ((orderF (([rg,ra,rb,rc]).map FR.val)).getD 3 default) default)),(19,PE (some 3) (FX n (([rg,ra,rb,rc]).getD ((orderF (([rg,ra,rb,rc]).map FR.val)).getD 3 default) default))),(18,NT ((orderF (([rg,ra,rb,rc]).map FR.val)).getD 3 default)),(17,PE (none) (NT ((orderF (([rg,ra,rb,rc]).map FR.val)).getD 3 default))),(16,LS (none) ((orderF (([rg,ra,rb,rc]).map FR.val)).map NT)),(15,LS (some 3) (([rg,ra,rb,rc]).map (FX n))),(14,FX n (([rg,ra,rb,rc]).getD ((orderF (([rg,ra,rb,rc]).map FR.val)).getD 0 default) default)),(13,PE (some 3) (FX n (([rg,ra,rb,rc]).getD ((orderF (([rg,ra,rb,rc]).map FR.val)).getD 0 default) default))),(12,NT ((orderF (([rg,ra,rb,rc]).map FR.val)).getD 0 default)),(11,PE (none) (NT ((orderF (([rg,ra,rb,rc]).map FR.val)).getD 0 default))),(10,LS (none) ((orderF (([rg,ra,rb,rc]).map FR.val)).map NT)),(9,LS (some 3) (([rg,ra,rb,rc]).map (FX n))),(4,LS (none) ((orderF (([rg,ra,rb,rc]).map FR.val)).map NT)),(3,LS (some 3) (([rg,ra,rb,rc]).map (FX n)))] [⟨b1,37,some 12,PTS [(some 3,FX n rg),(some 3,FX n ra),(some 3,FX n rb),(some 3,FX n rc)]⟩] a _ _ := S
 refine wpList_nil (hK _ _ ?_);clear hK K
 replace S := S.d28.d27.d26.d25.d24.d23.d22.d21.d20.d19.d18.d17.d16.d15.d14.d13.d12.d11.d10.d9.d8.d7.d6.d5.d4.d3.d2.d1
 exact wp_ret (S.retTmp rfl ((S.e 0 rfl).trans (iv_eq rfl)))
theorem xExcess_ok {n : Nat} {rg ra rb rc : FR} {v1 : Value} {W0 : World} {G0 : Gh} (hok : Gok W0 G0) (h1 : (PTS [(some 3,FX n rg),(some 3,FX n ra),(some 3,FX n rb),(some 3,FX n rc)]).t v1 G0) (hn : 1000 * n + 1000 ≤ BIG) (hn1 : 1 ≤ n) : Calls Try.prog 24 #[v1] W0 (Ret W0 G0 (MT.tup2 (IT (excRes [rg,ra,rb,rc])) (MT.ex (errV 51 (chkF [rg,ra,rb,rc]))))) := by
 refine St.enter (N := 12) (L := [(0,PTS [(some 3,FX n rg),(some 3,FX n ra),(some 3,FX n rb),(some 3,FX n rc)])]) (args := [v1]) Try.func24 rfl rfl rfl hok (enter1 h1) fun a S => ?_
 refine wp_reg fun K hK => ?_
 refine S.boxop (x := .tmp 0) (τ := PTS [(some 3,FX n rg),(some 3,FX n ra),(some 3,FX n rb),(some 3,FX n rc)]) (S.g 0 rfl) (sh (τ := PTS [(some 3,FX n rg),(some 3,FX n ra),(some 3,FX n rb),(some 3,FX n rc)]) (S.g 0 rfl)) rfl rfl rfl rfl rfl fun b1 a w G S => ?_
 refine S.s (τ := NT 0) (OpR.asn S.ok rfl (rfl : _ = nv .i64 0)) rfl fun a w G S => ?_
 refine S.s (τ := MT.ex (Value.nilIface)) (OpR.asn S.ok rfl rfl) rfl fun a w G S => ?_
 refine wpList_nil (hK _ _ ?_);clear hK K
 replace S := S.d3
 refine wp_seq_k fun K hK => ?_
 refine wp_reg fun K hK => ?_
 refine S.s (OpR.ldBox S.ok rfl (S.e 2 rfl) (S.box 0 rfl) tS_37) rfl fun a w G S => ?_
 refine S.s (τ := MT.ex (errV 51 (chkF [rg,ra,rb,rc]))) (OpR.call1 rfl c_17 (xCheck_ok S.ok (S.g 0 rfl) (by omega) (by omega))) rfl fun a w G S => ?_
 refine S.s (OpR.asn S.ok rfl (S.g 0 rfl)) rfl fun a w G S => ?_
 refine wpList_nil (hK _ _ ?_);clear hK K
 replace S := S.d2.d1
 refine wp_reg fun K hK => ?_
 refine S.s (OpR.mv S.ok rfl (S.g 0 rfl)) rfl fun a w G S => ?_
 refine S.s (τ := BT (decide ((chkF [rg,ra,rb,rc]) ≠ 0))) (OpR.isB errV_neq (OpR.errNeqNil S.ok rfl if_26 (S.e 0 rfl) (by first | exact .inl rfl | exact .inr ⟨_,_,rfl⟩ | exact errV_or _) rfl)) rfl fun a w G S => ?_
 refine wpList_nil (hK _ _ ?_);clear hK K
 replace S := S.d1
 refine S.cond 0 rfl (fun hc1 => ?_) (fun hc1 => ?_)
 ·
  have hp2 := of_decide_eq_true hc1
  refine wp_reg fun K hK => ?_
  refine S.s (OpR.mv S.ok rfl (S.g 1 rfl)) rfl fun a w G S => ?_
  replace S := S.d4
  refine S.s (τ := NT 0) (OpR.asn S.ok rfl (rfl : _ = nv .i64 0)) rfl fun a w G S => ?_
  replace S := S.d4
  refine S.s (OpR.asn S.ok rfl (S.g 1 rfl)) rfl fun a w G S => ?_
  refine wpList_nil (hK _ _ ?_);clear hK K
  replace S := S.d2
  exact wp_ret (then_ret (S.retTmp2 rfl ((S.e 1 rfl).trans (iv_eq (by unfold excRes;rw [if_neg ‹_›];rfl))) (S.g 0 rfl)))
 ·
  have hp3 := of_decide_eq_false hc1
  refine wp_skip ?_
  refine hK _ _ ?_;clear hK K
  refine wp_reg fun K hK => ?_
  refine S.s (OpR.ldBox S.ok rfl (S.e 4 rfl) (S.box 0 rfl) tS_37) rfl fun a w G S => ?_
  refine S.s (τ := IT (excF [rg,ra,rb,rc])) (OpR.call1 rfl c_49 (xexcess_ok S.ok (S.g 0 rfl) (by omega) (by omega))) rfl fun a w G S => ?_
  replace S := S.d5
  refine S.s (OpR.asn S.ok rfl (S.g 0 rfl)) rfl fun a w G S => ?_
  replace S := S.d5
  refine S.s (τ := MT.ex (Value.nilIface)) (OpR.asn S.ok rfl rfl) rfl fun a w G S => ?_
  refine wpList_nil (hK _ _ ?_);clear hK K
  replace S := S.d3.d2
  exact wp_ret (S.retTmp2 rfl ((S.e 1 rfl).trans (iv_eq (by unfold excRes;rw [if_pos (by omega)]))) ((S.e 0 rfl).trans (errV_z (by omega))))
theorem xClass_ok {n : Nat} {rg ra rb rc : FR} {v1 : Value} {W0 : World} {G0 : Gh} (hok : Gok W0 G0) (h1 : (PTS [(some 3,FX n rg),(some 3,FX n ra),(some 3,FX n rb),(some 3,FX n rc)]).t v1 G0) (hn : 1000 * n + 1000 ≤ BIG) (hn1 : 1 ≤ n) : Calls Try.prog 19 #[v1] W0 (Ret W0 G0 (MT.tup2 (IT (clsF [rg,ra,rb,rc])) (MT.ex (errV 51 (chkF [rg,ra,rb,rc]))))) := by
 refine St.enter (N := 24) (L := [(0,PTS [(some 3,FX n rg),(some 3,FX n ra),(some 3,FX n rb),(some 3,FX n rc)])]) (args := [v1]) Try.func19 rfl rfl rfl hok (enter1 h1) fun a S => ?_
 refine wp_reg fun K hK => ?_
 refine S.boxop (x := .tmp 0) (τ := PTS [(some 3,FX n rg),(some 3,FX n ra),(some 3,FX n rb),(some 3,FX n rc)]) (S.g 0 rfl) (sh (τ := PTS [(some 3,FX n rg),(some 3,FX n ra),(some 3,FX n rb),(some 3,FX n rc)]) (S.g 0 rfl)) rfl rfl rfl rfl rfl fun b1 a w G S => ?_
 refine S.s (τ := NT 0) (OpR.asn S.ok rfl (rfl : _ = nv .i64 0)) rfl fun a w G S => ?_
 refine S.s (τ := MT.ex (Value.nilIface)) (OpR.asn S.ok rfl rfl) rfl fun a w G S => ?_
 refine wpList_nil (hK _ _ ?_);clear hK K
 replace S := S.d3
 refine wp_seq_k fun K hK => ?_
 refine wp_reg fun K hK => ?_
 refine S.s (OpR.ldBox S.ok rfl (S.e 2 rfl) (S.box 0 rfl) tS_37) rfl fun a w G S => ?_
 refine S.s (τ := MT.ex (errV 51 (chkF [rg,ra,rb,rc]))) (OpR.call1 rfl c_17 (xCheck_ok S.ok (S.g 0 rfl) (by omega) (by omega))) rfl fun a w G S => ?_
 refine S.s (OpR.asn S.ok rfl (S.g 0 rfl)) rfl fun a w G S => ?_
 refine wpList_nil (hK _ _ ?_);clear hK K
 replace S := S.d2.d1
 refine wp_reg fun K hK => ?_
 refine S.s (OpR.mv S.ok rfl (S.g 0 rfl)) rfl fun a w G S => ?_
 refine S.s (τ := BT (decide ((chkF [rg,ra,rb,rc]) ≠ 0))) (OpR.isB errV_neq (OpR.errNeqNil S.ok rfl if_26 (S.e 0 rfl) (by first | exact .inl rfl | exact .inr ⟨_,_,rfl⟩ | exact errV_or _) rfl)) rfl fun a w G S => ?_
 refine wpList_nil (hK _ _ ?_);clear hK K
 replace S := S.d1
 refine S.cond 0 rfl (fun hc1 => ?_) (fun hc1 => ?_)
 ·
  have hp2 := of_decide_eq_true hc1
  refine wp_reg fun K hK => ?_
  refine S.s (OpR.mv S.ok rfl (S.g 1 rfl)) rfl fun a w G S => ?_
  replace S := S.d4
  refine S.s (τ := NT 0) (OpR.asn S.ok rfl (rfl : _ = nv .i64 0)) rfl fun a w G S => ?_
  replace S := S.d4
  refine S.s (OpR.asn S.ok rfl (S.g 1 rfl)) rfl fun a w G S => ?_
  refine wpList_nil (hK _ _ ?_);clear hK K
  replace S := S.d2
  exact wp_ret (then_ret (S.retTmp2 rfl ((S.e 1 rfl).trans (iv_eq (by unfold clsF;rw [if_neg ‹_›];rfl))) (S.g 0 rfl)))
 ·
  have hp3 := of_decide_eq_false hc1
  refine wp_skip ?_
  refine hK _ _ ?_;clear hK K
  refine wp_seq_k fun K hK => ?_
  refine wp_reg fun K hK => ?_
  refine S.s (OpR.ldBox S.ok rfl (S.e 4 rfl) (S.box 0 rfl) tS_37) rfl fun a w G S => ?_
  refine S.s (τ := IT (excF [rg,ra,rb,rc])) (OpR.call1 rfl c_49 (xexcess_ok S.ok (S.g 0 rfl) (by omega) (by omega))) rfl fun a w G S => ?_
  refine wpList_nil (hK _ _ ?_);clear hK K
  replace S := S.d1
  refine wp_block ?_
  refine wp_reg fun K hK => ?_
  refine S.s (OpR.zeql S.ok rfl (S.e 0 rfl) (rfl : _ = nv .i64 1) MT.self) rfl fun a w G S => ?_
  refine S.s (OpR.asn S.ok rfl (S.g 0 rfl)) rfl fun a w G S => ?_
  refine wpList_nil (hK _ _ ?_);clear hK K
  replace S := S.d1
  refine S.cond 0 rfl (fun hc4 => ?_) (fun hc4 => ?_)
  ·
   have hp5 := of_decide_eq_true hc4
   refine wp_reg fun K hK => ?_
   replace S := S.d5
   refine S.s (τ := NT 4) (OpR.asn S.ok rfl (rfl : _ = nv .i64 4)) rfl fun a w G S => ?_
   replace S := S.d5
   refine S.s (τ := MT.ex (Value.nilIface)) (OpR.asn S.ok rfl rfl) rfl fun a w G S => ?_
   refine wpList_nil (hK _ _ ?_);clear hK K
   exact wp_ret (block_ret (then_ret (S.retTmp2 rfl ((S.e 1 rfl).trans (iv_eq (by unfold clsF;rw [if_pos (by omega),if_pos ‹_›];rfl))) ((S.e 0 rfl).trans (errV_z (by omega))))))
  ·
   have hp6 := of_decide_eq_false hc4
   refine wp_reg fun K hK => ?_
   refine S.s (OpR.zeql S.ok rfl (S.e 1 rfl) (rfl : _ = nv .i64 0) MT.self) rfl fun a w G S => ?_
   refine S.s (OpR.asn S.ok rfl (S.g 0 rfl)) rfl fun a w G S => ?_
   refine wpList_nil (hK _ _ ?_);clear hK K
   replace S := S.d1
   refine S.cond 0 rfl (fun hc7 => ?_) (fun hc7 => ?_)
   ·
    have hp8 := of_decide_eq_true hc7
    refine wp_reg fun K hK => ?_
    replace S := S.d6
    refine S.s (τ := NT 5) (OpR.asn S.ok rfl (rfl : _ = nv .i64 5)) rfl fun a w G S => ?_
    replace S := S.d6
    refine S.s (τ := MT.ex (Value.nilIface)) (OpR.asn S.ok rfl rfl) rfl fun a w G S => ?_
    refine wpList_nil (hK _ _ ?_);clear hK K
    exact wp_ret (block_ret (then_ret (S.retTmp2 rfl ((S.e 1 rfl).trans (iv_eq (by unfold clsF;rw [if_pos (by omega),if_neg ‹_›,if_pos (by omega)];rfl))) ((S.e 0 rfl).trans (errV_z (by omega))))))
   ·
    have hp9 := of_decide_eq_false hc7
    refine wp_skip ?_
    refine hK _ _ ?_;clear hK K
    refine wp_reg fun K hK => ?_
    have ho0 := orderF_lt ([rg,ra,rb,rc].map FR.val) 0
    have ho1 := orderF_lt ([rg,ra,rb,rc].map FR.val) 1
    have ho2 := orderF_lt ([rg,ra,rb,rc].map FR.val) 2
    have ho3 := orderF_lt ([rg,ra,rb,rc].map FR.val) 3
    have hol := orderF_len ([rg,ra,rb,rc].map FR.val)
    refine S.s (τ := LS (none) (([1,0,2,3]).map NT)) (OpR.buildS (k := none) (τs := [1,0,2,3].map NT) (us := [Value.int .i64 (1),Value.int .i64 (0),Value.int .i64 (2),Value.int .i64 (3)]) S.ok rfl Try.underlying75 el_3 rfl (by decide) (by decide) (by simp [Act.eval]) rfl (Els.cons (sh (τ := NT 1) (G := fun _ => none) (rfl : _ = nv .i64 1)) (rfl : _ = nv .i64 1) (Els.cons (sh (τ := NT 0) (G := fun _ => none) (rfl : _ = nv .i64 0)) (rfl : _ = nv .i64 0) (Els.cons (sh (τ := NT 2) (G := fun _ => none) (rfl : _ = nv .i64 2)) (rfl : _ = nv .i64 2) (Els.cons (sh (τ := NT 3) (G := fun _ => none) (rfl : _ = nv .i64 3)) (rfl : _ = nv .i64 3) Els.nil))))) rfl fun a w G S => ?_
    refine S.s (OpR.ldBox S.ok rfl (S.e 8 rfl) (S.box 0 rfl) tS_37) rfl fun a w G S => ?_
    refine S.s (τ := LS (some 3) (([rg,ra,rb,rc]).map (FX n))) (OpR.call1 rfl c_43 (xlist_ok S.ok (S.g 0 rfl) (by omega) (by omega))) rfl fun a w G S => ?_
    refine S.s (τ := LS (none) ((orderF (([rg,ra,rb,rc]).map FR.val)).map NT)) (OpR.call1 rfl c_44 (xorder_ok S.ok (LS.convM (T := (FX n)) (U := (QV n)) (f := FR.val) (S.g 0 rfl) (by first | rfl | (simp;done)) fun z_ _ _ _ h => (QV.eq (FX.toQV h) (by first | rfl | omega | (simp only [Nat.zero_add,Nat.add_zero];done) | (simp;done) | (push_cast;omega)))) rfl (by omega))) rfl fun a w G S => ?_
    refine S.s (τ := PE (none) (NT ((orderF (([rg,ra,rb,rc]).map FR.val)).getD 0 default))) (OpR.ixM (T := NT) (xs := orderF (([rg,ra,rb,rc]).map FR.val)) (i := 0) S.ok rfl Try.underlying75 tS_3 (S.g 0 rfl) (rfl : _ = nv .i64 0) rfl (by rw [hol];decide)) rfl fun a w G S => ?_
    refine S.s (OpR.ldE S.ok rfl tS_3 (S.g 0 rfl)) rfl fun a w G S => ?_
    refine S.s (τ := PE (none) (NT (([1,0,2,3]).getD ((orderF (([rg,ra,rb,rc]).map FR.val)).getD 0 default) default))) (OpR.ixM (T := NT) (xs := [1,0,2,3]) (i := (orderF (([rg,ra,rb,rc]).map FR.val)).getD 0 default) S.ok rfl Try.underlying75 tS_3 (S.g 5 rfl) (S.e 0 rfl) rfl (show _ < 4 by omega)) rfl fun a w G S => ?_
    refine S.s (OpR.ldE S.ok rfl tS_3 (S.g 0 rfl)) rfl fun a w G S => ?_
    replace S := S.d14
    refine S.s (OpR.asn S.ok rfl (S.g 0 rfl)) rfl fun a w G S => ?_
    replace S := S.d14
    refine S.s (τ := MT.ex (Value.nilIface)) (OpR.asn S.ok rfl rfl) rfl fun a w G S => ?_
    refine wpList_nil (hK _ _ ?_);clear hK K
    replace S := S.d9.d8.d7.d6.d5.d4.d3.d2
    exact wp_ret (S.retTmp2 rfl ((S.e 1 rfl).trans (iv_eq (by unfold clsF;rw [if_pos (by omega),if_neg ‹_›,if_neg (by omega)]))) ((S.e 0 rfl).trans (errV_z (by omega))))
end Go.Proofs.Ytdeihehaheelmaa
namespace Go.Proofs.Ytdeihehaheelmaa
open Go.RowKit (Below)
abbrev RX (r : FR) : MT := QR r.s r.p r.q
def shortR (r : FR) : Bool := decide (r.p.length ≤ 2) && decide (r.q.length ≤ 2)
def shortF (l : List FR) : Bool := l.all shortR && decide (l.length < 60)
theorem shortR_not {r : FR} (h : 2 < r.p.length ∨ 2 < r.q.length) : shortR r = false := by unfold shortR; rcases h with h | h <;> simp <;> omega
theorem shortR_of {r : FR} (h : ¬ 2 < r.p.length) (h2 : ¬ 2 < r.q.length) : shortR r = true := by unfold shortR; simp; omega
theorem val64 {l : List Nat} (hw : wfl l) (h : l.length ≤ 2) : Go.Proofs.Ytdeihehaheelmaa.val l < 2 ^ 64 := by
  have h1 := val_lt hw
  have h2 : 4294967296 ^ l.length ≤ 4294967296 ^ 2 := Nat.pow_le_pow_right (by decide) h
  have h3 : (4294967296 : Nat) ^ 2 = 2 ^ 64 := by decide
  omega
theorem RX.toFX {r : FR} {v : Value} {G : Gh} (h : (RX r).t v G) (hs : shortR r = true) : (FX 64 r).t v G := by
  unfold shortR at hs; simp at hs
  obtain ⟨x, y, e, hp, hq⟩ := h
  exact ⟨by decide, val64 (SL.wf hp) hs.1, val64 (SL.wf hq) hs.2, x, y, e, hp, hq⟩
theorem RX.f0 {r : FR} {v : Value} {G : Gh} {k : Option Nat} (h : (RX r).t v G) (hs : Shaped k v) : ∃ u, v.cells[0]? = some u ∧ (MT.ex (.bool r.s)).t u G := QR.f0 h hs
theorem RX.f1 {r : FR} {v : Value} {G : Gh} {k : Option Nat} (h : (RX r).t v G) (hs : Shaped k v) : ∃ u, v.cells[1]? = some u ∧ (SL r.p).t u G := QR.f1 h hs
theorem RX.f2 {r : FR} {v : Value} {G : Gh} {k : Option Nat} (h : (RX r).t v G) (hs : Shaped k v) : ∃ u, v.cells[2]? = some u ∧ (SL r.q).t u G := QR.f2 h hs
theorem LS.toFX {l : List FR} {v : Value} {G : Gh} (h : (LS (some 3) (l.map RX)).t v G) (hs : shortF l = true) : (LS (some 3) (l.map (FX 64))).t v G := by
  unfold shortF at hs; simp at hs
  exact LS.convM (T := RX) (U := FX 64) (f := fun r => r) h (by simp) fun x hx v G hv => RX.toFX hv (hs.1 x hx)
theorem shortF_len {l : List FR} (hs : shortF l = true) : l.length < 60 := by unfold shortF at hs; simp at hs; exact hs.2
theorem shortF_one {r : FR} : shortF [r] = shortR r := by unfold shortF; simp
theorem rotF_0 {l : List FR} {k : Int} (h : chkF l ≠ 0) : false = rotF l k := by unfold rotF rotCode; rw [if_neg h, if_neg h]
theorem rotC_0 {l : List FR} {k : Int} (h : chkF l ≠ 0) : chkF l = rotCode l k := by unfold rotCode; rw [if_neg h]
theorem rotC_9 {l : List FR} {k : Int} (h : ¬ chkF l ≠ 0) (hk : ¬ (0 ≤ k ∧ k ≤ 3)) : rotCode l k = ((9 : Nat) : Int) := by unfold rotCode; rw [if_pos (by omega), if_neg hk]; rfl
theorem rotF_9 {l : List FR} {k : Int} (h : ¬ chkF l ≠ 0) (hk : ¬ (0 ≤ k ∧ k ≤ 3)) : false = rotF l k := by unfold rotF; rw [rotC_9 h hk]; rfl
theorem rotC_ok {l : List FR} {k : Int} (h : ¬ chkF l ≠ 0) (hk : 0 ≤ k ∧ k ≤ 3) : rotCode l k = 0 := by unfold rotCode; rw [if_pos (by omega), if_pos hk]
theorem rotF_ok {l : List FR} {k : Int} (h : ¬ chkF l ≠ 0) (hk : 0 ≤ k ∧ k ≤ 3) : rotF l k = rotL l k.toNat := by unfold rotF; rw [rotC_ok h hk, if_pos rfl]
theorem rotF_t {l : List FR} {k : Int} (h : ¬ chkF l ≠ 0) (hk : 0 ≤ k ∧ k ≤ 3) (c : compareF [(l.getD k.toNat default).val, (l.getD ((k.toNat + 3) % 4) default).val] [(l.getD ((k.toNat + 1) % 4) default).val, (l.getD ((k.toNat + 2) % 4) default).val] ≤ 0) :
    decide (compareF [maxQ (l.getD k.toNat default).val (l.getD ((k.toNat + 3) % 4) default).val, minQ (l.getD ((k.toNat + 1) % 4) default).val (l.getD ((k.toNat + 2) % 4) default).val] [minQ (l.getD k.toNat default).val (l.getD ((k.toNat + 3) % 4) default).val, maxQ (l.getD ((k.toNat + 1) % 4) default).val (l.getD ((k.toNat + 2) % 4) default).val] ≥ 0) = rotF l k := by
  rw [rotF_ok h hk]; unfold rotL; rw [decide_eq_true c, Bool.true_and]
theorem rotF_f {l : List FR} {k : Int} (h : ¬ chkF l ≠ 0) (hk : 0 ≤ k ∧ k ≤ 3) (c : ¬ compareF [(l.getD k.toNat default).val, (l.getD ((k.toNat + 3) % 4) default).val] [(l.getD ((k.toNat + 1) % 4) default).val, (l.getD ((k.toNat + 2) % 4) default).val] ≤ 0) : false = rotF l k := by
  rw [rotF_ok h hk]; unfold rotL; rw [decide_eq_false c, Bool.false_and]
theorem goodR_t {r : FR} (h : r.ok = true) : decide (r.val.num.sign ≥ 0) = goodR r := by
  unfold goodR
  rw [h, Bool.true_and]
  congr 1
  rw [← Rat.num_nonneg]
  have := sgn_cases r.val.num
  apply propext; constructor <;> intro h <;> omega
theorem goodR_n {r : FR} (h : r.ok = false) : false = goodR r := (goodR_not1 h).symm
theorem map_of4 (a b c d : Rat) : [FR.of a, FR.of b, FR.of c, FR.of d].map FR.val = [a, b, c, d] := by simp [FR.of_val]
theorem posR_of4 (a : Rat) : posR (FR.of a) = decide (0 < a) := by unfold posR; rw [FR.of_ok, FR.of_val, Bool.true_and]
theorem lk_of4 (a b c d : Rat) (j : Nat) : lk [FR.of a, FR.of b, FR.of c, FR.of d] j = [a, b, c, d].getD ((orderF [a, b, c, d]).getD j default) default := by
  unfold lk; rw [map_of4]
  have h := orderF_lt [a, b, c, d] j
  generalize (orderF [a, b, c, d]).getD j default = i at h
  match i, h with
  | 0, _ => exact FR.of_val a
  | 1, _ => exact FR.of_val b
  | 2, _ => exact FR.of_val c
  | 3, _ => exact FR.of_val d
theorem ex_chk : chkF [FR.of 16, FR.of 1, FR.of 9, FR.of 9] = 0 := by
  unfold chkF; simp only [lk_of4, List.all_cons, List.all_nil, posR_of4]; decide +kernel
theorem ex_cls : clsF [FR.of 16, FR.of 1, FR.of 9, FR.of 9] = 0 := by
  unfold clsF; rw [ex_chk]; unfold excF; simp only [lk_of4, map_of4]; decide +kernel
theorem ex_chk2 : chkF [FR.of 2, FR.of 2, FR.of 2, FR.of 2] = 0 := by
  unfold chkF; simp only [lk_of4, List.all_cons, List.all_nil, posR_of4]; decide +kernel
theorem ex_cls2 : clsF [FR.of 2, FR.of 2, FR.of 2, FR.of 2] = 5 := by
  unfold clsF; rw [ex_chk2]; unfold excF; simp only [lk_of4, map_of4]; decide +kernel
theorem goodR_of4 (a : Rat) : goodR (FR.of a) = decide (0 ≤ a) := by unfold goodR; rw [FR.of_ok, FR.of_val, Bool.true_and]
theorem ex_cmpC : cmpCode [FR.of 2, FR.of 3] [FR.of 10] = 0 := by
  unfold cmpCode; simp only [List.all_cons, List.all_nil, goodR_of4]; decide +kernel
theorem ex_cmp : cmpRes [FR.of 2, FR.of 3] [FR.of 10] = -1 := by
  unfold cmpRes; rw [ex_cmpC]; simp only [List.map_cons, List.map_nil, FR.of_val]; decide +kernel
theorem ex_rotC : rotCode [FR.of 16, FR.of 1, FR.of 9, FR.of 9] 1 = 0 := by unfold rotCode; rw [ex_chk]; rfl
theorem ex_rot : rotF [FR.of 16, FR.of 1, FR.of 9, FR.of 9] 1 = true := by
  unfold rotF; rw [ex_rotC]; unfold rotL
  show (decide (compareF [(FR.of 1).val, (FR.of 16).val] [(FR.of 9).val, (FR.of 9).val] ≤ 0) && decide (compareF [maxQ (FR.of 1).val (FR.of 16).val, minQ (FR.of 9).val (FR.of 9).val] [minQ (FR.of 1).val (FR.of 16).val, maxQ (FR.of 9).val (FR.of 9).val] ≥ 0)) = true
  simp only [FR.of_val]; decide +kernel
end Go.Proofs.Ytdeihehaheelmaa
namespace Go.Proofs.Ytdeihehaheelmaa
set_option maxHeartbeats 1000000
set_option maxRecDepth 100000
open Go.RowKit (Below)
private theorem c_15 : callable Try.prog 15 = true := by kernel_rfl
private theorem c_26 : callable Try.prog 26 = true := by kernel_rfl
private theorem c_27 : callable Try.prog 27 = true := by kernel_rfl
private theorem fo_35_1 : fldOff Try.prog 35 1 = some 1 := by kernel_rfl
private theorem fo_35_2 : fldOff Try.prog 35 2 = some 2 := by kernel_rfl
private theorem tS_33 : tyS Try.prog 33 (none) = true := by kernel_rfl
theorem xRotates_ok {n : Nat} {rg ra rb rc : FR} {k : Int} {v1 v2 : Value} {W0 : World} {G0 : Gh} (hok : Gok W0 G0) (h1 : (PTS [(some 3,FX n rg),(some 3,FX n ra),(some 3,FX n rb),(some 3,FX n rc)]).t v1 G0) (h2 : (IT k).t v2 G0) (hn : 1000 * n + 1000 ≤ BIG) (hn1 : 1 ≤ n) : Calls Try.prog 20 #[v1,v2] W0 (Ret W0 G0 (MT.tup2 (BT (rotF [rg,ra,rb,rc] k)) (MT.ex (errV 51 (rotCode [rg,ra,rb,rc] k))))) := by
 refine St.enter (N := 82) (L := [(1,IT k),(0,PTS [(some 3,FX n rg),(some 3,FX n ra),(some 3,FX n rb),(some 3,FX n rc)])]) (args := [v1,v2]) Try.func20 rfl rfl rfl hok (enter2 h1 h2) fun a S => ?_
 refine wp_reg fun K hK => ?_
 refine S.boxop (x := .tmp 0) (τ := PTS [(some 3,FX n rg),(some 3,FX n ra),(some 3,FX n rb),(some 3,FX n rc)]) (S.g 1 rfl) (sh (τ := PTS [(some 3,FX n rg),(some 3,FX n ra),(some 3,FX n rb),(some 3,FX n rc)]) (S.g 1 rfl)) rfl rfl rfl rfl rfl fun b2 a w G S => ?_
 refine S.s (τ := BT false) (OpR.asn S.ok rfl rfl) rfl fun a w G S => ?_
 refine S.s (τ := MT.ex (Value.nilIface)) (OpR.asn S.ok rfl rfl) rfl fun a w G S => ?_
 refine wpList_nil (hK _ _ ?_);clear hK K
 replace S := S.d4
 refine wp_seq_k fun K hK => ?_
 refine wp_reg fun K hK => ?_
 refine S.s (OpR.ldBox S.ok rfl (S.e 2 rfl) (S.box 0 rfl) tS_37) rfl fun a w G S => ?_
 refine S.s (τ := MT.ex (errV 51 (chkF [rg,ra,rb,rc]))) (OpR.call1 rfl c_17 (xCheck_ok S.ok (S.g 0 rfl) (by omega) (by omega))) rfl fun a w G S => ?_
 refine S.s (OpR.asn S.ok rfl (S.g 0 rfl)) rfl fun a w G S => ?_
 refine wpList_nil (hK _ _ ?_);clear hK K
 replace S := S.d2.d1
 refine wp_reg fun K hK => ?_
 refine S.s (OpR.mv S.ok rfl (S.g 0 rfl)) rfl fun a w G S => ?_
 refine S.s (τ := BT (decide ((chkF [rg,ra,rb,rc]) ≠ 0))) (OpR.isB errV_neq (OpR.errNeqNil S.ok rfl if_26 (S.e 0 rfl) (by first | exact .inl rfl | exact .inr ⟨_,_,rfl⟩ | exact errV_or _) rfl)) rfl fun a w G S => ?_
 refine wpList_nil (hK _ _ ?_);clear hK K
 replace S := S.d1
 refine S.cond 0 rfl (fun hc1 => ?_) (fun hc1 => ?_)
 ·
  have hp2 := of_decide_eq_true hc1
  refine wp_reg fun K hK => ?_
  refine S.s (OpR.mv S.ok rfl (S.g 1 rfl)) rfl fun a w G S => ?_
  replace S := S.d4
  refine S.s (τ := BT false) (OpR.asn S.ok rfl rfl) rfl fun a w G S => ?_
  replace S := S.d4
  refine S.s (OpR.asn S.ok rfl (S.g 1 rfl)) rfl fun a w G S => ?_
  refine wpList_nil (hK _ _ ?_);clear hK K
  replace S := S.d2
  exact wp_ret (then_ret (S.retTmp2 rfl ((S.e 1 rfl).trans (bv_eq (rotF_0 (by omega)))) ((S.e 0 rfl).trans (congrArg (errV 51) (rotC_0 (by omega))))))
 ·
  have hp3 := of_decide_eq_false hc1
  refine wp_skip ?_
  refine hK _ _ ?_;clear hK K
  refine wp_seq_k fun K hK => ?_
  refine wp_reg fun K hK => ?_
  refine S.s (OpR.mv S.ok rfl (S.g 5 rfl)) rfl fun a w G S => ?_
  refine S.s (OpR.ilss S.ok rfl (S.e 0 rfl) (rfl : _ = nv .i64 0) MT.self) rfl fun a w G S => ?_
  refine S.s (OpR.mv S.ok rfl (S.g 0 rfl)) rfl fun a w G S => ?_
  rcases Bool.eq_false_or_eq_true (decide (k < 0)) with hc4 | hc4
  ·
   have hp5 := of_decide_eq_true hc4
   replace S := S.boolIs 0 rfl hc4
   refine S.skipG 0 rfl rfl rfl rfl rfl rfl fun a w G S => ?_
   refine S.skipG 1 rfl rfl rfl rfl rfl rfl fun a w G S => ?_
   refine S.s (τ := BT true) (OpR.pick S.ok rfl (S.e 2 rfl) rfl) rfl fun a w G S => ?_
   refine wpList_nil (hK _ _ ?_);clear hK K
   replace S := S.d6.d5.d4.d3.d2.d1
   refine wp_cond_true (S.e 0 rfl) ?_
   refine wp_reg fun K hK => ?_
   refine S.s (OpR.mkI S.ok rfl ni_51 (rfl : _ = nv .i64 9) MT.self) rfl fun a w G S => ?_
   replace S := S.d5
   refine S.s (τ := BT false) (OpR.asn S.ok rfl rfl) rfl fun a w G S => ?_
   replace S := S.d5
   refine S.s (OpR.asn S.ok rfl (S.g 1 rfl)) rfl fun a w G S => ?_
   refine wpList_nil (hK _ _ ?_);clear hK K
   replace S := S.d2
   exact wp_ret (then_ret (S.retTmp2 rfl ((S.e 1 rfl).trans (bv_eq (by first | exact rotF_9 (by omega) (by omega) | exact rotF_t (by omega) (by omega) ‹_› | exact rotF_f (by omega) (by omega) ‹_›))) ((S.e 0 rfl).trans (by first | exact errV_ne (rotC_9 (by omega) (by omega)) (by decide) | exact errV_z (rotC_ok (by omega) (by omega))))))
  ·
   have hp6 := of_decide_eq_false hc4
   replace S := S.boolIs 0 rfl hc4
   refine S.stepG 0 (OpR.mv S.ok rfl (S.g 9 rfl)) rfl rfl rfl rfl rfl rfl fun a w G S => ?_
   refine S.stepG 1 (OpR.igtr S.ok rfl (S.e 0 rfl) (rfl : _ = nv .i64 3) MT.self) rfl rfl rfl rfl rfl rfl fun a w G S => ?_
   refine S.s (τ := BT (decide (k > 3))) (OpR.pick S.ok rfl (S.e 2 rfl) (S.g 0 rfl)) rfl fun a w G S => ?_
   refine wpList_nil (hK _ _ ?_);clear hK K
   replace S := S.d6.d5.d4.d3.d2.d1
   refine S.cond 0 rfl (fun hc7 => ?_) (fun hc7 => ?_)
   ·
    have hp8 := of_decide_eq_true hc7
    refine wp_reg fun K hK => ?_
    refine S.s (OpR.mkI S.ok rfl ni_51 (rfl : _ = nv .i64 9) MT.self) rfl fun a w G S => ?_
    replace S := S.d5
    refine S.s (τ := BT false) (OpR.asn S.ok rfl rfl) rfl fun a w G S => ?_
    replace S := S.d5
    refine S.s (OpR.asn S.ok rfl (S.g 1 rfl)) rfl fun a w G S => ?_
    refine wpList_nil (hK _ _ ?_);clear hK K
    replace S := S.d2
    exact wp_ret (then_ret (S.retTmp2 rfl ((S.e 1 rfl).trans (bv_eq (by first | exact rotF_9 (by omega) (by omega) | exact rotF_t (by omega) (by omega) ‹_› | exact rotF_f (by omega) (by omega) ‹_›))) ((S.e 0 rfl).trans (by first | exact errV_ne (rotC_9 (by omega) (by omega)) (by decide) | exact errV_z (rotC_ok (by omega) (by omega))))))
   ·
    have hp9 := of_decide_eq_false hc7
    refine wp_skip ?_
    refine hK _ _ ?_;clear hK K
    refine wp_reg fun K hK => ?_
    refine S.s (OpR.ldBox S.ok rfl (S.e 5 rfl) (S.box 0 rfl) tS_37) rfl fun a w G S => ?_
    refine S.s (τ := LS (some 3) (([rg,ra,rb,rc]).map (FX n))) (OpR.call1 rfl c_43 (xlist_ok S.ok (S.g 0 rfl) (by omega) (by omega))) rfl fun a w G S => ?_
    refine S.s (OpR.asn S.ok rfl (S.g 0 rfl)) rfl fun a w G S => ?_
    refine wpList_nil (hK _ _ ?_);clear hK K
    replace S := S.d2.d1
    refine wp_seq_k fun K hK => ?_
    refine S.drawnS [⟨30,.g (LS (some 3) (([rg,ra,rb,rc]).map (FX n))),[]⟩,⟨31,.g (NT k.toNat),[]⟩,⟨32,.g (PE (some 3) (FX n (([rg,ra,rb,rc]).getD k.toNat default))),[0,1]⟩,⟨33,.g (FX n (([rg,ra,rb,rc]).getD k.toNat default)),[2]⟩,⟨34,.g (LS (some 3) (([rg,ra,rb,rc]).map (FX n))),[]⟩,⟨35,.g (NT k.toNat),[]⟩,⟨36,.g (NT (k.toNat + 3)),[5]⟩,⟨37,.g (NT ((k.toNat + 3) % 4)),[6]⟩,⟨38,.g (PE (some 3) (FX n (([rg,ra,rb,rc]).getD ((k.toNat + 3) % 4) default))),[4,7]⟩,⟨39,.g (FX n (([rg,ra,rb,rc]).getD ((k.toNat + 3) % 4) default)),[8]⟩,⟨8,.al mkP 35 (some 3) (MT.ex (.agg #[.bool false,.slice none 0 0,.slice none 0 0])),[]⟩,⟨9,.al mkP 35 (some 3) (MT.ex (.agg #[.bool false,.slice none 0 0,.slice none 0 0])),[]⟩,⟨9998,.st 11 (FX n (([rg,ra,rb,rc]).getD k.toNat default)),[10,3]⟩,⟨9998,.st 12 (FX n (([rg,ra,rb,rc]).getD ((k.toNat + 3) % 4) default)),[11,9]⟩] mixedOrders (by kernel_rfl)
     ⟨⟨rfl,fun a w G S => .of rfl (OpR.mv S.ok rfl (S.g 0 rfl))⟩,
      ⟨rfl,fun a w G S => .of rfl (OpR.mv S.ok rfl ((S.e 7 rfl).trans (iv_eq (by omega))))⟩,
      ⟨rfl,fun a w G S => .of rfl (OpR.ixM (T := (FX n)) (xs := [rg,ra,rb,rc]) (i := k.toNat) S.ok rfl Try.underlying22 tS_35 (S.g 0 rfl) (S.e 1 rfl) rfl (show _ < 4 by omega))⟩,
      ⟨rfl,fun a w G S => .of rfl (OpR.ldE S.ok rfl tS_35 (S.g 0 rfl))⟩,
      ⟨rfl,fun a w G S => .of rfl (OpR.mv S.ok rfl (S.g 0 rfl))⟩,
      ⟨rfl,fun a w G S => .of rfl (OpR.mv S.ok rfl ((S.e 7 rfl).trans (iv_eq (by omega))))⟩,
      ⟨rfl,fun a w G S => .of rfl (OpR.nadd S.ok rfl (S.e 0 rfl) (rfl : _ = nv .i64 3) (wr_i64 (by omega)) MT.self)⟩,
      ⟨rfl,fun a w G S => .of rfl (OpR.nrem S.ok rfl (S.e 0 rfl) (rfl : _ = nv .i64 4) (by omega) MT.self)⟩,
      ⟨rfl,fun a w G S => .of rfl (OpR.ixM (T := (FX n)) (xs := [rg,ra,rb,rc]) (i := (k.toNat + 3) % 4) S.ok rfl Try.underlying22 tS_35 (S.g 0 rfl) (S.e 1 rfl) rfl (show _ < 4 by omega))⟩,
      ⟨rfl,fun a w G S => .of rfl (OpR.ldE S.ok rfl tS_35 (S.g 0 rfl))⟩,
      ⟨rfl,fun _ => rfl,rfl,fun a w G S => OpB.alloc S.ok rfl z_35 zs_35⟩,
      ⟨rfl,fun _ => rfl,rfl,fun a w G S => OpB.alloc S.ok rfl z_35 zs_35⟩,
      ⟨rfl,rfl,rfl,.inl ⟨_,_,_,_,rfl,tS_35,fun a w G S => ⟨(S.g 0 rfl),sh (τ := FX n (([rg,ra,rb,rc]).getD k.toNat default)) (S.g 0 rfl)⟩,by rw [if_neg (by simp only [List.length_cons,List.length_nil];omega)];exact ⟨_,_,_,rfl,rfl,rfl,rfl⟩⟩⟩,
      ⟨rfl,rfl,rfl,.inl ⟨_,_,_,_,rfl,tS_35,fun a w G S => ⟨(S.g 0 rfl),sh (τ := FX n (([rg,ra,rb,rc]).getD ((k.toNat + 3) % 4) default)) (S.g 0 rfl)⟩,by rw [if_neg (by simp only [List.length_cons,List.length_nil];omega)];exact ⟨_,_,_,rfl,rfl,rfl,rfl⟩⟩⟩,trivial⟩ fun β a w G S => ?_
    replace S : St W0 G0 82 [(9,PB (β 11)),(8,PB (β 10)),(39,FX n (([rg,ra,rb,rc]).getD ((k.toNat + 3) % 4) default)),(38,PE (some 3) (FX n (([rg,ra,rb,rc]).getD ((k.toNat + 3) % 4) default))),(37,NT ((k.toNat + 3) % 4)),(36,NT (k.toNat + 3)),(35,NT k.toNat),(34,LS (some 3) (([rg,ra,rb,rc]).map (FX n))),(33,FX n (([rg,ra,rb,rc]).getD k.toNat default)),(32,PE (some 3) (FX n (([rg,ra,rb,rc]).getD k.toNat default))),(31,NT k.toNat),(30,LS (some 3) (([rg,ra,rb,rc]).map (FX n))),(7,LS (some 3) (([rg,ra,rb,rc]).map (FX n))),(26,BT (decide (k > 3))),(19,BT (decide ((chkF [rg,ra,rb,rc]) ≠ 0))),(6,MT.ex (errV 51 (chkF [rg,ra,rb,rc]))),(5,MT.ex (Value.nilIface)),(4,BT false),(2,PB b2),(1,IT k)] [⟨(β 11),35,some 3,FX n (([rg,ra,rb,rc]).getD ((k.toNat + 3) % 4) default)⟩,⟨(β 10),35,some 3,FX n (([rg,ra,rb,rc]).getD k.toNat default)⟩,⟨b2,37,some 12,PTS [(some 3,FX n rg),(some 3,FX n ra),(some 3,FX n rb),(some 3,FX n rc)]⟩] a _ _ := S
    generalize β 10 = b8 at S
    generalize β 11 = b9 at S
    refine wpList_nil (hK _ _ ?_);clear hK K
    replace S := S.d11.d10.d9.d8.d7.d6.d5.d4.d3.d2
    refine wp_seq_k fun K hK => ?_
    refine S.drawnS [⟨40,.g (LS (some 3) (([rg,ra,rb,rc]).map (FX n))),[]⟩,⟨41,.g (NT k.toNat),[]⟩,⟨42,.g (NT (k.toNat + 1)),[1]⟩,⟨43,.g (NT ((k.toNat + 1) % 4)),[2]⟩,⟨44,.g (PE (some 3) (FX n (([rg,ra,rb,rc]).getD ((k.toNat + 1) % 4) default))),[0,3]⟩,⟨45,.g (FX n (([rg,ra,rb,rc]).getD ((k.toNat + 1) % 4) default)),[4]⟩,⟨46,.g (LS (some 3) (([rg,ra,rb,rc]).map (FX n))),[]⟩,⟨47,.g (NT k.toNat),[]⟩,⟨48,.g (NT (k.toNat + 2)),[7]⟩,⟨49,.g (NT ((k.toNat + 2) % 4)),[8]⟩,⟨50,.g (PE (some 3) (FX n (([rg,ra,rb,rc]).getD ((k.toNat + 2) % 4) default))),[6,9]⟩,⟨51,.g (FX n (([rg,ra,rb,rc]).getD ((k.toNat + 2) % 4) default)),[10]⟩,⟨10,.al mkP 35 (some 3) (MT.ex (.agg #[.bool false,.slice none 0 0,.slice none 0 0])),[]⟩,⟨11,.al mkP 35 (some 3) (MT.ex (.agg #[.bool false,.slice none 0 0,.slice none 0 0])),[]⟩,⟨9998,.st 15 (FX n (([rg,ra,rb,rc]).getD ((k.toNat + 1) % 4) default)),[12,5]⟩,⟨9998,.st 16 (FX n (([rg,ra,rb,rc]).getD ((k.toNat + 2) % 4) default)),[13,11]⟩] mixedOrders (by kernel_rfl)
     ⟨⟨rfl,fun a w G S => .of rfl (OpR.mv S.ok rfl (S.g 2 rfl))⟩,
      ⟨rfl,fun a w G S => .of rfl (OpR.mv S.ok rfl ((S.e 9 rfl).trans (iv_eq (by omega))))⟩,
      ⟨rfl,fun a w G S => .of rfl (OpR.nadd S.ok rfl (S.e 0 rfl) (rfl : _ = nv .i64 1) (wr_i64 (by omega)) MT.self)⟩,
      ⟨rfl,fun a w G S => .of rfl (OpR.nrem S.ok rfl (S.e 0 rfl) (rfl : _ = nv .i64 4) (by omega) MT.self)⟩,
      ⟨rfl,fun a w G S => .of rfl (OpR.ixM (T := (FX n)) (xs := [rg,ra,rb,rc]) (i := (k.toNat + 1) % 4) S.ok rfl Try.underlying22 tS_35 (S.g 0 rfl) (S.e 1 rfl) rfl (show _ < 4 by omega))⟩,
      ⟨rfl,fun a w G S => .of rfl (OpR.ldE S.ok rfl tS_35 (S.g 0 rfl))⟩,
      ⟨rfl,fun a w G S => .of rfl (OpR.mv S.ok rfl (S.g 2 rfl))⟩,
      ⟨rfl,fun a w G S => .of rfl (OpR.mv S.ok rfl ((S.e 9 rfl).trans (iv_eq (by omega))))⟩,
      ⟨rfl,fun a w G S => .of rfl (OpR.nadd S.ok rfl (S.e 0 rfl) (rfl : _ = nv .i64 2) (wr_i64 (by omega)) MT.self)⟩,
      ⟨rfl,fun a w G S => .of rfl (OpR.nrem S.ok rfl (S.e 0 rfl) (rfl : _ = nv .i64 4) (by omega) MT.self)⟩,
      ⟨rfl,fun a w G S => .of rfl (OpR.ixM (T := (FX n)) (xs := [rg,ra,rb,rc]) (i := (k.toNat + 2) % 4) S.ok rfl Try.underlying22 tS_35 (S.g 0 rfl) (S.e 1 rfl) rfl (show _ < 4 by omega))⟩,
      ⟨rfl,fun a w G S => .of rfl (OpR.ldE S.ok rfl tS_35 (S.g 0 rfl))⟩,
      ⟨rfl,fun _ => rfl,rfl,fun a w G S => OpB.alloc S.ok rfl z_35 zs_35⟩,
      ⟨rfl,fun _ => rfl,rfl,fun a w G S => OpB.alloc S.ok rfl z_35 zs_35⟩,
      ⟨rfl,rfl,rfl,.inl ⟨_,_,_,_,rfl,tS_35,fun a w G S => ⟨(S.g 0 rfl),sh (τ := FX n (([rg,ra,rb,rc]).getD ((k.toNat + 1) % 4) default)) (S.g 0 rfl)⟩,by rw [if_neg (by simp only [List.length_cons,List.length_nil];omega)];exact ⟨_,_,_,rfl,rfl,rfl,rfl⟩⟩⟩,
      ⟨rfl,rfl,rfl,.inl ⟨_,_,_,_,rfl,tS_35,fun a w G S => ⟨(S.g 0 rfl),sh (τ := FX n (([rg,ra,rb,rc]).getD ((k.toNat + 2) % 4) default)) (S.g 0 rfl)⟩,by rw [if_neg (by simp only [List.length_cons,List.length_nil];omega)];exact ⟨_,_,_,rfl,rfl,rfl,rfl⟩⟩⟩,trivial⟩ fun β a w G S => ?_
    replace S : St W0 G0 82 [(11,PB (β 13)),(10,PB (β 12)),(51,FX n (([rg,ra,rb,rc]).getD ((k.toNat + 2) % 4) default)),(50,PE (some 3) (FX n (([rg,ra,rb,rc]).getD ((k.toNat + 2) % 4) default))),(49,NT ((k.toNat + 2) % 4)),(48,NT (k.toNat + 2)),(47,NT k.toNat),(46,LS (some 3) (([rg,ra,rb,rc]).map (FX n))),(45,FX n (([rg,ra,rb,rc]).getD ((k.toNat + 1) % 4) default)),(44,PE (some 3) (FX n (([rg,ra,rb,rc]).getD ((k.toNat + 1) % 4) default))),(43,NT ((k.toNat + 1) % 4)),(42,NT (k.toNat + 1)),(41,NT k.toNat),(40,LS (some 3) (([rg,ra,rb,rc]).map (FX n))),(9,PB b9),(8,PB b8),(7,LS (some 3) (([rg,ra,rb,rc]).map (FX n))),(26,BT (decide (k > 3))),(19,BT (decide ((chkF [rg,ra,rb,rc]) ≠ 0))),(6,MT.ex (errV 51 (chkF [rg,ra,rb,rc]))),(5,MT.ex (Value.nilIface)),(4,BT false),(2,PB b2),(1,IT k)] [⟨(β 13),35,some 3,FX n (([rg,ra,rb,rc]).getD ((k.toNat + 2) % 4) default)⟩,⟨(β 12),35,some 3,FX n (([rg,ra,rb,rc]).getD ((k.toNat + 1) % 4) default)⟩,⟨b9,35,some 3,FX n (([rg,ra,rb,rc]).getD ((k.toNat + 3) % 4) default)⟩,⟨b8,35,some 3,FX n (([rg,ra,rb,rc]).getD k.toNat default)⟩,⟨b2,37,some 12,PTS [(some 3,FX n rg),(some 3,FX n ra),(some 3,FX n rb),(some 3,FX n rc)]⟩] a _ _ := S
    generalize β 12 = b10 at S
    generalize β 13 = b11 at S
    refine wpList_nil (hK _ _ ?_);clear hK K
    replace S := S.d13.d12.d11.d10.d9.d8.d7.d6.d5.d4.d3.d2
    refine wp_seq_k fun K hK => ?_
    refine S.drawn [⟨52,.g (FX n (([rg,ra,rb,rc]).getD k.toNat default)),[]⟩,⟨53,.g (FX n (([rg,ra,rb,rc]).getD ((k.toNat + 3) % 4) default)),[]⟩,⟨54,.g (QC (max n n) (maxQ ((([rg,ra,rb,rc]).getD k.toNat default).val) ((([rg,ra,rb,rc]).getD ((k.toNat + 3) % 4) default).val))),[0,1]⟩,⟨55,.g (FX n (([rg,ra,rb,rc]).getD k.toNat default)),[]⟩,⟨56,.g (FX n (([rg,ra,rb,rc]).getD ((k.toNat + 3) % 4) default)),[]⟩,⟨57,.g (QC (max n n) (minQ ((([rg,ra,rb,rc]).getD k.toNat default).val) ((([rg,ra,rb,rc]).getD ((k.toNat + 3) % 4) default).val))),[3,4]⟩,⟨12,.al mkP 35 (some 3) (MT.ex (.agg #[.bool false,.slice none 0 0,.slice none 0 0])),[]⟩,⟨13,.al mkP 35 (some 3) (MT.ex (.agg #[.bool false,.slice none 0 0,.slice none 0 0])),[]⟩] mixedOrders (by kernel_rfl)
     ⟨fun a w G S => .of rfl (OpR.ldBox S.ok rfl (S.e 3 rfl) (S.box 3 rfl) tS_35),
      fun a w G S => .of rfl (OpR.ldBox S.ok rfl (S.e 2 rfl) (S.box 2 rfl) tS_35),
      fun a w G S => .of rfl (OpR.call2 rfl c_27 (fMax_ok S.ok (FX.toQV (S.g 0 rfl)) (FX.toQV (S.g 1 rfl)) (by omega))),
      fun a w G S => .of rfl (OpR.ldBox S.ok rfl (S.e 3 rfl) (S.box 3 rfl) tS_35),
      fun a w G S => .of rfl (OpR.ldBox S.ok rfl (S.e 2 rfl) (S.box 2 rfl) tS_35),
      fun a w G S => .of rfl (OpR.call2 rfl c_26 (fMin_ok S.ok (FX.toQV (S.g 0 rfl)) (FX.toQV (S.g 1 rfl)) (by omega))),
      ⟨fun _ => rfl,rfl,fun a w G S => OpB.alloc S.ok rfl z_35 zs_35⟩,
      ⟨fun _ => rfl,rfl,fun a w G S => OpB.alloc S.ok rfl z_35 zs_35⟩,trivial⟩ fun β a w G S => ?_
    replace S : St W0 G0 82 [(13,PB (β 7)),(12,PB (β 6)),(57,QC (max n n) (minQ ((([rg,ra,rb,rc]).getD k.toNat default).val) ((([rg,ra,rb,rc]).getD ((k.toNat + 3) % 4) default).val))),(56,FX n (([rg,ra,rb,rc]).getD ((k.toNat + 3) % 4) default)),(55,FX n (([rg,ra,rb,rc]).getD k.toNat default)),(54,QC (max n n) (maxQ ((([rg,ra,rb,rc]).getD k.toNat default).val) ((([rg,ra,rb,rc]).getD ((k.toNat + 3) % 4) default).val))),(53,FX n (([rg,ra,rb,rc]).getD ((k.toNat + 3) % 4) default)),(52,FX n (([rg,ra,rb,rc]).getD k.toNat default)),(11,PB b11),(10,PB b10),(9,PB b9),(8,PB b8),(7,LS (some 3) (([rg,ra,rb,rc]).map (FX n))),(26,BT (decide (k > 3))),(19,BT (decide ((chkF [rg,ra,rb,rc]) ≠ 0))),(6,MT.ex (errV 51 (chkF [rg,ra,rb,rc]))),(5,MT.ex (Value.nilIface)),(4,BT false),(2,PB b2),(1,IT k)] [⟨(β 7),35,some 3,MT.ex ((.agg #[.bool false,.slice none 0 0,.slice none 0 0] : Value))⟩,⟨(β 6),35,some 3,MT.ex ((.agg #[.bool false,.slice none 0 0,.slice none 0 0] : Value))⟩,⟨b11,35,some 3,FX n (([rg,ra,rb,rc]).getD ((k.toNat + 2) % 4) default)⟩,⟨b10,35,some 3,FX n (([rg,ra,rb,rc]).getD ((k.toNat + 1) % 4) default)⟩,⟨b9,35,some 3,FX n (([rg,ra,rb,rc]).getD ((k.toNat + 3) % 4) default)⟩,⟨b8,35,some 3,FX n (([rg,ra,rb,rc]).getD k.toNat default)⟩,⟨b2,37,some 12,PTS [(some 3,FX n rg),(some 3,FX n ra),(some 3,FX n rb),(some 3,FX n rc)]⟩] a _ _ := S
    generalize β 6 = b12 at S
    generalize β 7 = b13 at S
    refine S.store (τ := QC (max n n) (maxQ ((([rg,ra,rb,rc]).getD k.toNat default).val) ((([rg,ra,rb,rc]).getD ((k.toNat + 3) % 4) default).val))) 1 rfl rfl rfl rfl (S.e 1 rfl) tS_35 (S.g 5 rfl) (sh (τ := QC (max n n) (maxQ ((([rg,ra,rb,rc]).getD k.toNat default).val) ((([rg,ra,rb,rc]).getD ((k.toNat + 3) % 4) default).val))) (S.g 5 rfl)) fun w S => ?_
    replace S := S.n1
    refine S.store (τ := QC (max n n) (minQ ((([rg,ra,rb,rc]).getD k.toNat default).val) ((([rg,ra,rb,rc]).getD ((k.toNat + 3) % 4) default).val))) 0 rfl rfl rfl rfl (S.e 0 rfl) tS_35 (S.g 2 rfl) (sh (τ := QC (max n n) (minQ ((([rg,ra,rb,rc]).getD k.toNat default).val) ((([rg,ra,rb,rc]).getD ((k.toNat + 3) % 4) default).val))) (S.g 2 rfl)) fun w S => ?_
    replace S := S.n0
    refine wpList_nil (hK _ _ ?_);clear hK K
    replace S := S.d7.d6.d5.d4.d3.d2
    refine wp_seq_k fun K hK => ?_
    refine S.drawn [⟨58,.g (FX n (([rg,ra,rb,rc]).getD ((k.toNat + 1) % 4) default)),[]⟩,⟨59,.g (FX n (([rg,ra,rb,rc]).getD ((k.toNat + 2) % 4) default)),[]⟩,⟨60,.g (QC (max n n) (maxQ ((([rg,ra,rb,rc]).getD ((k.toNat + 1) % 4) default).val) ((([rg,ra,rb,rc]).getD ((k.toNat + 2) % 4) default).val))),[0,1]⟩,⟨61,.g (FX n (([rg,ra,rb,rc]).getD ((k.toNat + 1) % 4) default)),[]⟩,⟨62,.g (FX n (([rg,ra,rb,rc]).getD ((k.toNat + 2) % 4) default)),[]⟩,⟨63,.g (QC (max n n) (minQ ((([rg,ra,rb,rc]).getD ((k.toNat + 1) % 4) default).val) ((([rg,ra,rb,rc]).getD ((k.toNat + 2) % 4) default).val))),[3,4]⟩,⟨14,.al mkP 35 (some 3) (MT.ex (.agg #[.bool false,.slice none 0 0,.slice none 0 0])),[]⟩,⟨15,.al mkP 35 (some 3) (MT.ex (.agg #[.bool false,.slice none 0 0,.slice none 0 0])),[]⟩] mixedOrders (by kernel_rfl)
     ⟨fun a w G S => .of rfl (OpR.ldBox S.ok rfl (S.e 3 rfl) (S.box 3 rfl) tS_35),
      fun a w G S => .of rfl (OpR.ldBox S.ok rfl (S.e 2 rfl) (S.box 2 rfl) tS_35),
      fun a w G S => .of rfl (OpR.call2 rfl c_27 (fMax_ok S.ok (FX.toQV (S.g 0 rfl)) (FX.toQV (S.g 1 rfl)) (by omega))),
      fun a w G S => .of rfl (OpR.ldBox S.ok rfl (S.e 3 rfl) (S.box 3 rfl) tS_35),
      fun a w G S => .of rfl (OpR.ldBox S.ok rfl (S.e 2 rfl) (S.box 2 rfl) tS_35),
      fun a w G S => .of rfl (OpR.call2 rfl c_26 (fMin_ok S.ok (FX.toQV (S.g 0 rfl)) (FX.toQV (S.g 1 rfl)) (by omega))),
      ⟨fun _ => rfl,rfl,fun a w G S => OpB.alloc S.ok rfl z_35 zs_35⟩,
      ⟨fun _ => rfl,rfl,fun a w G S => OpB.alloc S.ok rfl z_35 zs_35⟩,trivial⟩ fun β a w G S => ?_
    replace S : St W0 G0 82 [(15,PB (β 7)),(14,PB (β 6)),(63,QC (max n n) (minQ ((([rg,ra,rb,rc]).getD ((k.toNat + 1) % 4) default).val) ((([rg,ra,rb,rc]).getD ((k.toNat + 2) % 4) default).val))),(62,FX n (([rg,ra,rb,rc]).getD ((k.toNat + 2) % 4) default)),(61,FX n (([rg,ra,rb,rc]).getD ((k.toNat + 1) % 4) default)),(60,QC (max n n) (maxQ ((([rg,ra,rb,rc]).getD ((k.toNat + 1) % 4) default).val) ((([rg,ra,rb,rc]).getD ((k.toNat + 2) % 4) default).val))),(59,FX n (([rg,ra,rb,rc]).getD ((k.toNat + 2) % 4) default)),(58,FX n (([rg,ra,rb,rc]).getD ((k.toNat + 1) % 4) default)),(13,PB b13),(12,PB b12),(11,PB b11),(10,PB b10),(9,PB b9),(8,PB b8),(7,LS (some 3) (([rg,ra,rb,rc]).map (FX n))),(26,BT (decide (k > 3))),(19,BT (decide ((chkF [rg,ra,rb,rc]) ≠ 0))),(6,MT.ex (errV 51 (chkF [rg,ra,rb,rc]))),(5,MT.ex (Value.nilIface)),(4,BT false),(2,PB b2),(1,IT k)] [⟨(β 7),35,some 3,MT.ex ((.agg #[.bool false,.slice none 0 0,.slice none 0 0] : Value))⟩,⟨(β 6),35,some 3,MT.ex ((.agg #[.bool false,.slice none 0 0,.slice none 0 0] : Value))⟩,⟨b13,35,some 3,QC (max n n) (minQ ((([rg,ra,rb,rc]).getD k.toNat default).val) ((([rg,ra,rb,rc]).getD ((k.toNat + 3) % 4) default).val))⟩,⟨b12,35,some 3,QC (max n n) (maxQ ((([rg,ra,rb,rc]).getD k.toNat default).val) ((([rg,ra,rb,rc]).getD ((k.toNat + 3) % 4) default).val))⟩,⟨b11,35,some 3,FX n (([rg,ra,rb,rc]).getD ((k.toNat + 2) % 4) default)⟩,⟨b10,35,some 3,FX n (([rg,ra,rb,rc]).getD ((k.toNat + 1) % 4) default)⟩,⟨b9,35,some 3,FX n (([rg,ra,rb,rc]).getD ((k.toNat + 3) % 4) default)⟩,⟨b8,35,some 3,FX n (([rg,ra,rb,rc]).getD k.toNat default)⟩,⟨b2,37,some 12,PTS [(some 3,FX n rg),(some 3,FX n ra),(some 3,FX n rb),(some 3,FX n rc)]⟩] a _ _ := S
    generalize β 6 = b14 at S
    generalize β 7 = b15 at S
    refine S.store (τ := QC (max n n) (maxQ ((([rg,ra,rb,rc]).getD ((k.toNat + 1) % 4) default).val) ((([rg,ra,rb,rc]).getD ((k.toNat + 2) % 4) default).val))) 1 rfl rfl rfl rfl (S.e 1 rfl) tS_35 (S.g 5 rfl) (sh (τ := QC (max n n) (maxQ ((([rg,ra,rb,rc]).getD ((k.toNat + 1) % 4) default).val) ((([rg,ra,rb,rc]).getD ((k.toNat + 2) % 4) default).val))) (S.g 5 rfl)) fun w S => ?_
    replace S := S.n1
    refine S.store (τ := QC (max n n) (minQ ((([rg,ra,rb,rc]).getD ((k.toNat + 1) % 4) default).val) ((([rg,ra,rb,rc]).getD ((k.toNat + 2) % 4) default).val))) 0 rfl rfl rfl rfl (S.e 0 rfl) tS_35 (S.g 2 rfl) (sh (τ := QC (max n n) (minQ ((([rg,ra,rb,rc]).getD ((k.toNat + 1) % 4) default).val) ((([rg,ra,rb,rc]).getD ((k.toNat + 2) % 4) default).val))) (S.g 2 rfl)) fun w S => ?_
    replace S := S.n0
    refine wpList_nil (hK _ _ ?_);clear hK K
    replace S := S.d7.d6.d5.d4.d3.d2
    refine wp_reg fun K hK => ?_
    refine S.s (OpR.ldBox S.ok rfl (S.e 7 rfl) (S.box 7 rfl) tS_35) rfl fun a w G S => ?_
    refine S.s (OpR.ldBox S.ok rfl (S.e 7 rfl) (S.box 6 rfl) tS_35) rfl fun a w G S => ?_
    refine S.s (τ := LS (some 3) (([([rg,ra,rb,rc]).getD k.toNat default,([rg,ra,rb,rc]).getD ((k.toNat + 3) % 4) default]).map (FX n))) (OpR.buildS (k := some 3) (τs := [([rg,ra,rb,rc]).getD k.toNat default,([rg,ra,rb,rc]).getD ((k.toNat + 3) % 4) default].map (FX n)) (us := [a.eval (.tmp 64),a.eval (.tmp 65)]) S.ok rfl Try.underlying22 el_35 rfl (by decide) (by decide) (by simp [Act.eval]) rfl (Els.cons (sh (τ := FX n (([rg,ra,rb,rc]).getD k.toNat default)) (S.g 1 rfl)) (S.g 1 rfl) (Els.cons (sh (τ := FX n (([rg,ra,rb,rc]).getD ((k.toNat + 3) % 4) default)) (S.g 0 rfl)) (S.g 0 rfl) Els.nil))) rfl fun a w G S => ?_
    refine S.s (OpR.ldBox S.ok rfl (S.e 8 rfl) (S.box 5 rfl) tS_35) rfl fun a w G S => ?_
    refine S.s (OpR.ldBox S.ok rfl (S.e 8 rfl) (S.box 4 rfl) tS_35) rfl fun a w G S => ?_
    refine S.s (τ := LS (some 3) (([([rg,ra,rb,rc]).getD ((k.toNat + 1) % 4) default,([rg,ra,rb,rc]).getD ((k.toNat + 2) % 4) default]).map (FX n))) (OpR.buildS (k := some 3) (τs := [([rg,ra,rb,rc]).getD ((k.toNat + 1) % 4) default,([rg,ra,rb,rc]).getD ((k.toNat + 2) % 4) default].map (FX n)) (us := [a.eval (.tmp 67),a.eval (.tmp 68)]) S.ok rfl Try.underlying22 el_35 rfl (by decide) (by decide) (by simp [Act.eval]) rfl (Els.cons (sh (τ := FX n (([rg,ra,rb,rc]).getD ((k.toNat + 1) % 4) default)) (S.g 1 rfl)) (S.g 1 rfl) (Els.cons (sh (τ := FX n (([rg,ra,rb,rc]).getD ((k.toNat + 2) % 4) default)) (S.g 0 rfl)) (S.g 0 rfl) Els.nil))) rfl fun a w G S => ?_
    refine S.s (τ := IT (compareF (([([rg,ra,rb,rc]).getD k.toNat default,([rg,ra,rb,rc]).getD ((k.toNat + 3) % 4) default]).map FR.val) (([([rg,ra,rb,rc]).getD ((k.toNat + 1) % 4) default,([rg,ra,rb,rc]).getD ((k.toNat + 2) % 4) default]).map FR.val))) (OpR.call2 rfl c_34 (xcompare_ok S.ok (LS.convM (T := (FX n)) (U := (QV n)) (f := FR.val) (S.g 3 rfl) (by first | rfl | (simp;done)) fun z_ _ _ _ h => (QV.eq (FX.toQV h) (by first | rfl | omega | (simp only [Nat.zero_add,Nat.add_zero];done) | (simp;done) | (push_cast;omega)))) (LS.convM (T := (FX n)) (U := (QV n)) (f := FR.val) (S.g 0 rfl) (by first | rfl | (simp;done)) fun z_ _ _ _ h => (QV.eq (FX.toQV h) (by first | rfl | omega | (simp only [Nat.zero_add,Nat.add_zero];done) | (simp;done) | (push_cast;omega)))) (by omega) (by omega) (by omega))) rfl fun a w G S => ?_
    refine S.s (OpR.ileq S.ok rfl (S.e 0 rfl) (rfl : _ = nv .i64 0) MT.self) rfl fun a w G S => ?_
    refine S.s (OpR.mv S.ok rfl (S.g 0 rfl)) rfl fun a w G S => ?_
    rcases Bool.eq_false_or_eq_true (decide ((compareF (([([rg,ra,rb,rc]).getD k.toNat default,([rg,ra,rb,rc]).getD ((k.toNat + 3) % 4) default]).map FR.val) (([([rg,ra,rb,rc]).getD ((k.toNat + 1) % 4) default,([rg,ra,rb,rc]).getD ((k.toNat + 2) % 4) default]).map FR.val)) ≤ 0)) with hc10 | hc10
    ·
     have hp11 := of_decide_eq_true hc10
     replace S := S.boolIs 0 rfl hc10
     refine S.stepG 0 (OpR.ldBox S.ok rfl (S.e 13 rfl) (S.box 3 rfl) tS_35) rfl rfl rfl rfl rfl rfl fun a w G S => ?_
     refine S.stepG 1 (OpR.ldBox S.ok rfl (S.e 11 rfl) (S.box 0 rfl) tS_35) rfl rfl rfl rfl rfl rfl fun a w G S => ?_
     refine S.stepG (τ := LS (some 3) (([maxQ ((([rg,ra,rb,rc]).getD k.toNat default).val) ((([rg,ra,rb,rc]).getD ((k.toNat + 3) % 4) default).val),minQ ((([rg,ra,rb,rc]).getD ((k.toNat + 1) % 4) default).val) ((([rg,ra,rb,rc]).getD ((k.toNat + 2) % 4) default).val)]).map (QV n))) 2 (OpR.buildS (k := some 3) (τs := [maxQ ((([rg,ra,rb,rc]).getD k.toNat default).val) ((([rg,ra,rb,rc]).getD ((k.toNat + 3) % 4) default).val),minQ ((([rg,ra,rb,rc]).getD ((k.toNat + 1) % 4) default).val) ((([rg,ra,rb,rc]).getD ((k.toNat + 2) % 4) default).val)].map (QV n)) (us := [a.eval (.tmp 73),a.eval (.tmp 74)]) S.ok rfl Try.underlying22 el_35 rfl (by decide) (by decide) (by simp [Act.eval]) rfl (Els.cons (sh (τ := QV n (maxQ ((([rg,ra,rb,rc]).getD k.toNat default).val) ((([rg,ra,rb,rc]).getD ((k.toNat + 3) % 4) default).val))) (QV.up (QC.toQV (S.g 1 rfl)) (by omega))) (QV.up (QC.toQV (S.g 1 rfl)) (by omega)) (Els.cons (sh (τ := QV n (minQ ((([rg,ra,rb,rc]).getD ((k.toNat + 1) % 4) default).val) ((([rg,ra,rb,rc]).getD ((k.toNat + 2) % 4) default).val))) (QV.up (QC.toQV (S.g 0 rfl)) (by omega))) (QV.up (QC.toQV (S.g 0 rfl)) (by omega)) Els.nil))) rfl rfl rfl rfl rfl rfl fun a w G S => ?_
     refine S.stepG 3 (OpR.ldBox S.ok rfl (S.e 15 rfl) (S.box 2 rfl) tS_35) rfl rfl rfl rfl rfl rfl fun a w G S => ?_
     refine S.stepG 4 (OpR.ldBox S.ok rfl (S.e 15 rfl) (S.box 1 rfl) tS_35) rfl rfl rfl rfl rfl rfl fun a w G S => ?_
     refine S.stepG (τ := LS (some 3) (([minQ ((([rg,ra,rb,rc]).getD k.toNat default).val) ((([rg,ra,rb,rc]).getD ((k.toNat + 3) % 4) default).val),maxQ ((([rg,ra,rb,rc]).getD ((k.toNat + 1) % 4) default).val) ((([rg,ra,rb,rc]).getD ((k.toNat + 2) % 4) default).val)]).map (QV n))) 5 (OpR.buildS (k := some 3) (τs := [minQ ((([rg,ra,rb,rc]).getD k.toNat default).val) ((([rg,ra,rb,rc]).getD ((k.toNat + 3) % 4) default).val),maxQ ((([rg,ra,rb,rc]).getD ((k.toNat + 1) % 4) default).val) ((([rg,ra,rb,rc]).getD ((k.toNat + 2) % 4) default).val)].map (QV n)) (us := [a.eval (.tmp 76),a.eval (.tmp 77)]) S.ok rfl Try.underlying22 el_35 rfl (by decide) (by decide) (by simp [Act.eval]) rfl (Els.cons (sh (τ := QV n (minQ ((([rg,ra,rb,rc]).getD k.toNat default).val) ((([rg,ra,rb,rc]).getD ((k.toNat + 3) % 4) default).val))) (QV.up (QC.toQV (S.g 1 rfl)) (by omega))) (QV.up (QC.toQV (S.g 1 rfl)) (by omega)) (Els.cons (sh (τ := QV n (maxQ ((([rg,ra,rb,rc]).getD ((k.toNat + 1) % 4) default).val) ((([rg,ra,rb,rc]).getD ((k.toNat + 2) % 4) default).val))) (QV.up (QC.toQV (S.g 0 rfl)) (by omega))) (QV.up (QC.toQV (S.g 0 rfl)) (by omega)) Els.nil))) rfl rfl rfl rfl rfl rfl fun a w G S => ?_
     refine S.stepG (τ := IT (compareF ([maxQ ((([rg,ra,rb,rc]).getD k.toNat default).val) ((([rg,ra,rb,rc]).getD ((k.toNat + 3) % 4) default).val),minQ ((([rg,ra,rb,rc]).getD ((k.toNat + 1) % 4) default).val) ((([rg,ra,rb,rc]).getD ((k.toNat + 2) % 4) default).val)]) ([minQ ((([rg,ra,rb,rc]).getD k.toNat default).val) ((([rg,ra,rb,rc]).getD ((k.toNat + 3) % 4) default).val),maxQ ((([rg,ra,rb,rc]).getD ((k.toNat + 1) % 4) default).val) ((([rg,ra,rb,rc]).getD ((k.toNat + 2) % 4) default).val)]))) 6 (OpR.call2 rfl c_34 (xcompare_ok S.ok (LS.eqM (S.g 3 rfl) (by first | rfl | omega | (simp only [Nat.zero_add,Nat.add_zero];done) | (simp;done) | (push_cast;omega))) (LS.eqM (S.g 0 rfl) (by first | rfl | omega | (simp only [Nat.zero_add,Nat.add_zero];done) | (simp;done) | (push_cast;omega))) (by omega) (by omega) (by omega))) rfl rfl rfl rfl rfl rfl fun a w G S => ?_
     refine S.stepG 7 (OpR.igeq S.ok rfl (S.e 0 rfl) (rfl : _ = nv .i64 0) MT.self) rfl rfl rfl rfl rfl rfl fun a w G S => ?_
     refine S.s (τ := BT (decide ((compareF ([maxQ ((([rg,ra,rb,rc]).getD k.toNat default).val) ((([rg,ra,rb,rc]).getD ((k.toNat + 3) % 4) default).val),minQ ((([rg,ra,rb,rc]).getD ((k.toNat + 1) % 4) default).val) ((([rg,ra,rb,rc]).getD ((k.toNat + 2) % 4) default).val)]) ([minQ ((([rg,ra,rb,rc]).getD k.toNat default).val) ((([rg,ra,rb,rc]).getD ((k.toNat + 3) % 4) default).val),maxQ ((([rg,ra,rb,rc]).getD ((k.toNat + 1) % 4) default).val) ((([rg,ra,rb,rc]).getD ((k.toNat + 2) % 4) default).val)])) ≥ 0))) (OpR.pick S.ok rfl (S.e 8 rfl) (S.g 0 rfl)) rfl fun a w G S => ?_
     replace S := S.d32
     refine S.s (OpR.asn S.ok rfl (S.g 0 rfl)) rfl fun a w G S => ?_
     replace S := S.d32
     refine S.s (τ := MT.ex (Value.nilIface)) (OpR.asn S.ok rfl rfl) rfl fun a w G S => ?_
     refine wpList_nil (hK _ _ ?_);clear hK K
     replace S := S.d20.d19.d18.d17.d16.d15.d14.d13.d12.d11.d10.d9.d8.d7.d6.d5.d4.d3.d2
     exact wp_ret (S.retTmp2 rfl ((S.e 1 rfl).trans (bv_eq (by first | exact rotF_9 (by omega) (by omega) | exact rotF_t (by omega) (by omega) ‹_› | exact rotF_f (by omega) (by omega) ‹_›))) ((S.e 0 rfl).trans (by first | exact errV_ne (rotC_9 (by omega) (by omega)) (by decide) | exact errV_z (rotC_ok (by omega) (by omega)))))
    ·
     have hp12 := of_decide_eq_false hc10
     replace S := S.boolIs 0 rfl hc10
     refine S.skipG 0 rfl rfl rfl rfl rfl rfl fun a w G S => ?_
     refine S.skipG 1 rfl rfl rfl rfl rfl rfl fun a w G S => ?_
     refine S.skipG 2 rfl rfl rfl rfl rfl rfl fun a w G S => ?_
     refine S.skipG 3 rfl rfl rfl rfl rfl rfl fun a w G S => ?_
     refine S.skipG 4 rfl rfl rfl rfl rfl rfl fun a w G S => ?_
     refine S.skipG 5 rfl rfl rfl rfl rfl rfl fun a w G S => ?_
     refine S.skipG 6 rfl rfl rfl rfl rfl rfl fun a w G S => ?_
     refine S.skipG 7 rfl rfl rfl rfl rfl rfl fun a w G S => ?_
     refine S.s (τ := BT false) (OpR.pick S.ok rfl (S.e 8 rfl) rfl) rfl fun a w G S => ?_
     replace S := S.d32
     refine S.s (OpR.asn S.ok rfl (S.g 0 rfl)) rfl fun a w G S => ?_
     replace S := S.d32
     refine S.s (τ := MT.ex (Value.nilIface)) (OpR.asn S.ok rfl rfl) rfl fun a w G S => ?_
     refine wpList_nil (hK _ _ ?_);clear hK K
     replace S := S.d20.d19.d18.d17.d16.d15.d14.d13.d12.d11.d10.d9.d8.d7.d6.d5.d4.d3.d2
     exact wp_ret (S.retTmp2 rfl ((S.e 1 rfl).trans (bv_eq (by first | exact rotF_9 (by omega) (by omega) | exact rotF_t (by omega) (by omega) ‹_› | exact rotF_f (by omega) (by omega) ‹_›))) ((S.e 0 rfl).trans (by first | exact errV_ne (rotC_9 (by omega) (by omega)) (by decide) | exact errV_z (rotC_ok (by omega) (by omega)))))
theorem rShort_ok {l : List FR} {v1 : Value} {W0 : World} {G0 : Gh} (hok : Gok W0 G0) (h1 : (LS (some 3) ((l).map (RX))).t v1 G0)  : Calls Try.prog 10 #[v1] W0 (Ret W0 G0 (BT (shortF l))) := by
 have hlim := LS.lenM h1
 simp only [LIM] at hlim
 refine St.enter (N := 25) (L := [(0,LS (some 3) ((l).map (RX)))]) (args := [v1]) Try.func10 rfl rfl rfl hok (enter1 h1) fun a S => ?_
 refine wp_reg fun K hK => ?_
 refine S.s (τ := BT false) (OpR.asn S.ok rfl rfl) rfl fun a w G S => ?_
 refine wpList_nil (hK _ _ ?_);clear hK K
 refine wp_seq_k fun K hK => ?_
 refine wp_reg fun K hK => ?_
 refine S.s (OpR.mv S.ok rfl (S.g 1 rfl)) rfl fun a w G S => ?_
 refine S.s (OpR.lenM S.ok rfl Try.underlying22 (S.g 0 rfl) MT.self) rfl fun a w G S => ?_
 refine S.s (τ := NT 0) (OpR.mv S.ok rfl (rfl : _ = nv .i64 0)) rfl fun a w G S => ?_
 refine wpList_nil (hK _ _ ?_);clear hK K
 refine wp_block ?_
 refine wp_loopJ (fun μ a w => ∃ (j : Nat) (G : Gh),μ = l.length - j ∧ (j ≤ l.length) ∧ ((l.take j).all shortR = true) ∧  St W0 G0 25 [(7,NT j),(6,NT l.length),(5,LS (some 3) ((l).map (RX))),(2,BT false),(0,LS (some 3) ((l).map (RX)))] [] a w G) (l.length - 0) ⟨0,_,rfl,(by omega),rfl,(S.keep [0,1,2,3,4]).keepB [] (by decide)⟩ ?_
 clear S
 intro μ a w ⟨j,G,hm,hj,hg,S⟩
 refine wp_reg fun K hK => ?_
 refine S.s (OpR.nlss S.ok rfl (S.e 0 rfl) (S.e 1 rfl) MT.self) rfl fun a w G S => ?_
 refine wpList_nil (hK _ _ ?_);clear hK K
 refine wp_seq_k fun K hK => ?_
 refine S.cond 0 rfl (fun hc1 => ?_) (fun hc1 => ?_)
 ·
  have hp2 := of_decide_eq_true hc1
  refine wp_skip ?_
  refine hK _ _ ?_;clear hK K
  refine wp_seq_k fun K hK => ?_
  refine wp_block ?_
  refine wp_reg fun K hK => ?_
  refine S.s (τ := PE (some 3) (RX (l.getD j default))) (OpR.ixM (T := (RX)) (xs := l) (i := j) S.ok rfl Try.underlying22 tS_35 (S.g 3 rfl) (S.e 1 rfl) rfl (by first | omega | (simp only [List.length_set,List.length_take,List.length_drop,List.length_append,List.length_map,List.length_replicate];omega))) rfl fun a w G S => ?_
  refine S.s (OpR.ldE S.ok rfl tS_35 (S.g 0 rfl)) rfl fun a w G S => ?_
  refine S.alloc rfl rfl rfl z_35 zs_35 rfl rfl fun b4 a w G S => ?_
  refine S.store (τ := RX (l.getD j default)) 0 rfl rfl rfl rfl (S.e 0 rfl) tS_35 (S.g 1 rfl) (sh (τ := RX (l.getD j default)) (S.g 1 rfl)) fun w S => ?_
  replace S := S.n0
  refine wpList_nil (hK _ _ ?_);clear hK K
  replace S := S.d2.d1
  refine wp_reg fun K hK => ?_
  refine S.s (τ := MT.ex (Value.pointer (some ⟨b4,1,none⟩))) (OpR.fldA S.ok rfl (S.e 0 rfl) fo_35_1 rfl) rfl fun a w G S => ?_
  refine S.s (OpR.ldCell S.ok rfl (S.e 0 rfl) (S.box 0 rfl) tS_33 fun _ h hs => RX.f1 h hs) rfl fun a w G S => ?_
  refine S.s (OpR.lenL S.ok rfl Try.underlying33 (S.g 0 rfl) MT.self) rfl fun a w G S => ?_
  refine S.s (OpR.ngtr S.ok rfl (S.e 0 rfl) (rfl : _ = nv .i64 2) MT.self) rfl fun a w G S => ?_
  refine S.s (OpR.mv S.ok rfl (S.g 0 rfl)) rfl fun a w G S => ?_
  rcases Bool.eq_false_or_eq_true (decide (2 < (((l.getD j default).p).length))) with hc3 | hc3
  ·
   have hp4 := of_decide_eq_true hc3
   replace S := S.boolIs 0 rfl hc3
   refine S.skipG 0 rfl rfl rfl rfl rfl rfl fun a w G S => ?_
   refine S.skipG 1 rfl rfl rfl rfl rfl rfl fun a w G S => ?_
   refine S.skipG 2 rfl rfl rfl rfl rfl rfl fun a w G S => ?_
   refine S.skipG 3 rfl rfl rfl rfl rfl rfl fun a w G S => ?_
   refine S.s (τ := BT true) (OpR.pick S.ok rfl (S.e 4 rfl) rfl) rfl fun a w G S => ?_
   refine wpList_nil (hK _ _ ?_);clear hK K
   replace S := S.d10.d9.d8.d7.d6.d5.d4.d3.d2.d1
   refine wp_cond_true (S.e 0 rfl) ?_
   refine wp_reg fun K hK => ?_
   replace S := S.d6
   refine S.s (τ := BT false) (OpR.asn S.ok rfl rfl) rfl fun a w G S => ?_
   refine wpList_nil (hK _ _ ?_);clear hK K
   exact wp_ret (block_ret (then_ret (then_ret (block_ret (then_ret (S.retTmp rfl ((S.e 0 rfl).trans (bv_eq (by first | (unfold shortF;rw [all_not (show j < l.length by omega) (shortR_not (by omega))];rfl) | (unfold shortF;rw [all_end (show ¬ j < l.length by omega) hg,Bool.true_and]))))))))))
  ·
   have hp5 := of_decide_eq_false hc3
   replace S := S.boolIs 0 rfl hc3
   refine S.stepG (τ := MT.ex (Value.pointer (some ⟨b4,2,none⟩))) 0 (OpR.fldA S.ok rfl (S.e 6 rfl) fo_35_2 rfl) rfl rfl rfl rfl rfl rfl fun a w G S => ?_
   refine S.stepG 1 (OpR.ldCell S.ok rfl (S.e 0 rfl) (S.box 0 rfl) tS_33 fun _ h hs => RX.f2 h hs) rfl rfl rfl rfl rfl rfl fun a w G S => ?_
   refine S.stepG 2 (OpR.lenL S.ok rfl Try.underlying33 (S.g 0 rfl) MT.self) rfl rfl rfl rfl rfl rfl fun a w G S => ?_
   refine S.stepG 3 (OpR.ngtr S.ok rfl (S.e 0 rfl) (rfl : _ = nv .i64 2) MT.self) rfl rfl rfl rfl rfl rfl fun a w G S => ?_
   refine S.s (τ := BT (decide (2 < (((l.getD j default).q).length)))) (OpR.pick S.ok rfl (S.e 4 rfl) (S.g 0 rfl)) rfl fun a w G S => ?_
   refine wpList_nil (hK _ _ ?_);clear hK K
   replace S := S.d10.d9.d8.d7.d6.d5.d4.d3.d2.d1
   refine S.cond 0 rfl (fun hc6 => ?_) (fun hc6 => ?_)
   ·
    have hp7 := of_decide_eq_true hc6
    refine wp_reg fun K hK => ?_
    replace S := S.d6
    refine S.s (τ := BT false) (OpR.asn S.ok rfl rfl) rfl fun a w G S => ?_
    refine wpList_nil (hK _ _ ?_);clear hK K
    exact wp_ret (block_ret (then_ret (then_ret (block_ret (then_ret (S.retTmp rfl ((S.e 0 rfl).trans (bv_eq (by first | (unfold shortF;rw [all_not (show j < l.length by omega) (shortR_not (by omega))];rfl) | (unfold shortF;rw [all_end (show ¬ j < l.length by omega) hg,Bool.true_and]))))))))))
   ·
    have hp8 := of_decide_eq_false hc6
    refine wp_skip ?_
    refine hK _ _ ?_;clear hK K
    refine wp_region_lit ?_
    refine S.s (OpR.nadd S.ok rfl (S.e 3 rfl) (rfl : _ = nv .i64 1) (wr_i64 (by omega)) MT.self) rfl fun a w G S => ?_
    replace S := S.d4
    refine S.s (OpR.mv S.ok rfl (S.g 0 rfl)) rfl fun a w G S => ?_
    refine wpList_nil ?_
    replace S := S.d1
    exact ⟨l.length - (j + 1),(by omega),j + 1,_,rfl,(by omega),(all_snoc (by omega) hg (shortR_of (by omega) (by omega))),(S.keep [0,4,5,6,7]).keepB [] (by decide)⟩
 ·
  have hp9 := of_decide_eq_false hc1
  refine wp_exit (then_exit (then_exit (exit_same ?_)))
  clear hK K
  refine hK _ _ ?_;clear hK K
  refine wp_reg fun K hK => ?_
  refine S.s (OpR.mv S.ok rfl (S.g 5 rfl)) rfl fun a w G S => ?_
  refine S.s (OpR.lenM S.ok rfl Try.underlying22 (S.g 0 rfl) MT.self) rfl fun a w G S => ?_
  refine S.s (OpR.nlss S.ok rfl (S.e 0 rfl) (rfl : _ = nv .i64 60) MT.self) rfl fun a w G S => ?_
  replace S := S.d7
  refine S.s (OpR.asn S.ok rfl (S.g 0 rfl)) rfl fun a w G S => ?_
  refine wpList_nil (hK _ _ ?_);clear hK K
  replace S := S.d3.d2.d1
  exact wp_ret (S.retTmp rfl ((S.e 0 rfl).trans (bv_eq (by first | (unfold shortF;rw [all_not (show j < l.length by omega) (shortR_not (by omega))];rfl) | (unfold shortF;rw [all_end (show ¬ j < l.length by omega) hg,Bool.true_and])))))
theorem rGood_ok {n : Nat} {r : FR} {v1 : Value} {W0 : World} {G0 : Gh} (hok : Gok W0 G0) (h1 : (FX n r).t v1 G0) (hn : n ≤ BIG) : Calls Try.prog 21 #[v1] W0 (Ret W0 G0 (BT (goodR r))) := by
 refine St.enter (N := 10) (L := [(0,FX n r)]) (args := [v1]) Try.func21 rfl rfl rfl hok (enter1 h1) fun a S => ?_
 refine wp_reg fun K hK => ?_
 refine S.boxop (x := .tmp 0) (τ := FX n r) (S.g 0 rfl) (sh (τ := FX n r) (S.g 0 rfl)) rfl rfl rfl rfl rfl fun b1 a w G S => ?_
 refine S.s (τ := BT false) (OpR.asn S.ok rfl rfl) rfl fun a w G S => ?_
 refine wpList_nil (hK _ _ ?_);clear hK K
 replace S := S.d2
 refine wp_reg fun K hK => ?_
 refine S.s (OpR.ldBox S.ok rfl (S.e 1 rfl) (S.box 0 rfl) tS_35) rfl fun a w G S => ?_
 refine S.s (τ := BT r.ok) (OpR.call1 rfl c_15 (gValidX_ok S.ok (S.g 0 rfl) (by omega))) rfl fun a w G S => ?_
 refine S.s (OpR.mv S.ok rfl (S.g 0 rfl)) rfl fun a w G S => ?_
 rcases Bool.eq_false_or_eq_true (r.ok) with hc1 | hc1
 ·
  replace S := S.boolIs 0 rfl hc1
  refine S.stepG 0 (OpR.ldBox S.ok rfl (S.e 5 rfl) (S.box 0 rfl) tS_35) rfl rfl rfl rfl rfl rfl fun a w G S => ?_
  refine S.stepG (τ := IT ((r.val).num.sign)) 1 (OpR.call1 rfl c_16 (gSign_ok S.ok (FX.toQV (S.g 0 rfl)) (by omega))) rfl rfl rfl rfl rfl rfl fun a w G S => ?_
  refine S.stepG 2 (OpR.igeq S.ok rfl (S.e 0 rfl) (rfl : _ = nv .i64 0) MT.self) rfl rfl rfl rfl rfl rfl fun a w G S => ?_
  refine S.s (τ := BT (decide (((r.val).num.sign) ≥ 0))) (OpR.pick S.ok rfl (S.e 3 rfl) (S.g 0 rfl)) rfl fun a w G S => ?_
  replace S := S.d8
  refine S.s (OpR.asn S.ok rfl (S.g 0 rfl)) rfl fun a w G S => ?_
  refine wpList_nil (hK _ _ ?_);clear hK K
  replace S := S.d9.d8.d7.d6.d5.d4.d3.d2.d1
  exact wp_ret (S.retTmp rfl ((S.e 0 rfl).trans (bv_eq (by first | exact goodR_t ‹_› | exact goodR_n ‹_›))))
 ·
  replace S := S.boolIs 0 rfl hc1
  refine S.skipG 0 rfl rfl rfl rfl rfl rfl fun a w G S => ?_
  refine S.skipG 1 rfl rfl rfl rfl rfl rfl fun a w G S => ?_
  refine S.skipG 2 rfl rfl rfl rfl rfl rfl fun a w G S => ?_
  refine S.s (τ := BT false) (OpR.pick S.ok rfl (S.e 3 rfl) rfl) rfl fun a w G S => ?_
  replace S := S.d8
  refine S.s (OpR.asn S.ok rfl (S.g 0 rfl)) rfl fun a w G S => ?_
  refine wpList_nil (hK _ _ ?_);clear hK K
  replace S := S.d9.d8.d7.d6.d5.d4.d3.d2.d1
  exact wp_ret (S.retTmp rfl ((S.e 0 rfl).trans (bv_eq (by first | exact goodR_t ‹_› | exact goodR_n ‹_›))))
end Go.Proofs.Ytdeihehaheelmaa
namespace Go.Proofs.Ytdeihehaheelmaa
set_option maxHeartbeats 1000000
set_option maxRecDepth 100000
open Go.RowKit (Below)
private theorem bp_37_0_1_2_3 : ∀ {u0 : Value} {u1 : Value} {u2 : Value} {u3 : Value} (h0 : Shaped (some 3) u0) (h1 : Shaped (some 3) u1) (h2 : Shaped (some 3) u2) (h3 : Shaped (some 3) u3),Try.prog.built 37 [(0,u0),(1,u1),(2,u2),(3,u3)] = some (flat [u0,u1,u2,u3]).toArray := by
 intro u0 u1 u2 u3 h0 h1 h2 h3
 obtain ⟨c0_0,c0_1,c0_2,rfl⟩ := agg3 h0
 obtain ⟨c1_0,c1_1,c1_2,rfl⟩ := agg3 h1
 obtain ⟨c2_0,c2_1,c2_2,rfl⟩ := agg3 h2
 obtain ⟨c3_0,c3_1,c3_2,rfl⟩ := agg3 h3
 kernel_rfl
private theorem c_11 : callable Try.prog 11 = true := by kernel_rfl
private theorem c_19 : callable Try.prog 19 = true := by kernel_rfl
private theorem c_20 : callable Try.prog 20 = true := by kernel_rfl
private theorem c_31 : callable Try.prog 31 = true := by kernel_rfl
private theorem c_32 : callable Try.prog 32 = true := by kernel_rfl
private theorem z_37 : (Try.prog.info? 37).bind (·.zero) = some (.agg #[.bool false,.slice none 0 0,.slice none 0 0,.bool false,.slice none 0 0,.slice none 0 0,.bool false,.slice none 0 0,.slice none 0 0,.bool false,.slice none 0 0,.slice none 0 0]) := by kernel_rfl
private theorem zs_37 : Shaped (some 12) (.agg #[.bool false,.slice none 0 0,.slice none 0 0,.bool false,.slice none 0 0,.slice none 0 0,.bool false,.slice none 0 0,.slice none 0 0,.bool false,.slice none 0 0,.slice none 0 0]) := ⟨_,rfl,rfl,by simp [Value.oneCell']⟩
theorem lExample_ok  {W0 : World} {G0 : Gh} (hok : Gok W0 G0)   : Calls Try.prog 31 #[] W0 (Ret W0 G0 (PTS [(some 3,FX 64 (FR.of 16)),(some 3,FX 64 (FR.of 1)),(some 3,FX 64 (FR.of 9)),(some 3,FX 64 (FR.of 9))])) := by
 refine St.enter (N := 6) (L := []) (args := []) Try.func31 rfl rfl rfl hok (enter0 ) fun a S => ?_
 refine wp_reg fun K hK => ?_
 refine S.alloc rfl rfl rfl z_37 zs_37 rfl rfl fun b0 a w G S => ?_
 refine wpList_nil (hK _ _ ?_);clear hK K
 refine wp_reg fun K hK => ?_
 refine S.s (τ := QC 64 16) (OpR.conv' (OpR.call1 rfl c_32 (gOf_ok S.ok ((rfl : _ = nv .i64 16).trans (iv_eq (by first | rfl | omega | (simp only [Nat.zero_add,Nat.add_zero];done) | (simp;done) | (push_cast;omega)))) (by omega))) fun _ _ h => (QC.eq h (by rfl))) rfl fun a w G S => ?_
 refine S.s (τ := QC 64 1) (OpR.conv' (OpR.call1 rfl c_32 (gOf_ok S.ok ((rfl : _ = nv .i64 1).trans (iv_eq (by first | rfl | omega | (simp only [Nat.zero_add,Nat.add_zero];done) | (simp;done) | (push_cast;omega)))) (by omega))) fun _ _ h => (QC.eq h (by rfl))) rfl fun a w G S => ?_
 refine S.s (τ := QC 64 9) (OpR.conv' (OpR.call1 rfl c_32 (gOf_ok S.ok ((rfl : _ = nv .i64 9).trans (iv_eq (by first | rfl | omega | (simp only [Nat.zero_add,Nat.add_zero];done) | (simp;done) | (push_cast;omega)))) (by omega))) fun _ _ h => (QC.eq h (by rfl))) rfl fun a w G S => ?_
 refine S.s (τ := QC 64 9) (OpR.conv' (OpR.call1 rfl c_32 (gOf_ok S.ok ((rfl : _ = nv .i64 9).trans (iv_eq (by first | rfl | omega | (simp only [Nat.zero_add,Nat.add_zero];done) | (simp;done) | (push_cast;omega)))) (by omega))) fun _ _ h => (QC.eq h (by rfl))) rfl fun a w G S => ?_
 refine S.s (τ := PTS [(some 3,FX 64 (FR.of 16)),(some 3,FX 64 (FR.of 1)),(some 3,FX 64 (FR.of 9)),(some 3,FX 64 (FR.of 9))]) (OpR.bldP (us := [a.eval (.tmp 1),a.eval (.tmp 2),a.eval (.tmp 3),a.eval (.tmp 4)]) S.ok rfl (by simp only [List.map_toArray,List.map_cons,List.map_nil];exact bp_37_0_1_2_3 (u0 := a.eval (.tmp 1)) (u1 := a.eval (.tmp 2)) (u2 := a.eval (.tmp 3)) (u3 := a.eval (.tmp 4)) (sh (τ := QC 64 16) (S.g 3 rfl)) (sh (τ := QC 64 1) (S.g 2 rfl)) (sh (τ := QC 64 9) (S.g 1 rfl)) (sh (τ := QC 64 9) (S.g 0 rfl))) rfl (pts_cons (sh (τ := FX 64 (FR.of 16)) (FX.eq (FX.up (QC.toFX (S.g 3 rfl) (by first | decide | omega)) (by first | decide | omega)) (by first | rfl | omega | (simp only [Nat.zero_add,Nat.add_zero];done) | (simp;done) | (push_cast;omega)))) (FX.eq (FX.up (QC.toFX (S.g 3 rfl) (by first | decide | omega)) (by first | decide | omega)) (by first | rfl | omega | (simp only [Nat.zero_add,Nat.add_zero];done) | (simp;done) | (push_cast;omega))) (pts_cons (sh (τ := FX 64 (FR.of 1)) (FX.eq (FX.up (QC.toFX (S.g 2 rfl) (by first | decide | omega)) (by first | decide | omega)) (by first | rfl | omega | (simp only [Nat.zero_add,Nat.add_zero];done) | (simp;done) | (push_cast;omega)))) (FX.eq (FX.up (QC.toFX (S.g 2 rfl) (by first | decide | omega)) (by first | decide | omega)) (by first | rfl | omega | (simp only [Nat.zero_add,Nat.add_zero];done) | (simp;done) | (push_cast;omega))) (pts_cons (sh (τ := FX 64 (FR.of 9)) (FX.eq (FX.up (QC.toFX (S.g 1 rfl) (by first | decide | omega)) (by first | decide | omega)) (by first | rfl | omega | (simp only [Nat.zero_add,Nat.add_zero];done) | (simp;done) | (push_cast;omega)))) (FX.eq (FX.up (QC.toFX (S.g 1 rfl) (by first | decide | omega)) (by first | decide | omega)) (by first | rfl | omega | (simp only [Nat.zero_add,Nat.add_zero];done) | (simp;done) | (push_cast;omega))) (pts_cons (sh (τ := FX 64 (FR.of 9)) (FX.eq (FX.up (QC.toFX (S.g 0 rfl) (by first | decide | omega)) (by first | decide | omega)) (by first | rfl | omega | (simp only [Nat.zero_add,Nat.add_zero];done) | (simp;done) | (push_cast;omega)))) (FX.eq (FX.up (QC.toFX (S.g 0 rfl) (by first | decide | omega)) (by first | decide | omega)) (by first | rfl | omega | (simp only [Nat.zero_add,Nat.add_zero];done) | (simp;done) | (push_cast;omega))) pts_nil))))) rfl fun a w G S => ?_
 refine S.store (τ := PTS [(some 3,FX 64 (FR.of 16)),(some 3,FX 64 (FR.of 1)),(some 3,FX 64 (FR.of 9)),(some 3,FX 64 (FR.of 9))]) 0 rfl rfl rfl rfl (S.e 5 rfl) tS_37 (S.g 0 rfl) (sh (τ := PTS [(some 3,FX 64 (FR.of 16)),(some 3,FX 64 (FR.of 1)),(some 3,FX 64 (FR.of 9)),(some 3,FX 64 (FR.of 9))]) (S.g 0 rfl)) fun w S => ?_
 replace S := S.n0
 refine wpList_nil (hK _ _ ?_);clear hK K
 replace S := S.d4.d3.d2.d1.d0
 exact wp_ret (S.retCell (i := 0) rfl (S.e 0 rfl) rfl tS_37 (fun _ h => h))
theorem lawake_ok  {W0 : World} {G0 : Gh} (hok : Gok W0 G0)   : Calls Try.prog 9 #[] W0 (Ret W0 G0 (BT true)) := by
 refine St.enter (N := 68) (L := []) (args := []) Try.func9 rfl rfl rfl hok (enter0 ) fun a S => ?_
 refine wp_reg fun K hK => ?_
 refine S.s (τ := BT false) (OpR.asn S.ok rfl rfl) rfl fun a w G S => ?_
 refine wpList_nil (hK _ _ ?_);clear hK K
 refine wp_reg fun K hK => ?_
 refine S.s (τ := PTS [(some 3,FX 64 (FR.of 16)),(some 3,FX 64 (FR.of 1)),(some 3,FX 64 (FR.of 9)),(some 3,FX 64 (FR.of 9))]) (OpR.call0 rfl c_31 (lExample_ok S.ok )) rfl fun a w G S => ?_
 refine S.s (τ := MT.tup2 (IT (clsF [(FR.of 16),(FR.of 1),(FR.of 9),(FR.of 9)])) (MT.ex (errV 51 (chkF [(FR.of 16),(FR.of 1),(FR.of 9),(FR.of 9)])))) (OpR.call1 rfl c_19 (xClass_ok S.ok (S.g 0 rfl) (by decide) (by decide))) rfl fun a w G S => ?_
 refine S.s (OpR.mv S.ok rfl (S.g 0 rfl)) rfl fun a w G S => ?_
 refine S.s (OpR.ext2a S.ok rfl (S.g 0 rfl)) rfl fun a w G S => ?_
 refine S.s (OpR.ext2b S.ok rfl (S.g 1 rfl)) rfl fun a w G S => ?_
 refine S.s (τ := NT 0) (OpR.asn S.ok rfl ((S.e 1 rfl).trans (iv_eq ex_cls))) rfl fun a w G S => ?_
 refine S.s (τ := MT.ex (errV 51 (0))) (OpR.asn S.ok rfl ((S.e 1 rfl).trans (congrArg (errV 51) ex_chk))) rfl fun a w G S => ?_
 refine wpList_nil (hK _ _ ?_);clear hK K
 replace S := S.d6.d5.d4.d3.d2
 refine wp_reg fun K hK => ?_
 refine S.s (τ := QC 64 2) (OpR.conv' (OpR.call1 rfl c_32 (gOf_ok S.ok ((rfl : _ = nv .i64 2).trans (iv_eq (by first | rfl | omega | (simp only [Nat.zero_add,Nat.add_zero];done) | (simp;done) | (push_cast;omega)))) (by omega))) fun _ _ h => (QC.eq h (by rfl))) rfl fun a w G S => ?_
 refine S.alloc rfl rfl rfl z_35 zs_35 rfl rfl fun b3 a w G S => ?_
 refine S.store (τ := QC 64 2) 0 rfl rfl rfl rfl (S.e 0 rfl) tS_35 (S.g 1 rfl) (sh (τ := QC 64 2) (S.g 1 rfl)) fun w S => ?_
 replace S := S.n0
 refine wpList_nil (hK _ _ ?_);clear hK K
 replace S := S.d1
 refine wp_reg fun K hK => ?_
 refine S.s (OpR.ldBox S.ok rfl (S.e 0 rfl) (S.box 0 rfl) tS_35) rfl fun a w G S => ?_
 refine S.s (OpR.ldBox S.ok rfl (S.e 1 rfl) (S.box 0 rfl) tS_35) rfl fun a w G S => ?_
 refine S.s (OpR.ldBox S.ok rfl (S.e 2 rfl) (S.box 0 rfl) tS_35) rfl fun a w G S => ?_
 refine S.s (OpR.ldBox S.ok rfl (S.e 3 rfl) (S.box 0 rfl) tS_35) rfl fun a w G S => ?_
 refine S.s (τ := PTS [(some 3,FX 64 (FR.of 2)),(some 3,FX 64 (FR.of 2)),(some 3,FX 64 (FR.of 2)),(some 3,FX 64 (FR.of 2))]) (OpR.bldP (us := [a.eval (.tmp 17),a.eval (.tmp 18),a.eval (.tmp 19),a.eval (.tmp 20)]) S.ok rfl (by simp only [List.map_toArray,List.map_cons,List.map_nil];exact bp_37_0_1_2_3 (u0 := a.eval (.tmp 17)) (u1 := a.eval (.tmp 18)) (u2 := a.eval (.tmp 19)) (u3 := a.eval (.tmp 20)) (sh (τ := QC 64 2) (S.g 3 rfl)) (sh (τ := QC 64 2) (S.g 2 rfl)) (sh (τ := QC 64 2) (S.g 1 rfl)) (sh (τ := QC 64 2) (S.g 0 rfl))) rfl (pts_cons (sh (τ := FX 64 (FR.of 2)) (FX.eq (FX.up (QC.toFX (S.g 3 rfl) (by first | decide | omega)) (by first | decide | omega)) (by first | rfl | omega | (simp only [Nat.zero_add,Nat.add_zero];done) | (simp;done) | (push_cast;omega)))) (FX.eq (FX.up (QC.toFX (S.g 3 rfl) (by first | decide | omega)) (by first | decide | omega)) (by first | rfl | omega | (simp only [Nat.zero_add,Nat.add_zero];done) | (simp;done) | (push_cast;omega))) (pts_cons (sh (τ := FX 64 (FR.of 2)) (FX.eq (FX.up (QC.toFX (S.g 2 rfl) (by first | decide | omega)) (by first | decide | omega)) (by first | rfl | omega | (simp only [Nat.zero_add,Nat.add_zero];done) | (simp;done) | (push_cast;omega)))) (FX.eq (FX.up (QC.toFX (S.g 2 rfl) (by first | decide | omega)) (by first | decide | omega)) (by first | rfl | omega | (simp only [Nat.zero_add,Nat.add_zero];done) | (simp;done) | (push_cast;omega))) (pts_cons (sh (τ := FX 64 (FR.of 2)) (FX.eq (FX.up (QC.toFX (S.g 1 rfl) (by first | decide | omega)) (by first | decide | omega)) (by first | rfl | omega | (simp only [Nat.zero_add,Nat.add_zero];done) | (simp;done) | (push_cast;omega)))) (FX.eq (FX.up (QC.toFX (S.g 1 rfl) (by first | decide | omega)) (by first | decide | omega)) (by first | rfl | omega | (simp only [Nat.zero_add,Nat.add_zero];done) | (simp;done) | (push_cast;omega))) (pts_cons (sh (τ := FX 64 (FR.of 2)) (FX.eq (FX.up (QC.toFX (S.g 0 rfl) (by first | decide | omega)) (by first | decide | omega)) (by first | rfl | omega | (simp only [Nat.zero_add,Nat.add_zero];done) | (simp;done) | (push_cast;omega)))) (FX.eq (FX.up (QC.toFX (S.g 0 rfl) (by first | decide | omega)) (by first | decide | omega)) (by first | rfl | omega | (simp only [Nat.zero_add,Nat.add_zero];done) | (simp;done) | (push_cast;omega))) pts_nil))))) rfl fun a w G S => ?_
 refine S.s (τ := MT.tup2 (IT (clsF [(FR.of 2),(FR.of 2),(FR.of 2),(FR.of 2)])) (MT.ex (errV 51 (chkF [(FR.of 2),(FR.of 2),(FR.of 2),(FR.of 2)])))) (OpR.call1 rfl c_19 (xClass_ok S.ok (S.g 0 rfl) (by decide) (by decide))) rfl fun a w G S => ?_
 refine S.s (OpR.mv S.ok rfl (S.g 0 rfl)) rfl fun a w G S => ?_
 refine S.s (OpR.ext2a S.ok rfl (S.g 0 rfl)) rfl fun a w G S => ?_
 refine S.s (OpR.ext2b S.ok rfl (S.g 1 rfl)) rfl fun a w G S => ?_
 refine S.s (τ := NT 5) (OpR.asn S.ok rfl ((S.e 1 rfl).trans (iv_eq ex_cls2))) rfl fun a w G S => ?_
 refine S.s (τ := MT.ex (errV 51 (0))) (OpR.asn S.ok rfl ((S.e 1 rfl).trans (congrArg (errV 51) ex_chk2))) rfl fun a w G S => ?_
 refine wpList_nil (hK _ _ ?_);clear hK K
 replace S := S.d10.d9.d8.d7.d6.d5.d4.d3.d2
 refine wp_seq_k fun K hK => ?_
 refine S.drawn [⟨26,.g (QC 64 2),[]⟩,⟨27,.g (QC 64 3),[]⟩,⟨28,.g (LS (some 3) (([FR.of 2,FR.of 3]).map (FX 64))),[0,1]⟩,⟨29,.g (QC 64 10),[]⟩,⟨30,.g (LS (some 3) (([FR.of 10]).map (FX 64))),[3]⟩,⟨31,.g (MT.tup2 (IT (cmpRes ([FR.of 2,FR.of 3]) ([FR.of 10]))) (MT.ex (errV 51 (cmpCode ([FR.of 2,FR.of 3]) ([FR.of 10]))))),[2,4]⟩,⟨25,.g (MT.tup2 (IT (cmpRes ([FR.of 2,FR.of 3]) ([FR.of 10]))) (MT.ex (errV 51 (cmpCode ([FR.of 2,FR.of 3]) ([FR.of 10]))))),[5]⟩,⟨32,.g (IT (cmpRes ([FR.of 2,FR.of 3]) ([FR.of 10]))),[6]⟩,⟨33,.g (MT.ex (errV 51 (cmpCode ([FR.of 2,FR.of 3]) ([FR.of 10])))),[6]⟩,⟨6,.g (IT (-1)),[7]⟩,⟨7,.g (MT.ex (errV 51 (0))),[8]⟩] mixedOrders (by kernel_rfl)
  ⟨fun a w G S => .of rfl (OpR.ldBox S.ok rfl (S.e 2 rfl) (S.box 0 rfl) tS_35),
   fun a w G S => .of rfl (OpR.conv' (OpR.call1 rfl c_32 (gOf_ok S.ok ((rfl : _ = nv .i64 3).trans (iv_eq (by first | rfl | omega | (simp only [Nat.zero_add,Nat.add_zero];done) | (simp;done) | (push_cast;omega)))) (by omega))) fun _ _ h => (QC.eq h (by rfl))),
   fun a w G S => .of rfl (OpR.buildS (k := some 3) (τs := [FR.of 2,FR.of 3].map (FX 64)) (us := [a.eval (.tmp 26),a.eval (.tmp 27)]) S.ok rfl Try.underlying22 el_35 rfl (by decide) (by decide) (by simp [Act.eval]) rfl (Els.cons (sh (τ := FX 64 (FR.of 2)) (FX.eq (FX.up (QC.toFX (S.g 0 rfl) (by first | decide | omega)) (by first | decide | omega)) (by first | rfl | omega | (simp only [Nat.zero_add,Nat.add_zero];done) | (simp;done) | (push_cast;omega)))) (FX.eq (FX.up (QC.toFX (S.g 0 rfl) (by first | decide | omega)) (by first | decide | omega)) (by first | rfl | omega | (simp only [Nat.zero_add,Nat.add_zero];done) | (simp;done) | (push_cast;omega))) (Els.cons (sh (τ := FX 64 (FR.of 3)) (FX.eq (FX.up (QC.toFX (S.g 1 rfl) (by first | decide | omega)) (by first | decide | omega)) (by first | rfl | omega | (simp only [Nat.zero_add,Nat.add_zero];done) | (simp;done) | (push_cast;omega)))) (FX.eq (FX.up (QC.toFX (S.g 1 rfl) (by first | decide | omega)) (by first | decide | omega)) (by first | rfl | omega | (simp only [Nat.zero_add,Nat.add_zero];done) | (simp;done) | (push_cast;omega))) Els.nil))),
   fun a w G S => .of rfl (OpR.conv' (OpR.call1 rfl c_32 (gOf_ok S.ok ((rfl : _ = nv .i64 10).trans (iv_eq (by first | rfl | omega | (simp only [Nat.zero_add,Nat.add_zero];done) | (simp;done) | (push_cast;omega)))) (by omega))) fun _ _ h => (QC.eq h (by rfl))),
   fun a w G S => .of rfl (OpR.buildS (k := some 3) (τs := [FR.of 10].map (FX 64)) (us := [a.eval (.tmp 29)]) S.ok rfl Try.underlying22 el_35 rfl (by decide) (by decide) (by simp [Act.eval]) rfl (Els.cons (sh (τ := FX 64 (FR.of 10)) (FX.eq (FX.up (QC.toFX (S.g 0 rfl) (by first | decide | omega)) (by first | decide | omega)) (by first | rfl | omega | (simp only [Nat.zero_add,Nat.add_zero];done) | (simp;done) | (push_cast;omega)))) (FX.eq (FX.up (QC.toFX (S.g 0 rfl) (by first | decide | omega)) (by first | decide | omega)) (by first | rfl | omega | (simp only [Nat.zero_add,Nat.add_zero];done) | (simp;done) | (push_cast;omega))) Els.nil)),
   fun a w G S => .of rfl (OpR.call2 rfl c_11 (xCompare_ok S.ok (LS.eqM (S.g 0 rfl) (by first | rfl | omega | (simp only [Nat.zero_add,Nat.add_zero];done) | (simp;done) | (push_cast;omega))) (LS.eqM (S.g 1 rfl) (by first | rfl | omega | (simp only [Nat.zero_add,Nat.add_zero];done) | (simp;done) | (push_cast;omega))) (by decide) (by decide))),
   fun a w G S => .of rfl (OpR.mv S.ok rfl (S.g 0 rfl)),
   fun a w G S => .of rfl (OpR.ext2a S.ok rfl (S.g 0 rfl)),
   fun a w G S => .of rfl (OpR.ext2b S.ok rfl (S.g 0 rfl)),
   fun a w G S => .of rfl (OpR.asn S.ok rfl ((S.e 0 rfl).trans (iv_eq ex_cmp))),
   fun a w G S => .of rfl (OpR.asn S.ok rfl ((S.e 0 rfl).trans (congrArg (errV 51) ex_cmpC))),trivial⟩ fun β a w G S => ?_
 replace S : St W0 G0 68 [(7,MT.ex (errV 51 (0))),(6,IT (-1)),(33,MT.ex (errV 51 (cmpCode ([FR.of 2,FR.of 3]) ([FR.of 10])))),(32,IT (cmpRes ([FR.of 2,FR.of 3]) ([FR.of 10]))),(25,MT.tup2 (IT (cmpRes ([FR.of 2,FR.of 3]) ([FR.of 10]))) (MT.ex (errV 51 (cmpCode ([FR.of 2,FR.of 3]) ([FR.of 10]))))),(31,MT.tup2 (IT (cmpRes ([FR.of 2,FR.of 3]) ([FR.of 10]))) (MT.ex (errV 51 (cmpCode ([FR.of 2,FR.of 3]) ([FR.of 10]))))),(30,LS (some 3) (([FR.of 10]).map (FX 64))),(29,QC 64 10),(28,LS (some 3) (([FR.of 2,FR.of 3]).map (FX 64))),(27,QC 64 3),(26,QC 64 2),(5,MT.ex (errV 51 (0))),(4,NT 5),(3,PB b3),(2,MT.ex (errV 51 (0))),(1,NT 0),(0,BT false)] [⟨b3,35,some 3,QC 64 2⟩] a _ _ := S
 refine wpList_nil (hK _ _ ?_);clear hK K
 replace S := S.d10.d9.d8.d7.d6.d5.d4.d3.d2
 refine wp_reg fun K hK => ?_
 refine S.s (τ := PTS [(some 3,FX 64 (FR.of 16)),(some 3,FX 64 (FR.of 1)),(some 3,FX 64 (FR.of 9)),(some 3,FX 64 (FR.of 9))]) (OpR.call0 rfl c_31 (lExample_ok S.ok )) rfl fun a w G S => ?_
 refine S.s (τ := MT.tup2 (BT (rotF [(FR.of 16),(FR.of 1),(FR.of 9),(FR.of 9)] (((1 : Nat) : Int)))) (MT.ex (errV 51 (rotCode [(FR.of 16),(FR.of 1),(FR.of 9),(FR.of 9)] (((1 : Nat) : Int)))))) (OpR.call2 rfl c_20 (xRotates_ok S.ok (S.g 0 rfl) ((rfl : _ = nv .i64 1).trans (iv_eq (by first | rfl | omega | (simp only [Nat.zero_add,Nat.add_zero];done) | (simp;done) | (push_cast;omega)))) (by decide) (by decide))) rfl fun a w G S => ?_
 refine S.s (OpR.mv S.ok rfl (S.g 0 rfl)) rfl fun a w G S => ?_
 refine S.s (OpR.ext2a S.ok rfl (S.g 0 rfl)) rfl fun a w G S => ?_
 refine S.s (OpR.ext2b S.ok rfl (S.g 1 rfl)) rfl fun a w G S => ?_
 refine S.s (τ := BT true) (OpR.asn S.ok rfl ((S.e 1 rfl).trans (bv_eq ex_rot))) rfl fun a w G S => ?_
 refine S.s (τ := MT.ex (errV 51 (0))) (OpR.asn S.ok rfl ((S.e 1 rfl).trans (congrArg (errV 51) ex_rotC))) rfl fun a w G S => ?_
 refine wpList_nil (hK _ _ ?_);clear hK K
 replace S := S.d6.d5.d4.d3.d2
 refine wp_reg fun K hK => ?_
 refine S.s (OpR.mv S.ok rfl (S.g 7 rfl)) rfl fun a w G S => ?_
 refine S.s (τ := BT true) (OpR.isB (errV_eql.trans (by rfl)) (OpR.errEqNil S.ok rfl if_26 (S.e 0 rfl) (by first | exact .inl rfl | exact .inr ⟨_,_,rfl⟩ | exact errV_or _) rfl)) rfl fun a w G S => ?_
 refine S.s (OpR.mv S.ok rfl (S.g 0 rfl)) rfl fun a w G S => ?_
 refine S.stepG 0 (OpR.mv S.ok rfl (S.g 7 rfl)) rfl rfl rfl rfl rfl rfl fun a w G S => ?_
 refine S.stepG (τ := BT true) 1 (OpR.isB (errV_eql.trans (by rfl)) (OpR.errEqNil S.ok rfl if_26 (S.e 0 rfl) (by first | exact .inl rfl | exact .inr ⟨_,_,rfl⟩ | exact errV_or _) rfl)) rfl rfl rfl rfl rfl rfl fun a w G S => ?_
 refine S.s (τ := BT true) (OpR.pick S.ok rfl (S.e 2 rfl) (S.g 0 rfl)) rfl fun a w G S => ?_
 refine S.s (OpR.mv S.ok rfl (S.g 0 rfl)) rfl fun a w G S => ?_
 refine S.stepG 0 (OpR.mv S.ok rfl (S.g 9 rfl)) rfl rfl rfl rfl rfl rfl fun a w G S => ?_
 refine S.stepG (τ := BT true) 1 (OpR.isB (errV_eql.trans (by rfl)) (OpR.errEqNil S.ok rfl if_26 (S.e 0 rfl) (by first | exact .inl rfl | exact .inr ⟨_,_,rfl⟩ | exact errV_or _) rfl)) rfl rfl rfl rfl rfl rfl fun a w G S => ?_
 refine S.s (τ := BT true) (OpR.pick S.ok rfl (S.e 2 rfl) (S.g 0 rfl)) rfl fun a w G S => ?_
 refine S.s (OpR.mv S.ok rfl (S.g 0 rfl)) rfl fun a w G S => ?_
 refine S.stepG 0 (OpR.mv S.ok rfl (S.g 11 rfl)) rfl rfl rfl rfl rfl rfl fun a w G S => ?_
 refine S.stepG (τ := BT true) 1 (OpR.isB (errV_eql.trans (by rfl)) (OpR.errEqNil S.ok rfl if_26 (S.e 0 rfl) (by first | exact .inl rfl | exact .inr ⟨_,_,rfl⟩ | exact errV_or _) rfl)) rfl rfl rfl rfl rfl rfl fun a w G S => ?_
 refine S.s (τ := BT true) (OpR.pick S.ok rfl (S.e 2 rfl) (S.g 0 rfl)) rfl fun a w G S => ?_
 refine S.s (OpR.mv S.ok rfl (S.g 0 rfl)) rfl fun a w G S => ?_
 refine S.stepG 0 (OpR.mv S.ok rfl (S.g 23 rfl)) rfl rfl rfl rfl rfl rfl fun a w G S => ?_
 refine S.stepG (τ := BT true) 1 (OpR.neql S.ok rfl (S.e 0 rfl) (rfl : _ = nv .i64 0) (bv_eq rfl)) rfl rfl rfl rfl rfl rfl fun a w G S => ?_
 refine S.s (τ := BT true) (OpR.pick S.ok rfl (S.e 2 rfl) (S.g 0 rfl)) rfl fun a w G S => ?_
 refine S.s (OpR.mv S.ok rfl (S.g 0 rfl)) rfl fun a w G S => ?_
 refine S.stepG 0 (OpR.mv S.ok rfl (S.g 24 rfl)) rfl rfl rfl rfl rfl rfl fun a w G S => ?_
 refine S.stepG (τ := BT true) 1 (OpR.neql S.ok rfl (S.e 0 rfl) (rfl : _ = nv .i64 5) (bv_eq rfl)) rfl rfl rfl rfl rfl rfl fun a w G S => ?_
 refine S.s (τ := BT true) (OpR.pick S.ok rfl (S.e 2 rfl) (S.g 0 rfl)) rfl fun a w G S => ?_
 refine S.s (OpR.mv S.ok rfl (S.g 0 rfl)) rfl fun a w G S => ?_
 refine S.stepG 0 (OpR.mv S.ok rfl (S.g 26 rfl)) rfl rfl rfl rfl rfl rfl fun a w G S => ?_
 refine S.stepG (τ := BT true) 1 (OpR.zeql S.ok rfl (S.e 0 rfl) (rfl : _ = Value.int .i64 (-1)) (bv_eq (by decide))) rfl rfl rfl rfl rfl rfl fun a w G S => ?_
 refine S.s (τ := BT true) (OpR.pick S.ok rfl (S.e 2 rfl) (S.g 0 rfl)) rfl fun a w G S => ?_
 refine S.s (OpR.mv S.ok rfl (S.g 0 rfl)) rfl fun a w G S => ?_
 refine S.stepG 0 (OpR.mv S.ok rfl (S.g 28 rfl)) rfl rfl rfl rfl rfl rfl fun a w G S => ?_
 refine S.s (τ := BT true) (OpR.pick S.ok rfl (S.e 1 rfl) (S.g 0 rfl)) rfl fun a w G S => ?_
 replace S := S.d38
 refine S.s (OpR.asn S.ok rfl (S.g 0 rfl)) rfl fun a w G S => ?_
 refine wpList_nil (hK _ _ ?_);clear hK K
 replace S := S.d38.d37.d35.d34.d33.d32.d31.d30.d29.d28.d27.d26.d25.d24.d23.d22.d21.d20.d19.d18.d17.d16.d15.d14.d13.d12.d11.d10.d9.d8.d7.d6.d5.d4.d3.d2.d1
 exact wp_ret (S.retTmp rfl (S.g 0 rfl))
end Go.Proofs.Ytdeihehaheelmaa
