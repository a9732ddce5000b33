import Derived.ChangeArms
import Derived.SizedLaws
import Derived.WideShapes
import Derived.Test.YtpbkcbnghhodiaaGreatQe
set_option linter.unusedVariables false
set_option linter.unusedSimpArgs false
namespace Go.Proofs.YtpbkcbnghhodiaaGreat
set_option maxHeartbeats 1000000
set_option maxRecDepth 100000
open Go.RowKit (Below)
private theorem c_65 : callable Tryz.prog 65 = true:=by kernel_rfl
private theorem c_66 : callable Tryz.prog 66 = true:=by kernel_rfl
private theorem c_75 : callable Tryz.prog 75 = true:=by kernel_rfl
private theorem c_76 : callable Tryz.prog 76 = true:=by kernel_rfl
private theorem c_79 : callable Tryz.prog 79 = true:=by kernel_rfl
private theorem mixedOrders : Tryz.prog.follows .mixedOrders = true:=by kernel_rfl
private theorem tS_112 : tyS Tryz.prog 112 (some 2) = true:=by kernel_rfl
private theorem tS_24 : tyS Tryz.prog 24 (some 3) = true:=by kernel_rfl
private theorem z_112 : (Tryz.prog.info? 112).bind (·.zero) = some (.agg #[.bool false,.slice none 0 0]):=by kernel_rfl
private theorem z_24 : (Tryz.prog.info? 24).bind (·.zero) = some (.agg #[.bool false,.slice none 0 0,.slice none 0 0]):=by kernel_rfl
private theorem zs_112 : Shaped (some 2) (.agg #[.bool false,.slice none 0 0]):=⟨_,rfl,rfl,by simp [Value.oneCell']⟩
private theorem zs_24 : Shaped (some 3) (.agg #[.bool false,.slice none 0 0,.slice none 0 0]):=⟨_,rfl,rfl,by simp [Value.oneCell']⟩
theorem fFrom_ok {n m : Nat} {x y : Int} {v1 v2 : Value} {W0 : World} {G0 : Gh} (hok : Gok W0 G0) (h1 : (W n x).t v1 G0) (h2 : (W m y).t v2 G0) (hy : y ≠ 0) (hna : n ≤ BIG) (hnb : m ≤ BIG) : Calls Tryz.prog 79 #[v1,v2] W0 (Ret W0 G0 (MT.tup2 (QC (max n m) (Rat.divInt x y)) (MT.ex (errV 70 (0))))):=by
 refine St.enter (N:=14) (L:=[(1,W m y),(0,W n x)]) (args:=[v1,v2]) Tryz.func79 rfl rfl rfl hok (enter2 h1 h2) fun a S=>?_
 refine wp_reg fun K hK=>?_
 refine S.boxop (x:=.tmp 0) (τ:=W n x) (S.g 1 rfl) (sh (τ:=W n x) (S.g 1 rfl)) rfl rfl rfl rfl rfl fun b2 a w G S=>?_
 refine S.boxop (x:=.tmp 1) (τ:=W m y) (S.g 1 rfl) (sh (τ:=W m y) (S.g 1 rfl)) rfl rfl rfl rfl rfl fun b3 a w G S=>?_
 refine S.alloc rfl rfl rfl z_24 zs_24 rfl rfl fun b4 a w G S=>?_
 refine S.s (τ:=MT.ex (Value.nilIface)) (OpR.asn S.ok rfl rfl) rfl fun a w G S=>?_
 refine wn hK ?_;clear hK K
 replace S:=S.d5.d4
 refine wp_seq_k fun K hK=>?_
 refine wp_reg fun K hK=>?_
 refine S.s (OpR.ldBox S.ok rfl (S.e 2 rfl) (S.box 1 rfl) tS_112) rfl fun a w G S=>?_
 refine S.s (τ:=IT y.sign) (OpR.call1 rfl c_66 (iSign_ok S.ok (S.g 0 rfl))) rfl fun a w G S=>?_
 refine S.s (τ:=BT false) (OpR.zeql S.ok rfl (S.e 0 rfl) (rfl : _ = nv .i64 0) (bv_eq (decide_eq_false (fun e=>hy (by have:=sgn_cases y;omega))))) rfl fun a w G S=>?_
 refine wn hK ?_;clear hK K
 replace S:=S.d2.d1
 refine wp_cond_false (S.e 0 rfl) ?_
 refine wp_skip ?_
 refine hK _ _ ?_;clear hK K
 refine wp_reg fun K hK=>?_
 refine S.s (OpR.ldBox S.ok rfl (S.e 4 rfl) (S.box 2 rfl) tS_112) rfl fun a w G S=>?_
 refine S.s (OpR.ldBox S.ok rfl (S.e 4 rfl) (S.box 1 rfl) tS_112) rfl fun a w G S=>?_
 refine S.s (τ:=QC (max n m) (Rat.divInt x y)) (OpR.call2 rfl c_76 (fform_ok S.ok (S.g 1 rfl) (S.g 0 rfl) hy (by omega) (by omega))) rfl fun a w G S=>?_
 refine S.store (τ:=QC (max n m) (Rat.divInt x y)) 0 rfl rfl rfl rfl (S.e 5 rfl) tS_24 (S.g 0 rfl) (sh (τ:=QC (max n m) (Rat.divInt x y)) (S.g 0 rfl)) fun w S=>?_
 replace S:=S.n0
 replace S:=S.d4
 refine S.s (τ:=MT.ex (Value.nilIface)) (OpR.asn S.ok rfl rfl) rfl fun a w G S=>?_
 refine wn hK ?_;clear hK K
 replace S:=S.d7.d3.d2.d1
 exact wp_ret (S.retCellTmp (i:=0) rfl (S.e 2 rfl) rfl tS_24 (fun _ h=>h) ((S.e 0 rfl).trans (errV_z rfl)))
theorem fDiv_ok {n m : Nat} {x y : Rat} {v1 v2 : Value} {W0 : World} {G0 : Gh} (hok : Gok W0 G0) (h1 : (QV n x).t v1 G0) (h2 : (QV m y).t v2 G0) (hy : y ≠ 0) (hn : n + m ≤ BIG) : Calls Tryz.prog 45 #[v1,v2] W0 (Ret W0 G0 (MT.tup2 (QC (n + m) (x / y)) (MT.ex (errV 70 (0))))):=by
 refine St.enter (N:=29) (L:=[(1,QV m y),(0,QV n x)]) (args:=[v1,v2]) Tryz.func45 rfl rfl rfl hok (enter2 h1 h2) fun a S=>?_
 refine wp_reg fun K hK=>?_
 refine S.boxop (x:=.tmp 0) (τ:=QV n x) (S.g 1 rfl) (sh (τ:=QV n x) (S.g 1 rfl)) rfl rfl rfl rfl rfl fun b2 a w G S=>?_
 refine S.boxop (x:=.tmp 1) (τ:=QV m y) (S.g 1 rfl) (sh (τ:=QV m y) (S.g 1 rfl)) rfl rfl rfl rfl rfl fun b3 a w G S=>?_
 refine S.alloc rfl rfl rfl z_24 zs_24 rfl rfl fun b4 a w G S=>?_
 refine S.s (τ:=MT.ex (Value.nilIface)) (OpR.asn S.ok rfl rfl) rfl fun a w G S=>?_
 refine wn hK ?_;clear hK K
 replace S:=S.d5.d4
 refine wp_reg fun K hK=>?_
 refine S.s (OpR.ldBox S.ok rfl (S.e 3 rfl) (S.box 2 rfl) tS_24) rfl fun a w G S=>?_
 refine S.s (τ:=MT.tup2 (WC n x.num) (WC n ((x.den : Nat) : Int))) (OpR.call1 rfl c_65 (fParts_ok S.ok (S.g 0 rfl) (by omega))) rfl fun a w G S=>?_
 refine S.m rfl (S.g 0 rfl) rfl fun a w G S=>?_
 refine S.s (OpR.ext2a S.ok rfl (S.g 0 rfl)) rfl fun a w G S=>?_
 refine S.s (OpR.ext2b S.ok rfl (S.g 1 rfl)) rfl fun a w G S=>?_
 refine S.alloc rfl rfl rfl z_112 zs_112 rfl rfl fun b6 a w G S=>?_
 refine S.alloc rfl rfl rfl z_112 zs_112 rfl rfl fun b7 a w G S=>?_
 refine S.store (τ:=WC n x.num) 1 rfl rfl rfl rfl (S.e 1 rfl) tS_112 (S.g 3 rfl) (sh (τ:=WC n x.num) (S.g 3 rfl)) fun w S=>?_
 replace S:=S.n1
 refine S.store (τ:=WC n ((x.den : Nat) : Int)) 0 rfl rfl rfl rfl (S.e 0 rfl) tS_112 (S.g 2 rfl) (sh (τ:=WC n ((x.den : Nat) : Int)) (S.g 2 rfl)) fun w S=>?_
 replace S:=S.n0
 refine wn hK ?_;clear hK K
 replace S:=S.d10.d6.d5.d4.d3.d2
 refine wp_reg fun K hK=>?_
 refine S.s (OpR.ldBox S.ok rfl (S.e 4 rfl) (S.box 3 rfl) tS_24) rfl fun a w G S=>?_
 refine S.s (τ:=MT.tup2 (WC m y.num) (WC m ((y.den : Nat) : Int))) (OpR.call1 rfl c_65 (fParts_ok S.ok (S.g 0 rfl) (by omega))) rfl fun a w G S=>?_
 refine S.m rfl (S.g 0 rfl) rfl fun a w G S=>?_
 refine S.s (OpR.ext2a S.ok rfl (S.g 0 rfl)) rfl fun a w G S=>?_
 refine S.s (OpR.ext2b S.ok rfl (S.g 1 rfl)) rfl fun a w G S=>?_
 refine S.alloc rfl rfl rfl z_112 zs_112 rfl rfl fun b8 a w G S=>?_
 refine S.alloc rfl rfl rfl z_112 zs_112 rfl rfl fun b9 a w G S=>?_
 refine S.store (τ:=WC m y.num) 1 rfl rfl rfl rfl (S.e 1 rfl) tS_112 (S.g 3 rfl) (sh (τ:=WC m y.num) (S.g 3 rfl)) fun w S=>?_
 replace S:=S.n1
 refine S.store (τ:=WC m ((y.den : Nat) : Int)) 0 rfl rfl rfl rfl (S.e 0 rfl) tS_112 (S.g 2 rfl) (sh (τ:=WC m ((y.den : Nat) : Int)) (S.g 2 rfl)) fun w S=>?_
 replace S:=S.n0
 refine wn hK ?_;clear hK K
 replace S:=S.d11.d6.d5.d4.d3.d2
 refine wp_seq_k fun K hK=>?_
 replace S:=S.d4
 refine S.drawnS [⟨20,.g (WC n x.num),[]⟩,⟨21,.g (WC m ((y.den : Nat) : Int)),[]⟩,⟨22,.g (WC (n + m) ((x.num) * (((y.den : Nat) : Int)))),[0,1]⟩,⟨23,.g (WC n ((x.den : Nat) : Int)),[]⟩,⟨24,.g (WC m y.num),[]⟩,⟨25,.g (WC (n + m) ((((x.den : Nat) : Int)) * (y.num))),[3,4]⟩,⟨26,.g (MT.tup2 (QC (max (n + m) (n + m)) (Rat.divInt ((x.num) * (((y.den : Nat) : Int))) ((((x.den : Nat) : Int)) * (y.num)))) (MT.ex (errV 70 (0)))),[2,5]⟩,⟨27,.g (QC (max (n + m) (n + m)) (Rat.divInt ((x.num) * (((y.den : Nat) : Int))) ((((x.den : Nat) : Int)) * (y.num)))),[6]⟩,⟨28,.g (MT.ex (errV 70 (0))),[6]⟩,⟨9998,.st 4 (QC (max (n + m) (n + m)) (Rat.divInt ((x.num) * (((y.den : Nat) : Int))) ((((x.den : Nat) : Int)) * (y.num)))),[7]⟩,⟨5,.g (MT.ex (errV 70 (0))),[8]⟩] mixedOrders (by kernel_rfl)
  ⟨⟨rfl,fun a w G S=>have S:=S.boxes (B':=[⟨b9,112,some 2,WC m ((y.den : Nat) : Int)⟩,⟨b8,112,some 2,WC m y.num⟩,⟨b7,112,some 2,WC n ((x.den : Nat) : Int)⟩,⟨b6,112,some 2,WC n x.num⟩,⟨b4,24,some 3,MT.ex ((.agg #[.bool false,.slice none 0 0,.slice none 0 0] : Value))⟩,⟨b3,24,some 3,QV m y⟩,⟨b2,24,some 3,QV n x⟩]) (by kernel_rfl);OpG.of rfl (OpR.ldBox S.ok rfl (S.e 3 rfl) (S.box 3 rfl) tS_112)⟩,
   ⟨rfl,fun a w G S=>have S:=S.boxes (B':=[⟨b9,112,some 2,WC m ((y.den : Nat) : Int)⟩,⟨b8,112,some 2,WC m y.num⟩,⟨b7,112,some 2,WC n ((x.den : Nat) : Int)⟩,⟨b6,112,some 2,WC n x.num⟩,⟨b4,24,some 3,MT.ex ((.agg #[.bool false,.slice none 0 0,.slice none 0 0] : Value))⟩,⟨b3,24,some 3,QV m y⟩,⟨b2,24,some 3,QV n x⟩]) (by kernel_rfl);OpG.of rfl (OpR.ldBox S.ok rfl (S.e 0 rfl) (S.box 0 rfl) tS_112)⟩,
   ⟨rfl,fun a w G S=>.of rfl (OpR.call2 rfl c_75 (iMul_ok S.ok (WC.toW (S.g 0 rfl)) (WC.toW (S.g 1 rfl)) (by omega)))⟩,
   ⟨rfl,fun a w G S=>have S:=S.boxes (B':=[⟨b9,112,some 2,WC m ((y.den : Nat) : Int)⟩,⟨b8,112,some 2,WC m y.num⟩,⟨b7,112,some 2,WC n ((x.den : Nat) : Int)⟩,⟨b6,112,some 2,WC n x.num⟩,⟨b4,24,some 3,MT.ex ((.agg #[.bool false,.slice none 0 0,.slice none 0 0] : Value))⟩,⟨b3,24,some 3,QV m y⟩,⟨b2,24,some 3,QV n x⟩]) (by kernel_rfl);OpG.of rfl (OpR.ldBox S.ok rfl (S.e 2 rfl) (S.box 2 rfl) tS_112)⟩,
   ⟨rfl,fun a w G S=>have S:=S.boxes (B':=[⟨b9,112,some 2,WC m ((y.den : Nat) : Int)⟩,⟨b8,112,some 2,WC m y.num⟩,⟨b7,112,some 2,WC n ((x.den : Nat) : Int)⟩,⟨b6,112,some 2,WC n x.num⟩,⟨b4,24,some 3,MT.ex ((.agg #[.bool false,.slice none 0 0,.slice none 0 0] : Value))⟩,⟨b3,24,some 3,QV m y⟩,⟨b2,24,some 3,QV n x⟩]) (by kernel_rfl);OpG.of rfl (OpR.ldBox S.ok rfl (S.e 1 rfl) (S.box 1 rfl) tS_112)⟩,
   ⟨rfl,fun a w G S=>.of rfl (OpR.call2 rfl c_75 (iMul_ok S.ok (WC.toW (S.g 0 rfl)) (WC.toW (S.g 1 rfl)) (by omega)))⟩,
   ⟨rfl,fun a w G S=>.of rfl (OpR.call2 rfl c_79 (fFrom_ok S.ok (WC.toW (S.g 0 rfl)) (WC.toW (S.g 1 rfl)) (Int.mul_ne_zero (den_ne x) (fun e=>hy (Rat.num_eq_zero.1 e))) (by omega) (by omega)))⟩,
   ⟨rfl,fun a w G S=>.of rfl (OpR.ext2a S.ok rfl (S.g 0 rfl))⟩,
   ⟨rfl,fun a w G S=>.of rfl (OpR.ext2b S.ok rfl (S.g 0 rfl))⟩,
   ⟨rfl,rfl,rfl,.inl ⟨_,_,_,_,rfl,tS_24,fun a w G S=>⟨(S.g 0 rfl),sh (τ:=QC (max (n + m) (n + m)) (Rat.divInt ((x.num) * (((y.den : Nat) : Int))) ((((x.den : Nat) : Int)) * (y.num)))) (S.g 0 rfl)⟩,by rw [if_pos (by simp only [List.length_cons,List.length_nil];omega)];exact ⟨rfl,fun a w G S=>congrArg some (S.e 5 rfl).symm⟩⟩⟩,
   ⟨rfl,fun a w G S=>.of rfl (OpR.asn S.ok rfl (S.g 0 rfl))⟩,trivial⟩ fun β a w G S=>?_
 replace S : St W0 G0 29 [(5,MT.ex (errV 70 (0))),(9,PB b9),(8,PB b8),(7,PB b7),(6,PB b6),(4,PB b4)] [⟨b9,112,some 2,WC m ((y.den : Nat) : Int)⟩,⟨b8,112,some 2,WC m y.num⟩,⟨b7,112,some 2,WC n ((x.den : Nat) : Int)⟩,⟨b6,112,some 2,WC n x.num⟩,⟨b4,24,some 3,QC (max (n + m) (n + m)) (Rat.divInt ((x.num) * (((y.den : Nat) : Int))) ((((x.den : Nat) : Int)) * (y.num)))⟩,⟨b3,24,some 3,QV m y⟩,⟨b2,24,some 3,QV n x⟩] a _ _:=S.keep [0,10,11,12,13,14]
 refine wn hK ?_;clear hK K
 exact wp_ret (S.retCellTmp (i:=4) rfl (S.e 5 rfl) rfl tS_24 (fun _ h=>(QC.eq (QC.up h (by omega)) (div_frac hy))) (S.g 0 rfl))
end Go.Proofs.YtpbkcbnghhodiaaGreat
set_option linter.unusedVariables false
set_option linter.unusedSimpArgs false
set_option maxHeartbeats 1000000
set_option maxRecDepth 100000
set_option synthInstance.maxSize 100000
set_option synthInstance.maxHeartbeats 400000
namespace Go.Proofs.YtpbkcbnghhodiaaGreat
open Go.RowKit (Below)
class NF (τ : MT) (τ' : outParam MT) : Prop where
  h : ∀ {v : Value} {G : Gh},τ.t v G → τ'.t v G
instance (priority:=500) NF.id {τ : MT} : NF τ τ:=⟨fun h=>h⟩
instance NF.q {n : Nat} {x : Rat} : NF (QC n x) (FX n (FR.of x)):=⟨fun h=>QC.toFX h (one_le_of_lt x.den_nz h.1.2)⟩
class NFL (fs : List (Option Nat × MT)) (gs : outParam (List (Option Nat × MT))) : Prop where
  h : ∀ {us : List Value} {G : Gh},PF fs us G → PF gs us G
instance NFL.nil : NFL [] []:=⟨fun h=>h⟩
instance NFL.cons {k : Option Nat} {τ τ' : MT} {fs gs : List (Option Nat × MT)} [h : NF τ τ'] [l : NFL fs gs] : NFL ((k,τ) :: fs) ((k,τ') :: gs):=⟨fun hp=>by
  obtain ⟨v,us',rfl,hs,ht,hp'⟩:=hp.cons
  exact .mk hs (h.h ht) (l.h hp')⟩
instance NF.pts {fs gs : List (Option Nat × MT)} [l : NFL fs gs] : NF (PTS fs) (PTS gs):=⟨fun hv=>by
  obtain ⟨us,e1,h1,h2⟩:=hv
  exact ⟨us,e1,l.h ⟨h1,h2⟩⟩⟩
instance NF.e : NF (.ex .nilIface) (.ex (errV 70 0)):=⟨fun h=>h⟩
class NQ (τ : MT) (τ' : outParam MT) : Prop where
  h : ∀ {v : Value} {G : Gh},τ.t v G → τ'.t v G
instance (priority:=500) NQ.id {τ : MT} : NQ τ τ:=⟨fun h=>h⟩
instance NQ.f {n : Nat} {r : FR} : NQ (FX n r) (QV n r.val):=⟨FX.toQV⟩
instance NQ.q {n : Nat} {x : Rat} : NQ (QC n x) (QV n x):=⟨QC.toQV⟩
instance NQ.w {n : Nat} {z : Int} : NQ (WC n z) (W n z):=⟨WC.toW⟩
class NQL (fs : List (Option Nat × MT)) (gs : outParam (List (Option Nat × MT))) : Prop where
  h : ∀ {us : List Value} {G : Gh},PF fs us G → PF gs us G
instance NQL.nil : NQL [] []:=⟨fun h=>h⟩
instance NQL.cons {k : Option Nat} {τ τ' : MT} {fs gs : List (Option Nat × MT)} [h : NQ τ τ'] [l : NQL fs gs] : NQL ((k,τ) :: fs) ((k,τ') :: gs):=⟨fun hp=>by
  obtain ⟨v,us',rfl,hs,ht,hp'⟩:=hp.cons
  exact .mk hs (h.h ht) (l.h hp')⟩
instance NQ.pts {fs gs : List (Option Nat × MT)} [l : NQL fs gs] : NQ (PTS fs) (PTS gs):=⟨fun hv=>by
  obtain ⟨us,e1,h1,h2⟩:=hv
  exact ⟨us,e1,l.h ⟨h1,h2⟩⟩⟩
theorem QC.eq_ret {P : Program} {f : Nat} {vs : Array Value} {w : World} {G : Gh} {n : Nat} {x y : Rat} (h : Calls P f vs w (Ret w G (QC n x))) (e : x = y) : Calls P f vs w (Ret w G (QC n y)):=e ▸ h
instance {n : Nat} {x : Int} {τ1 : MT} [j1 : NQ τ1 (W n x)] : Con Tryz.prog 66 [τ1] (True) (IT x.sign):=.o1 fun hok h1 hp=>iSign_ok hok (j1.h h1)
instance {n m : Nat} {x y : Int} {τ1 : MT} [j1 : NQ τ1 (W n x)] {τ2 : MT} [j2 : NQ τ2 (W m y)] : Con Tryz.prog 74 [τ1,τ2] (n ≤ BIG ∧ m ≤ BIG) (IT (cmpZ x y)):=.o2 fun hok h1 h2 hp=>iCmp_ok hok (j1.h h1) (j2.h h2)
instance {n : Nat} {x : Int} {τ1 : MT} [j1 : NQ τ1 (W n x)] : Con Tryz.prog 81 [τ1] (True) (WC n (-x)):=.o1 fun hok h1 hp=>iNeg_ok hok (j1.h h1)
instance {n m : Nat} {x y : Int} {τ1 : MT} [j1 : NQ τ1 (W n x)] {τ2 : MT} [j2 : NQ τ2 (W m y)] : Con Tryz.prog 80 [τ1,τ2] (n ≤ BIG ∧ m ≤ BIG) (WC (max n m + 1) (x + y)):=.o2 fun hok h1 h2 hp=>iAdd_ok hok (j1.h h1) (j2.h h2) hp.1 hp.2
instance {n m : Nat} {x y : Int} {τ1 : MT} [j1 : NQ τ1 (W n x)] {τ2 : MT} [j2 : NQ τ2 (W m y)] : Con Tryz.prog 75 [τ1,τ2] (n + m ≤ BIG) (WC (n + m) (x * y)):=.o2 fun hok h1 h2 hp=>iMul_ok hok (j1.h h1) (j2.h h2) hp
instance {z : Int} : Con Tryz.prog 77 [IT z] (I64 z) (WC 64 z):=.o1 fun hok h1 hp=>iOf_ok hok h1 hp
instance {n : Nat} {x : Int} {τ1 : MT} [j1 : NQ τ1 (W n x)] : Con Tryz.prog 61 [τ1] (True) (IT x.sign):=.o1 fun hok h1 hp=>rSign_ok hok (j1.h h1)
instance {n m : Nat} {x y : Int} {τ1 : MT} [j1 : NQ τ1 (W n x)] {τ2 : MT} [j2 : NQ τ2 (W m y)] : Con Tryz.prog 70 [τ1,τ2] (n ≤ BIG ∧ m ≤ BIG) (IT (cmpZ x y)):=.o2 fun hok h1 h2 hp=>rCmp_ok hok (j1.h h1) (j2.h h2) hp.1 hp.2
instance {n : Nat} {x : Int} {τ1 : MT} [j1 : NQ τ1 (W n x)] : Con Tryz.prog 111 [τ1] (True) (WC n (-x)):=.o1 fun hok h1 hp=>rNeg_ok hok (j1.h h1)
instance {n m : Nat} {x y : Int} {τ1 : MT} [j1 : NQ τ1 (W n x)] {τ2 : MT} [j2 : NQ τ2 (W m y)] : Con Tryz.prog 89 [τ1,τ2] (n ≤ BIG ∧ m ≤ BIG) (WC (max n m + 1) (x + y)):=.o2 fun hok h1 h2 hp=>rAdd_ok hok (j1.h h1) (j2.h h2) hp.1 hp.2
instance {n m : Nat} {x y : Int} {τ1 : MT} [j1 : NQ τ1 (W n x)] {τ2 : MT} [j2 : NQ τ2 (W m y)] : Con Tryz.prog 90 [τ1,τ2] (n + m ≤ BIG) (WC (n + m) (x * y)):=.o2 fun hok h1 h2 hp=>rMul_ok hok (j1.h h1) (j2.h h2) hp
instance {z : Int} : Con Tryz.prog 83 [IT z] (I64 z) (WC 64 z):=.o1 fun hok h1 hp=>rOf_ok hok h1 hp
instance {n : Nat} {r : FR} {τ1 : MT} [j1 : NF τ1 (FX n r)] : Con Tryz.prog 63 [τ1] (n ≤ BIG) (BT r.ok):=.o1 fun hok h1 hp=>fValidX_ok hok (j1.h h1) hp
instance {n m : Nat} {x y : Rat} {τ1 : MT} [j1 : NQ τ1 (QV n x)] {τ2 : MT} [j2 : NQ τ2 (QV m y)] : Con Tryz.prog 43 [τ1,τ2] (n + m ≤ BIG) (QC (n + m) (x * y)):=.o2 fun hok h1 h2 hp=>fMul_ok hok (j1.h h1) (j2.h h2) hp
instance {n m : Nat} {x y : Rat} {τ1 : MT} [j1 : NQ τ1 (QV n x)] {τ2 : MT} [j2 : NQ τ2 (QV m y)] : Con Tryz.prog 47 [τ1,τ2] (n + m + 1 ≤ BIG) (QC (n + m + 1) (x + y)):=.o2 fun hok h1 h2 hp=>fAdd_ok hok (j1.h h1) (j2.h h2) hp
instance {n m : Nat} {x y : Rat} {τ1 : MT} [j1 : NQ τ1 (QV n x)] {τ2 : MT} [j2 : NQ τ2 (QV m y)] : Con Tryz.prog 46 [τ1,τ2] (n + m + 1 ≤ BIG) (QC (n + m + 1) (x - y)):=.o2 fun hok h1 h2 hp=>fSub_ok hok (j1.h h1) (j2.h h2) hp
instance {n : Nat} {x : Rat} {τ1 : MT} [j1 : NQ τ1 (QV n x)] : Con Tryz.prog 48 [τ1] (n ≤ BIG) (QC n (-x)):=.o1 fun hok h1 hp=>fNeg_ok hok (j1.h h1) hp
instance {n : Nat} {x : Rat} {τ1 : MT} [j1 : NQ τ1 (QV n x)] : Con Tryz.prog 34 [τ1] (n ≤ BIG) (IT x.num.sign):=.o1 fun hok h1 hp=>fSign_ok hok (j1.h h1) hp
instance {n : Nat} {x : Rat} {τ1 : MT} [j1 : NQ τ1 (QV n x)] : Con Tryz.prog 65 [τ1] (n ≤ BIG) (MT.tup2 (WC n x.num) (WC n ((x.den : Nat) : Int))):=.o1 fun hok h1 hp=>fParts_ok hok (j1.h h1) hp
instance {n m : Nat} {x y : Rat} {τ1 : MT} [j1 : NQ τ1 (QV n x)] {τ2 : MT} [j2 : NQ τ2 (QV m y)] : Con Tryz.prog 41 [τ1,τ2] (n + m + 1 ≤ BIG) (IT (cmpQ x y)):=.o2 fun hok h1 h2 hp=>fCmp_ok hok (j1.h h1) (j2.h h2) (by omega)
instance {z : Int} : Con Tryz.prog 44 [IT z] (I64 z) (QC 64 (z : Rat)):=.o1 fun hok h1 hp=>fOf_ok hok h1 hp
instance {n : Nat} {r : FR} {τ1 : MT} [j1 : NF τ1 (FX n r)] : Con Tryz.prog 39 [τ1] (n ≤ BIG) (BT r.ok):=.o1 fun hok h1 hp=>gValidX_ok hok (j1.h h1) hp
instance {n m : Nat} {x y : Rat} {τ1 : MT} [j1 : NQ τ1 (QV n x)] {τ2 : MT} [j2 : NQ τ2 (QV m y)] : Con Tryz.prog 59 [τ1,τ2] (n + m ≤ BIG) (QC (n + m) (x * y)):=.o2 fun hok h1 h2 hp=>gMul_ok hok (j1.h h1) (j2.h h2) hp
instance {n m : Nat} {x y : Rat} {τ1 : MT} [j1 : NQ τ1 (QV n x)] {τ2 : MT} [j2 : NQ τ2 (QV m y)] : Con Tryz.prog 57 [τ1,τ2] (n + m + 1 ≤ BIG) (QC (n + m + 1) (x + y)):=.o2 fun hok h1 h2 hp=>gAdd_ok hok (j1.h h1) (j2.h h2) hp
instance {n m : Nat} {x y : Rat} {τ1 : MT} [j1 : NQ τ1 (QV n x)] {τ2 : MT} [j2 : NQ τ2 (QV m y)] : Con Tryz.prog 56 [τ1,τ2] (n + m + 1 ≤ BIG) (QC (n + m + 1) (x - y)):=.o2 fun hok h1 h2 hp=>gSub_ok hok (j1.h h1) (j2.h h2) hp
instance {n : Nat} {x : Rat} {τ1 : MT} [j1 : NQ τ1 (QV n x)] : Con Tryz.prog 88 [τ1] (n ≤ BIG) (QC n (-x)):=.o1 fun hok h1 hp=>gNeg_ok hok (j1.h h1) hp
instance {n : Nat} {x : Rat} {τ1 : MT} [j1 : NQ τ1 (QV n x)] : Con Tryz.prog 30 [τ1] (n ≤ BIG) (IT x.num.sign):=.o1 fun hok h1 hp=>gSign_ok hok (j1.h h1) hp
instance {n : Nat} {x : Rat} {τ1 : MT} [j1 : NQ τ1 (QV n x)] : Con Tryz.prog 60 [τ1] (n ≤ BIG) (MT.tup2 (WC n x.num) (WC n ((x.den : Nat) : Int))):=.o1 fun hok h1 hp=>gParts_ok hok (j1.h h1) hp
instance {n m : Nat} {x y : Rat} {τ1 : MT} [j1 : NQ τ1 (QV n x)] {τ2 : MT} [j2 : NQ τ2 (QV m y)] : Con Tryz.prog 29 [τ1,τ2] (n + m + 1 ≤ BIG) (IT (cmpQ x y)):=.o2 fun hok h1 h2 hp=>gCmp_ok hok (j1.h h1) (j2.h h2) (by omega)
instance {z : Int} : Con Tryz.prog 50 [IT z] (I64 z) (QC 64 (z : Rat)):=.o1 fun hok h1 hp=>gOf_ok hok h1 hp
instance {n m : Nat} {x y : Int} {τ1 : MT} [j1 : NQ τ1 (W n x)] {τ2 : MT} [j2 : NQ τ2 (W m y)] : Con Tryz.prog 76 [τ1,τ2] (y ≠ 0 ∧ n ≤ BIG ∧ m ≤ BIG) (QC (max n m) (Rat.divInt x y)):=.o2 fun hok h1 h2 hp=>fform_ok hok (j1.h h1) (j2.h h2) hp.1 hp.2.1 hp.2.2
instance {n m : Nat} {x y : Int} {τ1 : MT} [j1 : NQ τ1 (W n x)] {τ2 : MT} [j2 : NQ τ2 (W m y)] : Con Tryz.prog 82 [τ1,τ2] (y ≠ 0 ∧ n ≤ BIG ∧ m ≤ BIG) (QC (max n m) (Rat.divInt x y)):=.o2 fun hok h1 h2 hp=>gform_ok hok (j1.h h1) (j2.h h2) hp.1 hp.2.1 hp.2.2
instance {n m : Nat} {x y : Rat} {τ1 : MT} [j1 : NQ τ1 (QV n x)] {τ2 : MT} [j2 : NQ τ2 (QV m y)] : Con Tryz.prog 45 [τ1,τ2] (y ≠ 0 ∧ n + m ≤ BIG) (MT.tup2 (QC (n + m) (x / y)) (.ex (errV 70 (0)))):=.o2 fun hok h1 h2 hp=>fDiv_ok hok (j1.h h1) (j2.h h2) hp.1 hp.2
instance  : Con Tryz.prog 44 [IT (1)] (True) (QC 64 (1)):=.o1 fun hok h1 hp=>QC.eq_ret (fOf_ok hok h1 (by decide)) (by decide)
instance  : Con Tryz.prog 44 [IT (-1)] (True) (QC 64 (-1)):=.o1 fun hok h1 hp=>QC.eq_ret (fOf_ok hok h1 (by decide)) (by decide)
instance  : Con Tryz.prog 44 [IT (2)] (True) (QC 64 (2)):=.o1 fun hok h1 hp=>QC.eq_ret (fOf_ok hok h1 (by decide)) (by decide)
instance  : Con Tryz.prog 44 [IT (-2)] (True) (QC 64 (-2)):=.o1 fun hok h1 hp=>QC.eq_ret (fOf_ok hok h1 (by decide)) (by decide)
instance  : Con Tryz.prog 44 [IT (4)] (True) (QC 64 (4)):=.o1 fun hok h1 hp=>QC.eq_ret (fOf_ok hok h1 (by decide)) (by decide)
instance  : Con Tryz.prog 44 [IT (3)] (True) (QC 64 (3)):=.o1 fun hok h1 hp=>QC.eq_ret (fOf_ok hok h1 (by decide)) (by decide)
instance  : Con Tryz.prog 44 [IT (16)] (True) (QC 64 (16)):=.o1 fun hok h1 hp=>QC.eq_ret (fOf_ok hok h1 (by decide)) (by decide)
instance  : Con Tryz.prog 44 [IT (0)] (True) (QC 64 (0)):=.o1 fun hok h1 hp=>QC.eq_ret (fOf_ok hok h1 (by decide)) (by decide)
instance  : Con Tryz.prog 44 [IT (5)] (True) (QC 64 (5)):=.o1 fun hok h1 hp=>QC.eq_ret (fOf_ok hok h1 (by decide)) (by decide)
instance  : Con Tryz.prog 44 [IT (6)] (True) (QC 64 (6)):=.o1 fun hok h1 hp=>QC.eq_ret (fOf_ok hok h1 (by decide)) (by decide)
instance  : Con Tryz.prog 44 [IT (9)] (True) (QC 64 (9)):=.o1 fun hok h1 hp=>QC.eq_ret (fOf_ok hok h1 (by decide)) (by decide)
instance  : Con Tryz.prog 44 [IT (10)] (True) (QC 64 (10)):=.o1 fun hok h1 hp=>QC.eq_ret (fOf_ok hok h1 (by decide)) (by decide)
instance  : Con Tryz.prog 44 [IT (25)] (True) (QC 64 (25)):=.o1 fun hok h1 hp=>QC.eq_ret (fOf_ok hok h1 (by decide)) (by decide)
instance  : Con Tryz.prog 50 [IT (1)] (True) (QC 64 (1)):=.o1 fun hok h1 hp=>QC.eq_ret (gOf_ok hok h1 (by decide)) (by decide)
instance  : Con Tryz.prog 50 [IT (-1)] (True) (QC 64 (-1)):=.o1 fun hok h1 hp=>QC.eq_ret (gOf_ok hok h1 (by decide)) (by decide)
instance  : Con Tryz.prog 50 [IT (2)] (True) (QC 64 (2)):=.o1 fun hok h1 hp=>QC.eq_ret (gOf_ok hok h1 (by decide)) (by decide)
instance  : Con Tryz.prog 50 [IT (-2)] (True) (QC 64 (-2)):=.o1 fun hok h1 hp=>QC.eq_ret (gOf_ok hok h1 (by decide)) (by decide)
instance  : Con Tryz.prog 50 [IT (4)] (True) (QC 64 (4)):=.o1 fun hok h1 hp=>QC.eq_ret (gOf_ok hok h1 (by decide)) (by decide)
instance  : Con Tryz.prog 50 [IT (3)] (True) (QC 64 (3)):=.o1 fun hok h1 hp=>QC.eq_ret (gOf_ok hok h1 (by decide)) (by decide)
instance  : Con Tryz.prog 50 [IT (16)] (True) (QC 64 (16)):=.o1 fun hok h1 hp=>QC.eq_ret (gOf_ok hok h1 (by decide)) (by decide)
instance  : Con Tryz.prog 50 [IT (0)] (True) (QC 64 (0)):=.o1 fun hok h1 hp=>QC.eq_ret (gOf_ok hok h1 (by decide)) (by decide)
instance  : Con Tryz.prog 50 [IT (5)] (True) (QC 64 (5)):=.o1 fun hok h1 hp=>QC.eq_ret (gOf_ok hok h1 (by decide)) (by decide)
instance  : Con Tryz.prog 50 [IT (6)] (True) (QC 64 (6)):=.o1 fun hok h1 hp=>QC.eq_ret (gOf_ok hok h1 (by decide)) (by decide)
instance  : Con Tryz.prog 50 [IT (9)] (True) (QC 64 (9)):=.o1 fun hok h1 hp=>QC.eq_ret (gOf_ok hok h1 (by decide)) (by decide)
instance  : Con Tryz.prog 50 [IT (10)] (True) (QC 64 (10)):=.o1 fun hok h1 hp=>QC.eq_ret (gOf_ok hok h1 (by decide)) (by decide)
instance  : Con Tryz.prog 50 [IT (25)] (True) (QC 64 (25)):=.o1 fun hok h1 hp=>QC.eq_ret (gOf_ok hok h1 (by decide)) (by decide)
end Go.Proofs.YtpbkcbnghhodiaaGreat
set_option linter.unusedVariables false
set_option linter.unusedSimpArgs false
set_option maxHeartbeats 1000000
set_option maxRecDepth 100000
set_option synthInstance.maxSize 100000
set_option synthInstance.maxHeartbeats 400000
namespace Go.Proofs.YtpbkcbnghhodiaaGreat
open Go.RowKit (Below)
theorem zv0 : (default : FR).val = 0:=rfl
abbrev TRN (n : Nat) (t : FR) (h : Bool) : MT:=PTS [(some 3,FX n t),(none,BT h)]
abbrev BST (n : Nat) (t : FR) (h : Bool) (m : Int) : MT:=PTS [(some 4,TRN n t h),(none,IT m)]
abbrev QUD (n : Nat) (g a b c : FR) : MT:=PTS [(some 3,FX n g),(some 3,FX n a),(some 3,FX n b),(some 3,FX n c)]
abbrev PLQ (n : Nat) (x y : Rat) : MT:=PTS [(some 3,QC n x),(some 3,QC n y)]
theorem posR_t {r : FR} (h : (!r.ok || decide (r.val.num.sign ≤ 0)) = true) : posR r = false:=by
  rcases Bool.or_eq_true_iff.1 h with h | h
  · exact posR_not1 (by simpa using h)
  · exact posR_not2 (of_decide_eq_true h)
theorem posR_f {r : FR} (h : (!r.ok || decide (r.val.num.sign ≤ 0)) = false) : posR r = true:=by
  rw [Bool.or_eq_false_iff] at h
  exact posR_of (by simpa using h.1) (of_decide_eq_false h.2)
theorem w141 {n m : Nat} {x y : Rat} : Con Tryz.prog 141 [QV n x,QV m y] (y ≠ 0 ∧ n + m ≤ BIG) (QC (n + m) (x / y)):=.o2 fun hok h1 h2 hp=>by
  refine St.enter (N:=17) Tryz.func141 rfl rfl rfl hok (enter2 h1 h2) fun a=>?_
  repeat' (first | refine W.run ?_ fun a w G=>?_ | refine W.mv fun a w G=>?_ | refine W.asg fun a w G=>?_ | refine W.bx fun b a w G=>?_ | (refine W.nn hK ?_;clear hK K) | refine W.reg fun K hK=>?_ | refine W.reg1 ?_ | refine W.nl ?_ | refine W.sq fun K hK=>?_ | refine W.ds ?_ (fun β a w G hu=>W.fin ?_ hu) mixedOrders (by kernel_rfl) | refine W.sk ?_ | (refine W.kn hK ?_;clear hK K) | refine W.cd (fun hc=>?_) (fun hc=>?_) | refine W.cb (fun hc=>?_) (fun hc=>?_) | refine W.al fun b a w G=>?_ | refine W.st fun w=>?_ | refine W.stp fun w=>?_ | refine W.bl ?_ | refine W.bn ?_ | refine W.ex ?_ | refine W.xt ?_ | refine W.xb ?_ | refine W.xo ?_ | refine W.rt ?_ | refine W.tr ?_ | refine W.br ?_ | refine W.rt1 rfl ?_ | refine W.rt2 rfl ?_ ?_ | refine W.rt3 rfl ?_ ?_ ?_ | clear hK K | clear hu | exact True.intro | exact Nat.le_trans (by clear hp;omega) hp | exact Nat.le_trans (by clear hp;omega) hp.1 | exact Nat.le_trans (by clear hp;omega) hp.2 | (clear hp;omega) | apply And.intro | refine GI.i fun _=>?_ | with_reducible rfl | decide | (simp only [List.length_cons,List.length_nil];omega))
  all_goals (first | exact hp.1 | exact hp.2 | (exfalso;simp_all))
instance {n m : Nat} {x y : Rat} {τ1 : MT} [j1 : NQ τ1 (QV n x)] {τ2 : MT} [j2 : NQ τ2 (QV m y)] : Con Tryz.prog 141 [τ1,τ2] (y ≠ 0 ∧ n + m ≤ BIG) (QC (n + m) (x / y)):=.o2 fun hok h1 h2 hp=>w141.c2 hok (j1.h h1) (j2.h h2) hp
theorem w32 {m : Nat} {t : FR} {h : Bool} : Con Tryz.prog 32 [TRN m t h] (10000 * m + 100000 ≤ BIG) (.ex (errV 70 (trnC h t))):=.o1 fun hok h1 hp=>by
  refine St.enter (N:=18) Tryz.func32 rfl rfl rfl hok (enter1 h1) fun a=>?_
  repeat' (first | refine W.run ?_ fun a w G=>?_ | refine W.mv fun a w G=>?_ | refine W.asg fun a w G=>?_ | refine W.bx fun b a w G=>?_ | (refine W.nn hK ?_;clear hK K) | refine W.reg fun K hK=>?_ | refine W.reg1 ?_ | refine W.nl ?_ | refine W.sq fun K hK=>?_ | refine W.ds ?_ (fun β a w G hu=>W.fin ?_ hu) mixedOrders (by kernel_rfl) | refine W.sk ?_ | (refine W.kn hK ?_;clear hK K) | refine W.cd (fun hc=>?_) (fun hc=>?_) | refine W.cb (fun hc=>?_) (fun hc=>?_) | refine W.al fun b a w G=>?_ | refine W.st fun w=>?_ | refine W.stp fun w=>?_ | refine W.bl ?_ | refine W.bn ?_ | refine W.ex ?_ | refine W.xt ?_ | refine W.xb ?_ | refine W.xo ?_ | refine W.rt ?_ | refine W.tr ?_ | refine W.br ?_ | refine W.rt1 rfl ?_ | refine W.rt2 rfl ?_ ?_ | refine W.rt3 rfl ?_ ?_ ?_ | clear hK K | clear hu | exact True.intro | exact Nat.le_trans (by clear hp;omega) hp | exact Nat.le_trans (by clear hp;omega) hp.1 | exact Nat.le_trans (by clear hp;omega) hp.2 | (clear hp;omega) | apply And.intro | refine GI.i fun _=>?_ | with_reducible rfl | decide | (simp only [List.length_cons,List.length_nil];omega))
  all_goals (unfold trnC trnF;grind)
instance {m : Nat} {t : FR} {h : Bool} {τ1 : MT} [j1 : NF τ1 (TRN m t h)] : Con Tryz.prog 32 [τ1] (10000 * m + 100000 ≤ BIG) (.ex (errV 70 (trnC h t))):=.o1 fun hok h1 hp=>w32.c1 hok (j1.h h1) hp
theorem w137 {m : Nat} {t : FR} {h : Bool} : Con Tryz.prog 137 [TRN m t h] (10000 * m + 100000 ≤ BIG) (MT.tup2 (QV (4 * m + 130) (dirC h t.val)) (QV (4 * m + 130) (dirS h t.val))):=.o1 fun hok h1 hp=>by
  refine St.enter (N:=32) Tryz.func137 rfl rfl rfl hok (enter1 h1) fun a=>?_
  repeat' (first | refine W.run ?_ fun a w G=>?_ | refine W.mv fun a w G=>?_ | refine W.asg fun a w G=>?_ | refine W.bx fun b a w G=>?_ | (refine W.nn hK ?_;clear hK K) | refine W.reg fun K hK=>?_ | refine W.reg1 ?_ | refine W.nl ?_ | refine W.sq fun K hK=>?_ | refine W.ds ?_ (fun β a w G hu=>W.fin ?_ hu) mixedOrders (by kernel_rfl) | refine W.sk ?_ | (refine W.kn hK ?_;clear hK K) | refine W.cd (fun hc=>?_) (fun hc=>?_) | refine W.cb (fun hc=>?_) (fun hc=>?_) | refine W.al fun b a w G=>?_ | refine W.st fun w=>?_ | refine W.stp fun w=>?_ | refine W.bl ?_ | refine W.bn ?_ | refine W.ex ?_ | refine W.xt ?_ | refine W.xb ?_ | refine W.xo ?_ | refine W.rt ?_ | refine W.tr ?_ | refine W.br ?_ | refine W.rt1 rfl ?_ | refine W.rt2 rfl ?_ ?_ | refine W.rt3 rfl ?_ ?_ ?_ | clear hK K | clear hu | exact True.intro | exact Nat.le_trans (by clear hp;omega) hp | exact Nat.le_trans (by clear hp;omega) hp.1 | exact Nat.le_trans (by clear hp;omega) hp.2 | (clear hp;omega) | apply And.intro | refine GI.i fun _=>?_ | with_reducible rfl | decide | (simp only [List.length_cons,List.length_nil];omega))
  all_goals first | exact one_sq _ | simp_all [dirC,dirS,zv0]
instance {m : Nat} {t : FR} {h : Bool} {τ1 : MT} [j1 : NF τ1 (TRN m t h)] : Con Tryz.prog 137 [τ1] (10000 * m + 100000 ≤ BIG) (MT.tup2 (QV (4 * m + 130) (dirC h t.val)) (QV (4 * m + 130) (dirS h t.val))):=.o1 fun hok h1 hp=>w137.c1 hok (j1.h h1) hp
theorem w120 {m : Nat} {t : FR} {h : Bool} : Con Tryz.prog 120 [TRN m t h] (10000 * m + 100000 ≤ BIG ∧ trnF h t = true) (MT.tup2 (QV (4 * m + 130) (dirC h t.val)) (.ex (errV 70 (0)))):=.o1 fun hok h1 hp=>by
  refine St.enter (N:=19) Tryz.func120 rfl rfl rfl hok (enter1 h1) fun a=>?_
  have ht:=trn_0 hp.2
  repeat' (first | refine W.run ?_ fun a w G=>?_ | refine W.mv fun a w G=>?_ | refine W.asg fun a w G=>?_ | refine W.bx fun b a w G=>?_ | (refine W.nn hK ?_;clear hK K) | refine W.reg fun K hK=>?_ | refine W.reg1 ?_ | refine W.nl ?_ | refine W.sq fun K hK=>?_ | refine W.ds ?_ (fun β a w G hu=>W.fin ?_ hu) mixedOrders (by kernel_rfl) | refine W.sk ?_ | (refine W.kn hK ?_;clear hK K) | refine W.cd (fun hc=>?_) (fun hc=>?_) | refine W.cb (fun hc=>?_) (fun hc=>?_) | refine W.al fun b a w G=>?_ | refine W.st fun w=>?_ | refine W.stp fun w=>?_ | refine W.bl ?_ | refine W.bn ?_ | refine W.ex ?_ | refine W.xt ?_ | refine W.xb ?_ | refine W.xo ?_ | refine W.rt ?_ | refine W.tr ?_ | refine W.br ?_ | refine W.rt1 rfl ?_ | refine W.rt2 rfl ?_ ?_ | refine W.rt3 rfl ?_ ?_ ?_ | clear hK K | clear hu | exact True.intro | exact Nat.le_trans (by clear hp;omega) hp | exact Nat.le_trans (by clear hp;omega) hp.1 | exact Nat.le_trans (by clear hp;omega) hp.2 | (clear hp;omega) | apply And.intro | refine GI.i fun _=>?_ | with_reducible rfl | decide | (simp only [List.length_cons,List.length_nil];omega))
  all_goals first | exact hp.2 | (exfalso;omega) | assumption
instance {m : Nat} {t : FR} {h : Bool} {τ1 : MT} [j1 : NF τ1 (TRN m t h)] : Con Tryz.prog 120 [τ1] (10000 * m + 100000 ≤ BIG ∧ trnF h t = true) (MT.tup2 (QV (4 * m + 130) (dirC h t.val)) (.ex (errV 70 (0)))):=.o1 fun hok h1 hp=>w120.c1 hok (j1.h h1) hp
theorem w121 {m : Nat} {t : FR} {h : Bool} : Con Tryz.prog 121 [TRN m t h] (10000 * m + 100000 ≤ BIG ∧ trnF h t = true) (MT.tup2 (QV (4 * m + 130) (dirS h t.val)) (.ex (errV 70 (0)))):=.o1 fun hok h1 hp=>by
  refine St.enter (N:=19) Tryz.func121 rfl rfl rfl hok (enter1 h1) fun a=>?_
  have ht:=trn_0 hp.2
  repeat' (first | refine W.run ?_ fun a w G=>?_ | refine W.mv fun a w G=>?_ | refine W.asg fun a w G=>?_ | refine W.bx fun b a w G=>?_ | (refine W.nn hK ?_;clear hK K) | refine W.reg fun K hK=>?_ | refine W.reg1 ?_ | refine W.nl ?_ | refine W.sq fun K hK=>?_ | refine W.ds ?_ (fun β a w G hu=>W.fin ?_ hu) mixedOrders (by kernel_rfl) | refine W.sk ?_ | (refine W.kn hK ?_;clear hK K) | refine W.cd (fun hc=>?_) (fun hc=>?_) | refine W.cb (fun hc=>?_) (fun hc=>?_) | refine W.al fun b a w G=>?_ | refine W.st fun w=>?_ | refine W.stp fun w=>?_ | refine W.bl ?_ | refine W.bn ?_ | refine W.ex ?_ | refine W.xt ?_ | refine W.xb ?_ | refine W.xo ?_ | refine W.rt ?_ | refine W.tr ?_ | refine W.br ?_ | refine W.rt1 rfl ?_ | refine W.rt2 rfl ?_ ?_ | refine W.rt3 rfl ?_ ?_ ?_ | clear hK K | clear hu | exact True.intro | exact Nat.le_trans (by clear hp;omega) hp | exact Nat.le_trans (by clear hp;omega) hp.1 | exact Nat.le_trans (by clear hp;omega) hp.2 | (clear hp;omega) | apply And.intro | refine GI.i fun _=>?_ | with_reducible rfl | decide | (simp only [List.length_cons,List.length_nil];omega))
  all_goals first | exact hp.2 | (exfalso;omega) | assumption
instance {m : Nat} {t : FR} {h : Bool} {τ1 : MT} [j1 : NF τ1 (TRN m t h)] : Con Tryz.prog 121 [τ1] (10000 * m + 100000 ≤ BIG ∧ trnF h t = true) (MT.tup2 (QV (4 * m + 130) (dirS h t.val)) (.ex (errV 70 (0)))):=.o1 fun hok h1 hp=>w121.c1 hok (j1.h h1) hp
theorem w97 {m : Nat} {t : FR} {h : Bool} : Con Tryz.prog 97 [TRN m t h] (10000 * m + 100000 ≤ BIG ∧ trnF h t = true) (MT.tup3 (QV (4 * m + 130) (dirC h t.val)) (QV (4 * m + 130) (dirS h t.val)) (.ex (errV 70 (0)))):=.o1 fun hok h1 hp=>by
  refine St.enter (N:=29) Tryz.func97 rfl rfl rfl hok (enter1 h1) fun a=>?_
  have ht:=trn_0 hp.2
  repeat' (first | refine W.run ?_ fun a w G=>?_ | refine W.mv fun a w G=>?_ | refine W.asg fun a w G=>?_ | refine W.bx fun b a w G=>?_ | (refine W.nn hK ?_;clear hK K) | refine W.reg fun K hK=>?_ | refine W.reg1 ?_ | refine W.nl ?_ | refine W.sq fun K hK=>?_ | refine W.ds ?_ (fun β a w G hu=>W.fin ?_ hu) mixedOrders (by kernel_rfl) | refine W.sk ?_ | (refine W.kn hK ?_;clear hK K) | refine W.cd (fun hc=>?_) (fun hc=>?_) | refine W.cb (fun hc=>?_) (fun hc=>?_) | refine W.al fun b a w G=>?_ | refine W.st fun w=>?_ | refine W.stp fun w=>?_ | refine W.bl ?_ | refine W.bn ?_ | refine W.ex ?_ | refine W.xt ?_ | refine W.xb ?_ | refine W.xo ?_ | refine W.rt ?_ | refine W.tr ?_ | refine W.br ?_ | refine W.rt1 rfl ?_ | refine W.rt2 rfl ?_ ?_ | refine W.rt3 rfl ?_ ?_ ?_ | clear hK K | clear hu | exact True.intro | exact Nat.le_trans (by clear hp;omega) hp | exact Nat.le_trans (by clear hp;omega) hp.1 | exact Nat.le_trans (by clear hp;omega) hp.2 | (clear hp;omega) | apply And.intro | refine GI.i fun _=>?_ | with_reducible rfl | decide | (simp only [List.length_cons,List.length_nil];omega))
  all_goals first | exact hp.2 | (exfalso;omega) | assumption
instance {m : Nat} {t : FR} {h : Bool} {τ1 : MT} [j1 : NF τ1 (TRN m t h)] : Con Tryz.prog 97 [τ1] (10000 * m + 100000 ≤ BIG ∧ trnF h t = true) (MT.tup3 (QV (4 * m + 130) (dirC h t.val)) (QV (4 * m + 130) (dirS h t.val)) (.ex (errV 70 (0)))):=.o1 fun hok h1 hp=>w97.c1 hok (j1.h h1) hp
theorem w84 {n : Nat} {rg ra rb rc : FR} : Con Tryz.prog 84 [QUD n rg ra rb rc] (10000 * n + 100000 ≤ BIG) (.ex (errV 70 (barC [rg,ra,rb,rc]))):=.o1 fun hok h1 hp=>by
  refine St.enter (N:=29) Tryz.func84 rfl rfl rfl hok (enter1 h1) fun a=>?_
  repeat' (first | refine W.run ?_ fun a w G=>?_ | refine W.mv fun a w G=>?_ | refine W.asg fun a w G=>?_ | refine W.bx fun b a w G=>?_ | (refine W.nn hK ?_;clear hK K) | refine W.reg fun K hK=>?_ | refine W.reg1 ?_ | refine W.nl ?_ | refine W.sq fun K hK=>?_ | refine W.ds ?_ (fun β a w G hu=>W.fin ?_ hu) mixedOrders (by kernel_rfl) | refine W.sk ?_ | (refine W.kn hK ?_;clear hK K) | refine W.cd (fun hc=>?_) (fun hc=>?_) | refine W.cb (fun hc=>?_) (fun hc=>?_) | refine W.al fun b a w G=>?_ | refine W.st fun w=>?_ | refine W.stp fun w=>?_ | refine W.bl ?_ | refine W.bn ?_ | refine W.ex ?_ | refine W.xt ?_ | refine W.xb ?_ | refine W.xo ?_ | refine W.rt ?_ | refine W.tr ?_ | refine W.br ?_ | refine W.rt1 rfl ?_ | refine W.rt2 rfl ?_ ?_ | refine W.rt3 rfl ?_ ?_ ?_ | refine W.lp (α:=Nat) (fun j=>4 - j) (fun j=>j ≤ 4 ∧ ([rg,ra,rb,rc].take j).all posR = true) [2,4,13,14,15,16,17,18,19,20,21,22,23,24,25,26,27,28] (fun j=>[(15,NT j),(14,NT 4),(13,LS (some 3) ([rg,ra,rb,rc].map (FX n)))]) (fun j=>[]) (0) ?_ ?_ ?_ fun j hj a w G=>?_ | refine W.ag (j+1) ?_ ?_ ?_ ?_ | clear hK K | clear hu | exact True.intro | exact Nat.le_trans (by clear hp;omega) hp | exact Nat.le_trans (by clear hp;omega) hp.1 | exact Nat.le_trans (by clear hp;omega) hp.2 | (clear hp;omega) | apply And.intro | refine GI.i fun _=>?_ | with_reducible rfl | decide | (simp only [List.length_cons,List.length_nil];omega))
  all_goals first | rfl | exact (bar_3 (all_not (show j < 4 by omega) (posR_t hc))).symm | exact all_snoc (show j < 4 by omega) hj.2 (posR_f hc) | exact bar_0 (all_end (show ¬ j < 4 by omega) hj.2)
instance {n : Nat} {rg ra rb rc : FR} {τ1 : MT} [j1 : NF τ1 (QUD n rg ra rb rc)] : Con Tryz.prog 84 [τ1] (10000 * n + 100000 ≤ BIG) (.ex (errV 70 (barC [rg,ra,rb,rc]))):=.o1 fun hok h1 hp=>w84.c1 hok (j1.h h1) hp
end Go.Proofs.YtpbkcbnghhodiaaGreat
set_option linter.unusedVariables false
set_option linter.unusedSimpArgs false
set_option maxHeartbeats 1000000
set_option maxRecDepth 100000
set_option synthInstance.maxSize 100000
set_option synthInstance.maxHeartbeats 400000
namespace Go.Proofs.YtpbkcbnghhodiaaGreat
open Go.RowKit (Below)
attribute [local irreducible] barC trnC btC
theorem w96 {n m : Nat} {rg ra rb rc t : FR} {h : Bool} : Con Tryz.prog 96 [QUD n rg ra rb rc,TRN m t h] (10000 * n + 10000 * m + 100000 ≤ BIG) (.ex (errV 70 (btC [rg,ra,rb,rc] h t))):=.o2 fun hok h1 h2 hp=>by
  refine St.enter (N:=15) Tryz.func96 rfl rfl rfl hok (enter2 h1 h2) fun a=>?_
  repeat' (first | refine W.run ?_ fun a w G=>?_ | refine W.mv fun a w G=>?_ | refine W.asg fun a w G=>?_ | refine W.bx fun b a w G=>?_ | (refine W.nn hK ?_;clear hK K) | refine W.reg fun K hK=>?_ | refine W.reg1 ?_ | refine W.nl ?_ | refine W.sq fun K hK=>?_ | refine W.ds ?_ (fun β a w G hu=>W.fin ?_ hu) mixedOrders (by kernel_rfl) | refine W.sk ?_ | (refine W.kn hK ?_;clear hK K) | refine W.cd (fun hc=>?_) (fun hc=>?_) | refine W.cb (fun hc=>?_) (fun hc=>?_) | refine W.al fun b a w G=>?_ | refine W.st fun w=>?_ | refine W.stp fun w=>?_ | refine W.bl ?_ | refine W.bn ?_ | refine W.ex ?_ | refine W.xt ?_ | refine W.xb ?_ | refine W.xo ?_ | refine W.rt ?_ | refine W.tr ?_ | refine W.br ?_ | refine W.rt1 rfl ?_ | refine W.rt2 rfl ?_ ?_ | refine W.rt3 rfl ?_ ?_ ?_ | clear hK K | clear hu | exact True.intro | exact Nat.le_trans (by clear hp;omega) hp | exact Nat.le_trans (by clear hp;omega) hp.1 | exact Nat.le_trans (by clear hp;omega) hp.2 | (clear hp;omega) | apply And.intro | refine GI.i fun _=>?_ | with_reducible rfl | decide | (simp only [List.length_cons,List.length_nil];omega))
  all_goals grind [btC,bar_two,trn_two]
instance {n m : Nat} {rg ra rb rc t : FR} {h : Bool} {τ1 : MT} [j1 : NF τ1 (QUD n rg ra rb rc)] {τ2 : MT} [j2 : NF τ2 (TRN m t h)] : Con Tryz.prog 96 [τ1,τ2] (10000 * n + 10000 * m + 100000 ≤ BIG) (.ex (errV 70 (btC [rg,ra,rb,rc] h t))):=.o2 fun hok h1 h2 hp=>w96.c2 hok (j1.h h1) (j2.h h2) hp
theorem w73 {n : Nat} {x : Rat} : Con Tryz.prog 73 [QV n x] (n + n ≤ BIG) (QC (n + n) (x * x)):=.o1 fun hok h1 hp=>by
  refine St.enter (N:=6) Tryz.func73 rfl rfl rfl hok (enter1 h1) fun a=>?_
  repeat' (first | refine W.run ?_ fun a w G=>?_ | refine W.mv fun a w G=>?_ | refine W.asg fun a w G=>?_ | refine W.bx fun b a w G=>?_ | (refine W.nn hK ?_;clear hK K) | refine W.reg fun K hK=>?_ | refine W.reg1 ?_ | refine W.nl ?_ | refine W.sq fun K hK=>?_ | refine W.ds ?_ (fun β a w G hu=>W.fin ?_ hu) mixedOrders (by kernel_rfl) | refine W.sk ?_ | (refine W.kn hK ?_;clear hK K) | refine W.cd (fun hc=>?_) (fun hc=>?_) | refine W.cb (fun hc=>?_) (fun hc=>?_) | refine W.al fun b a w G=>?_ | refine W.st fun w=>?_ | refine W.stp fun w=>?_ | refine W.bl ?_ | refine W.bn ?_ | refine W.ex ?_ | refine W.xt ?_ | refine W.xb ?_ | refine W.xo ?_ | refine W.rt ?_ | refine W.tr ?_ | refine W.br ?_ | refine W.rt1 rfl ?_ | refine W.rt2 rfl ?_ ?_ | refine W.rt3 rfl ?_ ?_ ?_ | clear hK K | clear hu | exact True.intro | exact Nat.le_trans (by clear hp;omega) hp | exact Nat.le_trans (by clear hp;omega) hp.1 | exact Nat.le_trans (by clear hp;omega) hp.2 | (clear hp;omega) | apply And.intro | refine GI.i fun _=>?_ | with_reducible rfl | decide | (simp only [List.length_cons,List.length_nil];omega))
instance {n : Nat} {x : Rat} {τ1 : MT} [j1 : NQ τ1 (QV n x)] : Con Tryz.prog 73 [τ1] (n + n ≤ BIG) (QC (n + n) (x * x)):=.o1 fun hok h1 hp=>w73.c1 hok (j1.h h1) hp
theorem w49 {n : Nat} {x : Rat} : Con Tryz.prog 49 [QV n x] (n + 2 ≤ BIG) (QC (n + 2) x):=.o1 fun hok h1 hp=>by
  refine St.enter (N:=6) Tryz.func49 rfl rfl rfl hok (enter1 h1) fun a=>?_
  repeat' (first | refine W.run ?_ fun a w G=>?_ | refine W.mv fun a w G=>?_ | refine W.asg fun a w G=>?_ | refine W.bx fun b a w G=>?_ | (refine W.nn hK ?_;clear hK K) | refine W.reg fun K hK=>?_ | refine W.reg1 ?_ | refine W.nl ?_ | refine W.sq fun K hK=>?_ | refine W.ds ?_ (fun β a w G hu=>W.fin ?_ hu) mixedOrders (by kernel_rfl) | refine W.sk ?_ | (refine W.kn hK ?_;clear hK K) | refine W.cd (fun hc=>?_) (fun hc=>?_) | refine W.cb (fun hc=>?_) (fun hc=>?_) | refine W.al fun b a w G=>?_ | refine W.st fun w=>?_ | refine W.stp fun w=>?_ | refine W.bl ?_ | refine W.bn ?_ | refine W.ex ?_ | refine W.xt ?_ | refine W.xb ?_ | refine W.xo ?_ | refine W.rt ?_ | refine W.tr ?_ | refine W.br ?_ | refine W.rt1 rfl ?_ | refine W.rt2 rfl ?_ ?_ | refine W.rt3 rfl ?_ ?_ ?_ | clear hK K | clear hu | exact True.intro | exact Nat.le_trans (by clear hp;omega) hp | exact Nat.le_trans (by clear hp;omega) hp.1 | exact Nat.le_trans (by clear hp;omega) hp.2 | (clear hp;omega) | apply And.intro | refine GI.i fun _=>?_ | with_reducible rfl | decide | (simp only [List.length_cons,List.length_nil];omega))
  all_goals grind [zv0]
instance {n : Nat} {x : Rat} {τ1 : MT} [j1 : NQ τ1 (QV n x)] : Con Tryz.prog 49 [τ1] (n + 2 ≤ BIG) (QC (n + 2) x):=.o1 fun hok h1 hp=>w49.c1 hok (j1.h h1) hp
theorem w51 {n : Nat} {rg ra rb rc : FR} : Con Tryz.prog 51 [QUD n rg ra rb rc] (10000 * n + 100000 ≤ BIG) (MT.tup2 (PTS [(some 3,FX (2 * n + 2) (quF [rg,ra,rb,rc] 0)),(some 3,FX (2 * n + 2) (quF [rg,ra,rb,rc] 1)),(some 3,FX (2 * n + 2) (quF [rg,ra,rb,rc] 2)),(some 3,FX (2 * n + 2) (quF [rg,ra,rb,rc] 3))]) (.ex (errV 70 (barC [rg,ra,rb,rc])))):=.o1 fun hok h1 hp=>by
  refine St.enter (N:=24) Tryz.func51 rfl rfl rfl hok (enter1 h1) fun a=>?_
  repeat' (first | refine W.run ?_ fun a w G=>?_ | refine W.mv fun a w G=>?_ | refine W.asg fun a w G=>?_ | refine W.bx fun b a w G=>?_ | (refine W.nn hK ?_;clear hK K) | refine W.reg fun K hK=>?_ | refine W.reg1 ?_ | refine W.nl ?_ | refine W.sq fun K hK=>?_ | refine W.ds ?_ (fun β a w G hu=>W.fin ?_ hu) mixedOrders (by kernel_rfl) | refine W.sk ?_ | (refine W.kn hK ?_;clear hK K) | refine W.cd (fun hc=>?_) (fun hc=>?_) | refine W.cb (fun hc=>?_) (fun hc=>?_) | refine W.al fun b a w G=>?_ | refine W.st fun w=>?_ | refine W.stp fun w=>?_ | refine W.bl ?_ | refine W.bn ?_ | refine W.ex ?_ | refine W.xt ?_ | refine W.xb ?_ | refine W.xo ?_ | refine W.rt ?_ | refine W.tr ?_ | refine W.br ?_ | refine W.rt1 rfl ?_ | refine W.rt2 rfl ?_ ?_ | refine W.rt3 rfl ?_ ?_ ?_ | clear hK K | clear hu | exact True.intro | exact Nat.le_trans (by clear hp;omega) hp | exact Nat.le_trans (by clear hp;omega) hp.1 | exact Nat.le_trans (by clear hp;omega) hp.2 | (clear hp;omega) | apply And.intro | refine GI.i fun _=>?_ | with_reducible rfl | decide | (simp only [List.length_cons,List.length_nil];omega))
  all_goals first | exact qu_bad hc | (unfold quF;rw [if_pos (by omega)];rfl)
instance {n : Nat} {rg ra rb rc : FR} {τ1 : MT} [j1 : NF τ1 (QUD n rg ra rb rc)] : Con Tryz.prog 51 [τ1] (10000 * n + 100000 ≤ BIG) (MT.tup2 (PTS [(some 3,FX (2 * n + 2) (quF [rg,ra,rb,rc] 0)),(some 3,FX (2 * n + 2) (quF [rg,ra,rb,rc] 1)),(some 3,FX (2 * n + 2) (quF [rg,ra,rb,rc] 2)),(some 3,FX (2 * n + 2) (quF [rg,ra,rb,rc] 3))]) (.ex (errV 70 (barC [rg,ra,rb,rc])))):=.o1 fun hok h1 hp=>w51.c1 hok (j1.h h1) hp
theorem w64 {n m : Nat} {rg ra rb rc t : FR} {h : Bool} : Con Tryz.prog 64 [QUD n rg ra rb rc,TRN m t h] (10000 * n + 10000 * m + 100000 ≤ BIG ∧ barC [rg,ra,rb,rc] = 0 ∧ trnF h t = true) (MT.tup2 (PLQ (n + 4 * m + 130) (ra.val * dirC h t.val) (ra.val * dirS h t.val)) (.ex (errV 70 (0)))):=.o2 fun hok h1 h2 hp=>by
  refine St.enter (N:=36) Tryz.func64 rfl rfl rfl hok (enter2 h1 h2) fun a=>?_
  have hb:=hp.2.1
  have ht:=trn_0 hp.2.2
  have hbt:=bt_0 hp.2.1 hp.2.2
  repeat' (first | refine W.run ?_ fun a w G=>?_ | refine W.mv fun a w G=>?_ | refine W.asg fun a w G=>?_ | refine W.bx fun b a w G=>?_ | (refine W.nn hK ?_;clear hK K) | refine W.reg fun K hK=>?_ | refine W.reg1 ?_ | refine W.nl ?_ | refine W.sq fun K hK=>?_ | refine W.ds ?_ (fun β a w G hu=>W.fin ?_ hu) mixedOrders (by kernel_rfl) | refine W.sk ?_ | (refine W.kn hK ?_;clear hK K) | refine W.cd (fun hc=>?_) (fun hc=>?_) | refine W.cb (fun hc=>?_) (fun hc=>?_) | refine W.al fun b a w G=>?_ | refine W.st fun w=>?_ | refine W.stp fun w=>?_ | refine W.bl ?_ | refine W.bn ?_ | refine W.ex ?_ | refine W.xt ?_ | refine W.xb ?_ | refine W.xo ?_ | refine W.rt ?_ | refine W.tr ?_ | refine W.br ?_ | refine W.rt1 rfl ?_ | refine W.rt2 rfl ?_ ?_ | refine W.rt3 rfl ?_ ?_ ?_ | clear hK K | clear hu | exact True.intro | exact Nat.le_trans (by clear hp;omega) hp | exact Nat.le_trans (by clear hp;omega) hp.1 | exact Nat.le_trans (by clear hp;omega) hp.2 | (clear hp;omega) | apply And.intro | refine GI.i fun _=>?_ | with_reducible rfl | decide | (simp only [List.length_cons,List.length_nil];omega))
  all_goals first | (exfalso;omega) | assumption | exact hp.2.2 | exact hp.2.1 | rfl
instance {n m : Nat} {rg ra rb rc t : FR} {h : Bool} {τ1 : MT} [j1 : NF τ1 (QUD n rg ra rb rc)] {τ2 : MT} [j2 : NF τ2 (TRN m t h)] : Con Tryz.prog 64 [τ1,τ2] (10000 * n + 10000 * m + 100000 ≤ BIG ∧ barC [rg,ra,rb,rc] = 0 ∧ trnF h t = true) (MT.tup2 (PLQ (n + 4 * m + 130) (ra.val * dirC h t.val) (ra.val * dirS h t.val)) (.ex (errV 70 (0)))):=.o2 fun hok h1 h2 hp=>w64.c2 hok (j1.h h1) (j2.h h2) hp
theorem w40 {n m : Nat} {rg ra rb rc t : FR} {h : Bool} : Con Tryz.prog 40 [QUD n rg ra rb rc,TRN m t h] (10000 * n + 10000 * m + 100000 ≤ BIG ∧ barC [rg,ra,rb,rc] = 0 ∧ trnF h t = true) (MT.tup2 (PTS [(some 6,PLQ (n + 4 * m + 130) (ra.val * dirC h t.val) (ra.val * dirS h t.val)),(some 6,PLQ (2 * n + 4 * m + 131) (wayX rg.val ra.val h t.val) (wayY ra.val h t.val)),(some 3,QC (8 * n + 16 * m + 525) (d2F (wayX rg.val ra.val h t.val) (wayY ra.val h t.val)))]) (.ex (errV 70 (0)))):=.o2 fun hok h1 h2 hp=>by
  refine St.enter (N:=38) Tryz.func40 rfl rfl rfl hok (enter2 h1 h2) fun a=>?_
  have hb:=hp.2.1
  have ht:=trn_0 hp.2.2
  have hbt:=bt_0 hp.2.1 hp.2.2
  repeat' (first | refine W.run ?_ fun a w G=>?_ | refine W.mv fun a w G=>?_ | refine W.asg fun a w G=>?_ | refine W.bx fun b a w G=>?_ | (refine W.nn hK ?_;clear hK K) | refine W.reg fun K hK=>?_ | refine W.reg1 ?_ | refine W.nl ?_ | refine W.sq fun K hK=>?_ | refine W.ds ?_ (fun β a w G hu=>W.fin ?_ hu) mixedOrders (by kernel_rfl) | refine W.sk ?_ | (refine W.kn hK ?_;clear hK K) | refine W.cd (fun hc=>?_) (fun hc=>?_) | refine W.cb (fun hc=>?_) (fun hc=>?_) | refine W.al fun b a w G=>?_ | refine W.st fun w=>?_ | refine W.stp fun w=>?_ | refine W.bl ?_ | refine W.bn ?_ | refine W.ex ?_ | refine W.xt ?_ | refine W.xb ?_ | refine W.xo ?_ | refine W.rt ?_ | refine W.tr ?_ | refine W.br ?_ | refine W.rt1 rfl ?_ | refine W.rt2 rfl ?_ ?_ | refine W.rt3 rfl ?_ ?_ ?_ | clear hK K | clear hu | exact True.intro | exact Nat.le_trans (by clear hp;omega) hp | exact Nat.le_trans (by clear hp;omega) hp.1 | exact Nat.le_trans (by clear hp;omega) hp.2 | (clear hp;omega) | apply And.intro | refine GI.i fun _=>?_ | with_reducible rfl | decide | (simp only [List.length_cons,List.length_nil];omega))
  all_goals first | (exfalso;omega) | assumption | exact hp.2.2 | exact hp.2.1 | rfl
instance {n m : Nat} {rg ra rb rc t : FR} {h : Bool} {τ1 : MT} [j1 : NF τ1 (QUD n rg ra rb rc)] {τ2 : MT} [j2 : NF τ2 (TRN m t h)] : Con Tryz.prog 40 [τ1,τ2] (10000 * n + 10000 * m + 100000 ≤ BIG ∧ barC [rg,ra,rb,rc] = 0 ∧ trnF h t = true) (MT.tup2 (PTS [(some 6,PLQ (n + 4 * m + 130) (ra.val * dirC h t.val) (ra.val * dirS h t.val)),(some 6,PLQ (2 * n + 4 * m + 131) (wayX rg.val ra.val h t.val) (wayY ra.val h t.val)),(some 3,QC (8 * n + 16 * m + 525) (d2F (wayX rg.val ra.val h t.val) (wayY ra.val h t.val)))]) (.ex (errV 70 (0)))):=.o2 fun hok h1 h2 hp=>w40.c2 hok (j1.h h1) (j2.h h2) hp
theorem w42 {n m : Nat} {rg ra rb rc : FR} {d : Rat} : Con Tryz.prog 42 [QUD n rg ra rb rc,QV m d] (100 * n + 100 * m + 1000 ≤ BIG) (QC (6 * n + 2 * m + 69) (discF rb.val rc.val d)):=.o2 fun hok h1 h2 hp=>by
  refine St.enter (N:=23) Tryz.func42 rfl rfl rfl hok (enter2 h1 h2) fun a=>?_
  repeat' (first | refine W.run ?_ fun a w G=>?_ | refine W.mv fun a w G=>?_ | refine W.asg fun a w G=>?_ | refine W.bx fun b a w G=>?_ | (refine W.nn hK ?_;clear hK K) | refine W.reg fun K hK=>?_ | refine W.reg1 ?_ | refine W.nl ?_ | refine W.sq fun K hK=>?_ | refine W.ds ?_ (fun β a w G hu=>W.fin ?_ hu) mixedOrders (by kernel_rfl) | refine W.sk ?_ | (refine W.kn hK ?_;clear hK K) | refine W.cd (fun hc=>?_) (fun hc=>?_) | refine W.cb (fun hc=>?_) (fun hc=>?_) | refine W.al fun b a w G=>?_ | refine W.st fun w=>?_ | refine W.stp fun w=>?_ | refine W.bl ?_ | refine W.bn ?_ | refine W.ex ?_ | refine W.xt ?_ | refine W.xb ?_ | refine W.xo ?_ | refine W.rt ?_ | refine W.tr ?_ | refine W.br ?_ | refine W.rt1 rfl ?_ | refine W.rt2 rfl ?_ ?_ | refine W.rt3 rfl ?_ ?_ ?_ | clear hK K | clear hu | exact True.intro | exact Nat.le_trans (by clear hp;omega) hp | exact Nat.le_trans (by clear hp;omega) hp.1 | exact Nat.le_trans (by clear hp;omega) hp.2 | (clear hp;omega) | apply And.intro | refine GI.i fun _=>?_ | with_reducible rfl | decide | (simp only [List.length_cons,List.length_nil];omega))
  all_goals rfl
instance {n m : Nat} {rg ra rb rc : FR} {d : Rat} {τ1 : MT} [j1 : NF τ1 (QUD n rg ra rb rc)] {τ2 : MT} [j2 : NQ τ2 (QV m d)] : Con Tryz.prog 42 [τ1,τ2] (100 * n + 100 * m + 1000 ≤ BIG) (QC (6 * n + 2 * m + 69) (discF rb.val rc.val d)):=.o2 fun hok h1 h2 hp=>w42.c2 hok (j1.h h1) (j2.h h2) hp
theorem w53 {n m : Nat} {rg ra rb rc t : FR} {h : Bool} : Con Tryz.prog 53 [QUD n rg ra rb rc,TRN m t h] (10000 * n + 10000 * m + 100000 ≤ BIG ∧ barC [rg,ra,rb,rc] = 0 ∧ trnF h t = true) (MT.tup2 (QC (22 * n + 32 * m + 1119) (dsc rg ra rb rc h t.val)) (.ex (errV 70 (0)))):=.o2 fun hok h1 h2 hp=>by
  refine St.enter (N:=22) Tryz.func53 rfl rfl rfl hok (enter2 h1 h2) fun a=>?_
  have hb:=hp.2.1
  have ht:=trn_0 hp.2.2
  have hbt:=bt_0 hp.2.1 hp.2.2
  repeat' (first | refine W.run ?_ fun a w G=>?_ | refine W.mv fun a w G=>?_ | refine W.asg fun a w G=>?_ | refine W.bx fun b a w G=>?_ | (refine W.nn hK ?_;clear hK K) | refine W.reg fun K hK=>?_ | refine W.reg1 ?_ | refine W.nl ?_ | refine W.sq fun K hK=>?_ | refine W.ds ?_ (fun β a w G hu=>W.fin ?_ hu) mixedOrders (by kernel_rfl) | refine W.sk ?_ | (refine W.kn hK ?_;clear hK K) | refine W.cd (fun hc=>?_) (fun hc=>?_) | refine W.cb (fun hc=>?_) (fun hc=>?_) | refine W.al fun b a w G=>?_ | refine W.st fun w=>?_ | refine W.stp fun w=>?_ | refine W.bl ?_ | refine W.bn ?_ | refine W.ex ?_ | refine W.xt ?_ | refine W.xb ?_ | refine W.xo ?_ | refine W.rt ?_ | refine W.tr ?_ | refine W.br ?_ | refine W.rt1 rfl ?_ | refine W.rt2 rfl ?_ ?_ | refine W.rt3 rfl ?_ ?_ ?_ | clear hK K | clear hu | exact True.intro | exact Nat.le_trans (by clear hp;omega) hp | exact Nat.le_trans (by clear hp;omega) hp.1 | exact Nat.le_trans (by clear hp;omega) hp.2 | (clear hp;omega) | apply And.intro | refine GI.i fun _=>?_ | with_reducible rfl | decide | (simp only [List.length_cons,List.length_nil];omega))
  all_goals first | (exfalso;omega) | assumption | exact hp.2.2 | exact hp.2.1 | rfl
instance {n m : Nat} {rg ra rb rc t : FR} {h : Bool} {τ1 : MT} [j1 : NF τ1 (QUD n rg ra rb rc)] {τ2 : MT} [j2 : NF τ2 (TRN m t h)] : Con Tryz.prog 53 [τ1,τ2] (10000 * n + 10000 * m + 100000 ≤ BIG ∧ barC [rg,ra,rb,rc] = 0 ∧ trnF h t = true) (MT.tup2 (QC (22 * n + 32 * m + 1119) (dsc rg ra rb rc h t.val)) (.ex (errV 70 (0)))):=.o2 fun hok h1 h2 hp=>w53.c2 hok (j1.h h1) (j2.h h2) hp
end Go.Proofs.YtpbkcbnghhodiaaGreat
set_option linter.unusedVariables false
set_option linter.unusedSimpArgs false
set_option maxHeartbeats 1000000
set_option maxRecDepth 100000
set_option synthInstance.maxSize 100000
set_option synthInstance.maxHeartbeats 400000
namespace Go.Proofs.YtpbkcbnghhodiaaGreat
open Go.RowKit (Below)
attribute [local irreducible] barC trnC btC ciF dsc enR enL cirs exC ofC ofI
theorem qud_pos {n : Nat} {a b c d : FR} {v : Value} {G : Gh} (h : (QUD n a b c d).t v G) : 1 ≤ n:=by
  obtain ⟨us,_,hl,hE⟩:=h
  match us,hl with
  | u :: us,_=>exact (hE 0 _ u rfl rfl).2.1
theorem w25 {n m : Nat} {rg ra rb rc t : FR} {h : Bool} : Con Tryz.prog 25 [QUD n rg ra rb rc,TRN m t h] (10000 * n + 10000 * m + 100000 ≤ BIG ∧ barC [rg,ra,rb,rc] = 0 ∧ trnF h t = true) (MT.tup2 (IT (dsc rg ra rb rc h t.val).num.sign) (.ex (errV 70 (0)))):=.o2 fun hok h1 h2 hp=>by
  refine St.enter (N:=17) Tryz.func25 rfl rfl rfl hok (enter2 h1 h2) fun a=>?_
  have hb:=hp.2.1
  have ht:=trn_0 hp.2.2
  have hbt:=bt_0 hp.2.1 hp.2.2
  repeat' (first | refine W.run ?_ fun a w G=>?_ | refine W.mv fun a w G=>?_ | refine W.asg fun a w G=>?_ | refine W.bx fun b a w G=>?_ | (refine W.nn hK ?_;clear hK K) | refine W.reg fun K hK=>?_ | refine W.reg1 ?_ | refine W.nl ?_ | refine W.sq fun K hK=>?_ | refine W.ds ?_ (fun β a w G hu=>W.fin ?_ hu) mixedOrders (by kernel_rfl) | refine W.sk ?_ | (refine W.kn hK ?_;clear hK K) | refine W.cd (fun hc=>?_) (fun hc=>?_) | refine W.cb (fun hc=>?_) (fun hc=>?_) | refine W.al fun b a w G=>?_ | refine W.st fun w=>?_ | refine W.stp fun w=>?_ | refine W.bl ?_ | refine W.bn ?_ | refine W.ex ?_ | refine W.xt ?_ | refine W.xb ?_ | refine W.xo ?_ | refine W.rt ?_ | refine W.tr ?_ | refine W.br ?_ | refine W.rt1 rfl ?_ | refine W.rt2 rfl ?_ ?_ | refine W.rt3 rfl ?_ ?_ ?_ | clear hK K | clear hu | exact True.intro | exact Nat.le_trans (by clear hp;omega) hp | exact Nat.le_trans (by clear hp;omega) hp.1 | exact Nat.le_trans (by clear hp;omega) hp.2 | (clear hp;omega) | apply And.intro | refine GI.i fun _=>?_ | with_reducible rfl | decide | (simp only [List.length_cons,List.length_nil];omega))
  all_goals first | (exfalso;omega) | assumption | exact hp.2.2 | exact hp.2.1 | rfl
instance {n m : Nat} {rg ra rb rc t : FR} {h : Bool} {τ1 : MT} [j1 : NF τ1 (QUD n rg ra rb rc)] {τ2 : MT} [j2 : NF τ2 (TRN m t h)] : Con Tryz.prog 25 [τ1,τ2] (10000 * n + 10000 * m + 100000 ≤ BIG ∧ barC [rg,ra,rb,rc] = 0 ∧ trnF h t = true) (MT.tup2 (IT (dsc rg ra rb rc h t.val).num.sign) (.ex (errV 70 (0)))):=.o2 fun hok h1 h2 hp=>w25.c2 hok (j1.h h1) (j2.h h2) hp
instance {n : Nat} {rg ra rb rc : FR} {τ1 : MT} [j1 : NF τ1 (QUD n rg ra rb rc)] : Con Tryz.prog 52 [τ1] (1000 * n + 1000 ≤ BIG) (.ex (errV 70 (chkF [rg,ra,rb,rc]))):=.o1 fun hok h1 hp=>xCheck_ok hok (j1.h h1) hp (qud_pos (j1.h h1))
theorem w24 {n : Nat} {rg ra rb rc : FR} : Con Tryz.prog 24 [QUD n rg ra rb rc] (100000 * n + 10000000 ≤ BIG) (.ex (errV 70 (ciF rg ra rb rc))):=.o1 fun hok h1 hp=>by
  refine St.enter (N:=35) Tryz.func24 rfl rfl rfl hok (enter1 h1) fun a=>?_
  repeat' (first | refine W.run ?_ fun a w G=>?_ | refine W.mv fun a w G=>?_ | refine W.asg fun a w G=>?_ | refine W.bx fun b a w G=>?_ | (refine W.nn hK ?_;clear hK K) | refine W.reg fun K hK=>?_ | refine W.reg1 ?_ | refine W.nl ?_ | refine W.sq fun K hK=>?_ | refine W.ds ?_ (fun β a w G hu=>W.fin ?_ hu) mixedOrders (by kernel_rfl) | refine W.sk ?_ | (refine W.kn hK ?_;clear hK K) | refine W.cd (fun hc=>?_) (fun hc=>?_) | refine W.cb (fun hc=>?_) (fun hc=>?_) | refine W.al fun b a w G=>?_ | refine W.st fun w=>?_ | refine W.stp fun w=>?_ | refine W.bl ?_ | refine W.bn ?_ | refine W.ex ?_ | refine W.xt ?_ | refine W.xb ?_ | refine W.xo ?_ | refine W.rt ?_ | refine W.tr ?_ | refine W.br ?_ | refine W.rt1 rfl ?_ | refine W.rt2 rfl ?_ ?_ | refine W.rt3 rfl ?_ ?_ ?_ | clear hK K | clear hu | exact True.intro | exact Nat.le_trans (by clear hp;omega) hp | exact Nat.le_trans (by clear hp;omega) hp.1 | exact Nat.le_trans (by clear hp;omega) hp.2 | (clear hp;omega) | apply And.intro | refine GI.i fun _=>?_ | with_reducible rfl | decide | (simp only [List.length_cons,List.length_nil];omega))
  all_goals first
    | exact ci_b hc
    | (have hb : barC [rg, ra, rb, rc] = 0 := by omega
       rw [qu_sq hb] at *
       first
       | exact ci_16 hb hc
       | (have hk := chk_two (sq_pos hb) ‹_›
          rw [Bool.and_eq_true,decide_eq_true_eq,decide_eq_true_eq] at hc
          exact (ci_15 hb hk hc.1 hc.2).symm)
       | (have hk := chk_two (sq_pos hb) ‹_›
          exact ci_0 hb hk (by simpa using hc)))
instance {n : Nat} {rg ra rb rc : FR} {τ1 : MT} [j1 : NF τ1 (QUD n rg ra rb rc)] : Con Tryz.prog 24 [τ1] (100000 * n + 10000000 ≤ BIG) (.ex (errV 70 (ciF rg ra rb rc))):=.o1 fun hok h1 hp=>w24.c1 hok (j1.h h1) hp
theorem w8 {n : Nat} {rg ra rb rc : FR} : Con Tryz.prog 8 [QUD n rg ra rb rc] (100000 * n + 10000000 ≤ BIG) (MT.tup3 (IT (enR rg ra rb rc)) (IT (enL rg ra rb rc)) (.ex (errV 70 (ciF rg ra rb rc)))):=.o1 fun hok h1 hp=>by
  refine St.enter (N:=31) Tryz.func8 rfl rfl rfl hok (enter1 h1) fun a=>?_
  repeat' (first | refine W.run ?_ fun a w G=>?_ | refine W.mv fun a w G=>?_ | refine W.asg fun a w G=>?_ | refine W.bx fun b a w G=>?_ | (refine W.nn hK ?_;clear hK K) | refine W.reg fun K hK=>?_ | refine W.reg1 ?_ | refine W.nl ?_ | refine W.sq fun K hK=>?_ | refine W.ds ?_ (fun β a w G hu=>W.fin ?_ hu) mixedOrders (by kernel_rfl) | refine W.sk ?_ | (refine W.kn hK ?_;clear hK K) | refine W.cd (fun hc=>?_) (fun hc=>?_) | refine W.cb (fun hc=>?_) (fun hc=>?_) | refine W.al fun b a w G=>?_ | refine W.st fun w=>?_ | refine W.stp fun w=>?_ | refine W.bl ?_ | refine W.bn ?_ | refine W.ex ?_ | refine W.xt ?_ | refine W.xb ?_ | refine W.xo ?_ | refine W.rt ?_ | refine W.tr ?_ | refine W.br ?_ | refine W.rt1 rfl ?_ | refine W.rt2 rfl ?_ ?_ | refine W.rt3 rfl ?_ ?_ ?_ | clear hK K | clear hu | exact True.intro | exact Nat.le_trans (by clear hp;omega) hp | exact Nat.le_trans (by clear hp;omega) hp.1 | exact Nat.le_trans (by clear hp;omega) hp.2 | (clear hp;omega) | apply And.intro | refine GI.i fun _=>?_ | with_reducible rfl | decide | (simp only [List.length_cons,List.length_nil];omega))
  all_goals first
    | exact enR_bad hc | exact enL_bad hc | exact enR_ok (by omega) | exact enL_ok (by omega) | exact ci_bar (by omega) | exact trn_zero | (exfalso;omega)
instance {n : Nat} {rg ra rb rc : FR} {τ1 : MT} [j1 : NF τ1 (QUD n rg ra rb rc)] : Con Tryz.prog 8 [τ1] (100000 * n + 10000000 ≤ BIG) (MT.tup3 (IT (enR rg ra rb rc)) (IT (enL rg ra rb rc)) (.ex (errV 70 (ciF rg ra rb rc)))):=.o1 fun hok h1 hp=>w8.c1 hok (j1.h h1) hp
theorem w9 {n : Nat} {rg ra rb rc : FR} : Con Tryz.prog 9 [QUD n rg ra rb rc] (100000 * n + 10000000 ≤ BIG) (MT.tup2 (LS (some 3) ((cirs rg ra rb rc).map CIR)) (.ex (errV 70 (ciF rg ra rb rc)))):=.o1 fun hok h1 hp=>by
  refine St.enter (N:=47) Tryz.func9 rfl rfl rfl hok (enter1 h1) fun a=>?_
  repeat' (first | refine W.run ?_ fun a w G=>?_ | refine W.mv fun a w G=>?_ | refine W.asg fun a w G=>?_ | refine W.bx fun b a w G=>?_ | (refine W.nn hK ?_;clear hK K) | refine W.reg fun K hK=>?_ | refine W.reg1 ?_ | refine W.nl ?_ | refine W.sq fun K hK=>?_ | refine W.ds ?_ (fun β a w G hu=>W.fin ?_ hu) mixedOrders (by kernel_rfl) | refine W.sk ?_ | (refine W.kn hK ?_;clear hK K) | refine W.cd (fun hc=>?_) (fun hc=>?_) | refine W.cb (fun hc=>?_) (fun hc=>?_) | refine W.al fun b a w G=>?_ | refine W.st fun w=>?_ | refine W.stp fun w=>?_ | refine W.bl ?_ | refine W.bn ?_ | refine W.ex ?_ | refine W.xt ?_ | refine W.xb ?_ | refine W.xo ?_ | refine W.rt ?_ | refine W.tr ?_ | refine W.br ?_ | refine W.rt1 rfl ?_ | refine W.rt2 rfl ?_ ?_ | refine W.rt3 rfl ?_ ?_ ?_ | clear hK K | clear hu | exact True.intro | exact Nat.le_trans (by clear hp;omega) hp | exact Nat.le_trans (by clear hp;omega) hp.1 | exact Nat.le_trans (by clear hp;omega) hp.2 | (clear hp;omega) | apply And.intro | refine GI.i fun _=>?_ | with_reducible rfl | decide | (simp only [List.length_cons,List.length_nil];omega))
  all_goals first | exact (cirs_bad hc).symm | (rw [cirs_ok (by omega)];unfold cirF;grind)
instance {n : Nat} {rg ra rb rc : FR} {τ1 : MT} [j1 : NF τ1 (QUD n rg ra rb rc)] : Con Tryz.prog 9 [τ1] (100000 * n + 10000000 ≤ BIG) (MT.tup2 (LS (some 3) ((cirs rg ra rb rc).map CIR)) (.ex (errV 70 (ciF rg ra rb rc)))):=.o1 fun hok h1 hp=>w9.c1 hok (j1.h h1) hp
theorem w33 {n m : Nat} {rg ra rb rc t : FR} {h : Bool} {md : Int} : Con Tryz.prog 33 [QUD n rg ra rb rc,BST m t h md] (100000 * n + 100000 * m + 10000000 ≤ BIG ∧ barC [rg,ra,rb,rc] = 0 ∧ trnF h t = true) (.ex (errV 70 (exC rg ra rb rc h t md))):=.o2 fun hok h1 h2 hp=>by
  refine St.enter (N:=55) Tryz.func33 rfl rfl rfl hok (enter2 h1 h2) fun a=>?_
  have hb:=hp.2.1
  have ht:=trn_0 hp.2.2
  have hbt:=bt_0 hp.2.1 hp.2.2
  repeat' (first | refine W.run ?_ fun a w G=>?_ | refine W.mv fun a w G=>?_ | refine W.asg fun a w G=>?_ | refine W.bx fun b a w G=>?_ | (refine W.nn hK ?_;clear hK K) | refine W.reg fun K hK=>?_ | refine W.reg1 ?_ | refine W.nl ?_ | refine W.sq fun K hK=>?_ | refine W.ds ?_ (fun β a w G hu=>W.fin ?_ hu) mixedOrders (by kernel_rfl) | refine W.sk ?_ | (refine W.kn hK ?_;clear hK K) | refine W.cd (fun hc=>?_) (fun hc=>?_) | refine W.cb (fun hc=>?_) (fun hc=>?_) | refine W.al fun b a w G=>?_ | refine W.st fun w=>?_ | refine W.stp fun w=>?_ | refine W.bl ?_ | refine W.bn ?_ | refine W.ex ?_ | refine W.xt ?_ | refine W.xb ?_ | refine W.xo ?_ | refine W.rt ?_ | refine W.tr ?_ | refine W.br ?_ | refine W.rt1 rfl ?_ | refine W.rt2 rfl ?_ ?_ | refine W.rt3 rfl ?_ ?_ ?_ | clear hK K | clear hu | exact True.intro | exact Nat.le_trans (by clear hp;omega) hp | exact Nat.le_trans (by clear hp;omega) hp.1 | exact Nat.le_trans (by clear hp;omega) hp.2 | (clear hp;omega) | apply And.intro | refine GI.i fun _=>?_ | with_reducible rfl | decide | (simp only [List.length_cons,List.length_nil];omega))
  all_goals first | exact hp.2.2 | (unfold exC exK;grind)
instance {n m : Nat} {rg ra rb rc t : FR} {h : Bool} {md : Int} {τ1 : MT} [j1 : NF τ1 (QUD n rg ra rb rc)] {τ2 : MT} [j2 : NF τ2 (BST m t h md)] : Con Tryz.prog 33 [τ1,τ2] (100000 * n + 100000 * m + 10000000 ≤ BIG ∧ barC [rg,ra,rb,rc] = 0 ∧ trnF h t = true) (.ex (errV 70 (exC rg ra rb rc h t md))):=.o2 fun hok h1 h2 hp=>w33.c2 hok (j1.h h1) (j2.h h2) hp
theorem w14 {n m : Nat} {rg ra rb rc t : FR} {h : Bool} {md : Int} : Con Tryz.prog 14 [QUD n rg ra rb rc,BST m t h md] (100000 * n + 100000 * m + 10000000 ≤ BIG) (MT.tup2 (IT (ofI rg ra rb rc h t md)) (.ex (errV 70 (ofC rg ra rb rc h t md)))):=.o2 fun hok h1 h2 hp=>by
  refine St.enter (N:=63) Tryz.func14 rfl rfl rfl hok (enter2 h1 h2) fun a=>?_
  repeat' (first | refine W.run ?_ fun a w G=>?_ | refine W.mv fun a w G=>?_ | refine W.asg fun a w G=>?_ | refine W.bx fun b a w G=>?_ | (refine W.nn hK ?_;clear hK K) | refine W.reg fun K hK=>?_ | refine W.reg1 ?_ | refine W.nl ?_ | refine W.sq fun K hK=>?_ | refine W.ds ?_ (fun β a w G hu=>W.fin ?_ hu) mixedOrders (by kernel_rfl) | refine W.sk ?_ | (refine W.kn hK ?_;clear hK K) | refine W.cd (fun hc=>?_) (fun hc=>?_) | refine W.cb (fun hc=>?_) (fun hc=>?_) | refine W.al fun b a w G=>?_ | refine W.st fun w=>?_ | refine W.stp fun w=>?_ | refine W.bl ?_ | refine W.bn ?_ | refine W.ex ?_ | refine W.xt ?_ | refine W.xb ?_ | refine W.xo ?_ | refine W.rt ?_ | refine W.tr ?_ | refine W.br ?_ | refine W.rt1 rfl ?_ | refine W.rt2 rfl ?_ ?_ | refine W.rt3 rfl ?_ ?_ ?_ | clear hK K | clear hu | exact True.intro | exact Nat.le_trans (by clear hp;omega) hp | exact Nat.le_trans (by clear hp;omega) hp.1 | exact Nat.le_trans (by clear hp;omega) hp.2 | (clear hp;omega) | apply And.intro | refine GI.i fun _=>?_ | with_reducible rfl | decide | (simp only [List.length_cons,List.length_nil];omega))
  all_goals first
    | exact ci_bar (by omega)
    | exact of_trn (by assumption)
    | exact cirs_pos (by omega)
    | grind [ofI,ofC,ofK,of_trn,trn_0,trn_two]
instance {n m : Nat} {rg ra rb rc t : FR} {h : Bool} {md : Int} {τ1 : MT} [j1 : NF τ1 (QUD n rg ra rb rc)] {τ2 : MT} [j2 : NF τ2 (BST m t h md)] : Con Tryz.prog 14 [τ1,τ2] (100000 * n + 100000 * m + 10000000 ≤ BIG) (MT.tup2 (IT (ofI rg ra rb rc h t md)) (.ex (errV 70 (ofC rg ra rb rc h t md)))):=.o2 fun hok h1 h2 hp=>w14.c2 hok (j1.h h1) (j2.h h2) hp
def boC (g a b c : FR) (h : Bool) (t : FR) (m : Int) (h2 : Bool) (t2 : FR) (m2 : Int) : Int:=if ofC g a b c h t m = 0 then ofC g a b c h2 t2 m2 else ofC g a b c h t m
def boI (g a b c : FR) (h : Bool) (t : FR) (m : Int) (h2 : Bool) (t2 : FR) (m2 : Int) : Int:=if boC g a b c h t m h2 t2 m2 = 0 then ofI g a b c h t m else 0
def boK (g a b c : FR) (h : Bool) (t : FR) (m : Int) (h2 : Bool) (t2 : FR) (m2 : Int) : Int:=if boC g a b c h t m h2 t2 m2 = 0 then ofI g a b c h2 t2 m2 else 0
theorem w35 {n m m2 : Nat} {rg ra rb rc t t2 : FR} {h h2 : Bool} {md md2 : Int} : Con Tryz.prog 35 [QUD n rg ra rb rc,BST m t h md,BST m2 t2 h2 md2] (100000 * n + 100000 * m + 100000 * m2 + 10000000 ≤ BIG) (MT.tup3 (IT (boI rg ra rb rc h t md h2 t2 md2)) (IT (boK rg ra rb rc h t md h2 t2 md2)) (.ex (errV 70 (boC rg ra rb rc h t md h2 t2 md2)))):=.o3 fun hok h1 h2 h3 hp=>by
  refine St.enter (N:=32) Tryz.func35 rfl rfl rfl hok (enter3 h1 h2 h3) fun a=>?_
  repeat' (first | refine W.run ?_ fun a w G=>?_ | refine W.mv fun a w G=>?_ | refine W.asg fun a w G=>?_ | refine W.bx fun b a w G=>?_ | (refine W.nn hK ?_;clear hK K) | refine W.reg fun K hK=>?_ | refine W.reg1 ?_ | refine W.nl ?_ | refine W.sq fun K hK=>?_ | refine W.ds ?_ (fun β a w G hu=>W.fin ?_ hu) mixedOrders (by kernel_rfl) | refine W.sk ?_ | (refine W.kn hK ?_;clear hK K) | refine W.cd (fun hc=>?_) (fun hc=>?_) | refine W.cb (fun hc=>?_) (fun hc=>?_) | refine W.al fun b a w G=>?_ | refine W.st fun w=>?_ | refine W.stp fun w=>?_ | refine W.bl ?_ | refine W.bn ?_ | refine W.ex ?_ | refine W.xt ?_ | refine W.xb ?_ | refine W.xo ?_ | refine W.rt ?_ | refine W.tr ?_ | refine W.br ?_ | refine W.rt1 rfl ?_ | refine W.rt2 rfl ?_ ?_ | refine W.rt3 rfl ?_ ?_ ?_ | clear hK K | clear hu | exact True.intro | exact Nat.le_trans (by clear hp;omega) hp | exact Nat.le_trans (by clear hp;omega) hp.1 | exact Nat.le_trans (by clear hp;omega) hp.2 | (clear hp;omega) | apply And.intro | refine GI.i fun _=>?_ | with_reducible rfl | decide | (simp only [List.length_cons,List.length_nil];omega))
  all_goals grind [boC,boI,boK]
instance {n m m2 : Nat} {rg ra rb rc t t2 : FR} {h h2 : Bool} {md md2 : Int} {τ1 : MT} [j1 : NF τ1 (QUD n rg ra rb rc)] {τ2 : MT} [j2 : NF τ2 (BST m t h md)] {τ3 : MT} [j3 : NF τ3 (BST m2 t2 h2 md2)] : Con Tryz.prog 35 [τ1,τ2,τ3] (100000 * n + 100000 * m + 100000 * m2 + 10000000 ≤ BIG) (MT.tup3 (IT (boI rg ra rb rc h t md h2 t2 md2)) (IT (boK rg ra rb rc h t md h2 t2 md2)) (.ex (errV 70 (boC rg ra rb rc h t md h2 t2 md2)))):=.o3 fun hok h1 h2 h3 hp=>w35.c3 hok (j1.h h1) (j2.h h2) (j3.h h3) hp
theorem w15 {n m m2 : Nat} {rg ra rb rc t t2 : FR} {h h2 : Bool} {md md2 : Int} : Con Tryz.prog 15 [QUD n rg ra rb rc,BST m t h md,BST m2 t2 h2 md2] (100000 * n + 100000 * m + 100000 * m2 + 10000000 ≤ BIG) (MT.tup2 (BT (decide (boC rg ra rb rc h t md h2 t2 md2 = 0) && decide (boI rg ra rb rc h t md h2 t2 md2 = boK rg ra rb rc h t md h2 t2 md2))) (.ex (errV 70 (boC rg ra rb rc h t md h2 t2 md2)))):=.o3 fun hok h1 h2 h3 hp=>by
  refine St.enter (N:=27) Tryz.func15 rfl rfl rfl hok (enter3 h1 h2 h3) fun a=>?_
  repeat' (first | refine W.run ?_ fun a w G=>?_ | refine W.mv fun a w G=>?_ | refine W.asg fun a w G=>?_ | refine W.bx fun b a w G=>?_ | (refine W.nn hK ?_;clear hK K) | refine W.reg fun K hK=>?_ | refine W.reg1 ?_ | refine W.nl ?_ | refine W.sq fun K hK=>?_ | refine W.ds ?_ (fun β a w G hu=>W.fin ?_ hu) mixedOrders (by kernel_rfl) | refine W.sk ?_ | (refine W.kn hK ?_;clear hK K) | refine W.cd (fun hc=>?_) (fun hc=>?_) | refine W.cb (fun hc=>?_) (fun hc=>?_) | refine W.al fun b a w G=>?_ | refine W.st fun w=>?_ | refine W.stp fun w=>?_ | refine W.bl ?_ | refine W.bn ?_ | refine W.ex ?_ | refine W.xt ?_ | refine W.xb ?_ | refine W.xo ?_ | refine W.rt ?_ | refine W.tr ?_ | refine W.br ?_ | refine W.rt1 rfl ?_ | refine W.rt2 rfl ?_ ?_ | refine W.rt3 rfl ?_ ?_ ?_ | clear hK K | clear hu | exact True.intro | exact Nat.le_trans (by clear hp;omega) hp | exact Nat.le_trans (by clear hp;omega) hp.1 | exact Nat.le_trans (by clear hp;omega) hp.2 | (clear hp;omega) | apply And.intro | refine GI.i fun _=>?_ | with_reducible rfl | decide | (simp only [List.length_cons,List.length_nil];omega))
instance {n m m2 : Nat} {rg ra rb rc t t2 : FR} {h h2 : Bool} {md md2 : Int} {τ1 : MT} [j1 : NF τ1 (QUD n rg ra rb rc)] {τ2 : MT} [j2 : NF τ2 (BST m t h md)] {τ3 : MT} [j3 : NF τ3 (BST m2 t2 h2 md2)] : Con Tryz.prog 15 [τ1,τ2,τ3] (100000 * n + 100000 * m + 100000 * m2 + 10000000 ≤ BIG) (MT.tup2 (BT (decide (boC rg ra rb rc h t md h2 t2 md2 = 0) && decide (boI rg ra rb rc h t md h2 t2 md2 = boK rg ra rb rc h t md h2 t2 md2))) (.ex (errV 70 (boC rg ra rb rc h t md h2 t2 md2)))):=.o3 fun hok h1 h2 h3 hp=>w15.c3 hok (j1.h h1) (j2.h h2) (j3.h h3) hp
theorem w16 {n m m2 : Nat} {rg ra rb rc t t2 : FR} {h h2 : Bool} {md md2 : Int} : Con Tryz.prog 16 [QUD n rg ra rb rc,BST m t h md,BST m2 t2 h2 md2] (100000 * n + 100000 * m + 100000 * m2 + 10000000 ≤ BIG) (MT.tup2 (BT (decide (boC rg ra rb rc h t md h2 t2 md2 = 0) && decide (boI rg ra rb rc h t md h2 t2 md2 = boK rg ra rb rc h t md h2 t2 md2) && decide (md = md2) && decide (md ≠ 0))) (.ex (errV 70 (boC rg ra rb rc h t md h2 t2 md2)))):=.o3 fun hok h1 h2 h3 hp=>by
  refine St.enter (N:=39) Tryz.func16 rfl rfl rfl hok (enter3 h1 h2 h3) fun a=>?_
  repeat' (first | refine W.run ?_ fun a w G=>?_ | refine W.mv fun a w G=>?_ | refine W.asg fun a w G=>?_ | refine W.bx fun b a w G=>?_ | (refine W.nn hK ?_;clear hK K) | refine W.reg fun K hK=>?_ | refine W.reg1 ?_ | refine W.nl ?_ | refine W.sq fun K hK=>?_ | refine W.ds ?_ (fun β a w G hu=>W.fin ?_ hu) mixedOrders (by kernel_rfl) | refine W.sk ?_ | (refine W.kn hK ?_;clear hK K) | refine W.cd (fun hc=>?_) (fun hc=>?_) | refine W.cb (fun hc=>?_) (fun hc=>?_) | refine W.al fun b a w G=>?_ | refine W.st fun w=>?_ | refine W.stp fun w=>?_ | refine W.bl ?_ | refine W.bn ?_ | refine W.ex ?_ | refine W.xt ?_ | refine W.xb ?_ | refine W.xo ?_ | refine W.rt ?_ | refine W.tr ?_ | refine W.br ?_ | refine W.rt1 rfl ?_ | refine W.rt2 rfl ?_ ?_ | refine W.rt3 rfl ?_ ?_ ?_ | clear hK K | clear hu | exact True.intro | exact Nat.le_trans (by clear hp;omega) hp | exact Nat.le_trans (by clear hp;omega) hp.1 | exact Nat.le_trans (by clear hp;omega) hp.2 | (clear hp;omega) | apply And.intro | refine GI.i fun _=>?_ | with_reducible rfl | decide | (simp only [List.length_cons,List.length_nil];omega))
instance {n m m2 : Nat} {rg ra rb rc t t2 : FR} {h h2 : Bool} {md md2 : Int} {τ1 : MT} [j1 : NF τ1 (QUD n rg ra rb rc)] {τ2 : MT} [j2 : NF τ2 (BST m t h md)] {τ3 : MT} [j3 : NF τ3 (BST m2 t2 h2 md2)] : Con Tryz.prog 16 [τ1,τ2,τ3] (100000 * n + 100000 * m + 100000 * m2 + 10000000 ≤ BIG) (MT.tup2 (BT (decide (boC rg ra rb rc h t md h2 t2 md2 = 0) && decide (boI rg ra rb rc h t md h2 t2 md2 = boK rg ra rb rc h t md h2 t2 md2) && decide (md = md2) && decide (md ≠ 0))) (.ex (errV 70 (boC rg ra rb rc h t md h2 t2 md2)))):=.o3 fun hok h1 h2 h3 hp=>w16.c3 hok (j1.h h1) (j2.h h2) (j3.h h3) hp
end Go.Proofs.YtpbkcbnghhodiaaGreat
namespace Go.Proofs.YtpbkcbnghhodiaaGreat
def sw1 (xs : List Rat) (o : List Nat) (i : Nat) : List Nat:=if cmpQ (xs.getD (o.getD i default) default) (xs.getD (o.getD (i + 1) default) default) > 0 then (o.set i (o.getD (i + 1) default)).set (i + 1) (o.getD i default) else o
def bubP (xs : List Rat) (o : List Nat) : Nat → List Nat
  | 0=>o
  | k + 1=>sw1 xs (bubP xs o k) k
def bub (xs : List Rat) : Nat → List Nat
  | 0=>[0,1,2,3]
  | n + 1=>bubP xs (bub xs n) 3
theorem cmpQ_gt0 {x y : Rat} : cmpQ x y > 0 ↔ y < x:=by unfold cmpQ;split <;> (try split) <;> simp_all <;> grind
section
variable {xs : List Rat} {a b c d : Nat}
def st2 (xs : List Rat) (p q : Nat) : Prop:=xs.getD p default = xs.getD q default → p < q
def stb (xs : List Rat) (a b c d : Nat) : Prop:=st2 xs a b ∧ st2 xs a c ∧ st2 xs a d ∧ st2 xs b c ∧ st2 xs b d ∧ st2 xs c d
theorem bef_keep (h : st2 xs a b) (k : ¬ cmpQ (xs.getD a default) (xs.getD b default) > 0) : befR xs a b:=by
  rw [cmpQ_gt0] at k;unfold st2 at h;unfold befR;split
  · grind
  · rename_i n;rcases Rat.le_iff_lt_or_eq.1 (Rat.not_lt.1 k) with e | e
    · exact e
    · exact absurd (h e) n
theorem bef_swap (k : cmpQ (xs.getD a default) (xs.getD b default) > 0) : befR xs b a ∧ st2 xs b a:=by
  rw [cmpQ_gt0] at k
  refine ⟨?_,fun e=>by grind⟩
  unfold befR;split
  · grind
  · exact k
theorem sw_0 (h : stb xs a b c d) : (sw1 xs [a,b,c,d] 0 = [a,b,c,d] ∧ befR xs a b) ∨ (sw1 xs [a,b,c,d] 0 = [b,a,c,d] ∧ befR xs b a ∧ [b,a,c,d].Perm [a,b,c,d] ∧ stb xs b a c d):=by
  obtain ⟨h1,h2,h3,h4,h5,h6⟩:=h
  show ((if cmpQ (xs.getD a default) (xs.getD b default) > 0 then [b,a,c,d] else [a,b,c,d]) = _ ∧ _) ∨ ((if cmpQ (xs.getD a default) (xs.getD b default) > 0 then [b,a,c,d] else [a,b,c,d]) = _ ∧ _)
  by_cases k : cmpQ (xs.getD a default) (xs.getD b default) > 0
  · rw [if_pos k];exact .inr ⟨rfl,(bef_swap k).1,.swap ..,(bef_swap k).2,h4,h5,h2,h3,h6⟩
  · rw [if_neg k];exact .inl ⟨rfl,bef_keep h1 k⟩
theorem sw_1 (h : stb xs a b c d) : (sw1 xs [a,b,c,d] 1 = [a,b,c,d] ∧ befR xs b c) ∨ (sw1 xs [a,b,c,d] 1 = [a,c,b,d] ∧ befR xs c b ∧ [a,c,b,d].Perm [a,b,c,d] ∧ stb xs a c b d):=by
  obtain ⟨h1,h2,h3,h4,h5,h6⟩:=h
  show ((if cmpQ (xs.getD b default) (xs.getD c default) > 0 then [a,c,b,d] else [a,b,c,d]) = _ ∧ _) ∨ ((if cmpQ (xs.getD b default) (xs.getD c default) > 0 then [a,c,b,d] else [a,b,c,d]) = _ ∧ _)
  by_cases k : cmpQ (xs.getD b default) (xs.getD c default) > 0
  · rw [if_pos k];exact .inr ⟨rfl,(bef_swap k).1,.cons _ (.swap ..),h2,h1,h3,(bef_swap k).2,h6,h5⟩
  · rw [if_neg k];exact .inl ⟨rfl,bef_keep h4 k⟩
theorem sw_2 (h : stb xs a b c d) : (sw1 xs [a,b,c,d] 2 = [a,b,c,d] ∧ befR xs c d) ∨ (sw1 xs [a,b,c,d] 2 = [a,b,d,c] ∧ befR xs d c ∧ [a,b,d,c].Perm [a,b,c,d] ∧ stb xs a b d c):=by
  obtain ⟨h1,h2,h3,h4,h5,h6⟩:=h
  show ((if cmpQ (xs.getD c default) (xs.getD d default) > 0 then [a,b,d,c] else [a,b,c,d]) = _ ∧ _) ∨ ((if cmpQ (xs.getD c default) (xs.getD d default) > 0 then [a,b,d,c] else [a,b,c,d]) = _ ∧ _)
  by_cases k : cmpQ (xs.getD c default) (xs.getD d default) > 0
  · rw [if_pos k];exact .inr ⟨rfl,(bef_swap k).1,.cons _ (.cons _ (.swap ..)),h1,h3,h2,h5,h4,(bef_swap k).2⟩
  · rw [if_neg k];exact .inl ⟨rfl,bef_keep h6 k⟩
def top1 (xs : List Rat) (a b c d : Nat) : Prop:=befR xs a d ∧ befR xs b d ∧ befR xs c d
def top2 (xs : List Rat) (a b c d : Nat) : Prop:=top1 xs a b c d ∧ befR xs a c ∧ befR xs b c
def top3 (xs : List Rat) (a b c d : Nat) : Prop:=top2 xs a b c d ∧ befR xs a b
theorem pass_ok (h : stb xs a b c d) : ∃ a' b' c' d',bubP xs [a,b,c,d] 3 = [a',b',c',d'] ∧ [a',b',c',d'].Perm [a,b,c,d] ∧ stb xs a' b' c' d' ∧ top1 xs a' b' c' d' ∧ (top1 xs a b c d → top2 xs a' b' c' d') ∧ (top2 xs a b c d → top3 xs a' b' c' d'):=by
  have e : bubP xs [a,b,c,d] 3 = sw1 xs (sw1 xs (sw1 xs [a,b,c,d] 0) 1) 2:=rfl
  rw [e]
  have T:=@bef_trans xs
  have A:=@bef_asymm xs
  have p1:=List.Perm.refl [a,b,c,d]
  rcases sw_0 h with ⟨e1,b1⟩ | ⟨e1,b1,p,h⟩ <;> rw [e1]
  all_goals try replace p1:=p.trans p1
  all_goals rcases sw_1 h with ⟨e2,b2⟩ | ⟨e2,b2,p,h⟩ <;> rw [e2]
  all_goals try replace p1:=p.trans p1
  all_goals rcases sw_2 h with ⟨e3,b3⟩ | ⟨e3,b3,p,h⟩ <;> rw [e3]
  all_goals try replace p1:=p.trans p1
  all_goals refine ⟨_,_,_,_,rfl,p1,h,?_⟩
  all_goals unfold top3 top2 top1;clear p1 h e e1 e2 e3
  all_goals grind
end
theorem bub_ok (xs : List Rat) : bub xs 4 = orderF xs:=by
  obtain ⟨a,b,c,d,e1,p1,h1,t1,_⟩:=pass_ok (xs:=xs) (a:=0) (b:=1) (c:=2) (d:=3) ⟨fun _=>by decide,fun _=>by decide,fun _=>by decide,fun _=>by decide,fun _=>by decide,fun _=>by decide⟩
  obtain ⟨a2,b2,c2,d2,e2,p2,h2,_,t2,_⟩:=pass_ok h1
  obtain ⟨a3,b3,c3,d3,e3,p3,h3,_,_,t3⟩:=pass_ok h2
  obtain ⟨a4,b4,c4,d4,e4,p4,_,_,_,t4⟩:=pass_ok h3
  have ht:=t4 (t3 (t2 t1)).1
  have e : bub xs 4 = [a4,b4,c4,d4]:=by
    show bubP xs (bubP xs (bubP xs (bubP xs [0,1,2,3] 3) 3) 3) 3 = _
    rw [e1,e2,e3,e4]
  exact ordO_uniq ⟨a4,b4,c4,d4,e,p4.trans (p3.trans (p2.trans p1)),ht.2,ht.1.2.2,ht.1.1.2.2⟩ (order_ok xs)
theorem sw1_len {xs : List Rat} {o : List Nat} {i : Nat} : (sw1 xs o i).length = o.length:=by unfold sw1;split <;> simp
theorem sw1_lt {xs : List Rat} {o : List Nat} {i : Nat} (h : ∀ x ∈ o,x < 4) (ho : o.length = 4) (hi : i < 3) : ∀ x ∈ sw1 xs o i,x < 4:=by
  unfold sw1;split
  · intro x hx
    rcases List.mem_or_eq_of_mem_set hx with e | e
    · rcases List.mem_or_eq_of_mem_set e with e | e
      · exact h x e
      · rw [e];exact getD_lt h (by omega)
    · rw [e];exact getD_lt h (by omega)
  · exact h
end Go.Proofs.YtpbkcbnghhodiaaGreat
namespace Go.Proofs.YtpbkcbnghhodiaaGreat
set_option maxHeartbeats 1000000
set_option maxRecDepth 100000
open Go.RowKit (Below)
private theorem ap_106 : ∀ {u0 : Value} {u1 : Value} {u2 : Value} {u3 : Value} (h0 : Shaped (some 3) u0) (h1 : Shaped (some 3) u1) (h2 : Shaped (some 3) u2) (h3 : Shaped (some 3) u3),Tryz.prog.built 106 [(0,u0),(1,u1),(2,u2),(3,u3)] = some (flat [u0,u1,u2,u3]).toArray:=by
 intro u0 u1 u2 u3 h0 h1 h2 h3
 obtain ⟨c0_0,c0_1,c0_2,rfl⟩:=agg3 h0
 obtain ⟨c1_0,c1_1,c1_2,rfl⟩:=agg3 h1
 obtain ⟨c2_0,c2_1,c2_2,rfl⟩:=agg3 h2
 obtain ⟨c3_0,c3_1,c3_2,rfl⟩:=agg3 h3
 kernel_rfl
private theorem fo_78_0 : fldOff Tryz.prog 78 0 = some 0:=by kernel_rfl
private theorem fo_78_1 : fldOff Tryz.prog 78 1 = some 3:=by kernel_rfl
private theorem fo_78_2 : fldOff Tryz.prog 78 2 = some 6:=by kernel_rfl
private theorem fo_78_3 : fldOff Tryz.prog 78 3 = some 9:=by kernel_rfl
private theorem tS_106 : tyS Tryz.prog 106 (some 12) = true:=by kernel_rfl
private theorem z_106 : (Tryz.prog.info? 106).bind (·.zero) = some (.agg #[.bool false,.slice none 0 0,.slice none 0 0,.bool false,.slice none 0 0,.slice none 0 0,.bool false,.slice none 0 0,.slice none 0 0,.bool false,.slice none 0 0,.slice none 0 0]):=by kernel_rfl
private theorem zs_106 : Shaped (some 12) (.agg #[.bool false,.slice none 0 0,.slice none 0 0,.bool false,.slice none 0 0,.slice none 0 0,.bool false,.slice none 0 0,.slice none 0 0,.bool false,.slice none 0 0,.slice none 0 0]):=⟨_,rfl,rfl,by simp [Value.oneCell']⟩
theorem rSquares_ok {n : Nat} {rg ra rb rc : FR} {v1 : Value} {W0 : World} {G0 : Gh} (hok : Gok W0 G0) (h1 : (PTS [(some 3,FX n rg),(some 3,FX n ra),(some 3,FX n rb),(some 3,FX n rc)]).t v1 G0)  : Calls Tryz.prog 54 #[v1] W0 (Ret W0 G0 (ARN (some 3) (([rg,ra,rb,rc]).map (FX n)))):=by
 refine St.enter (N:=12) (L:=[(0,PTS [(some 3,FX n rg),(some 3,FX n ra),(some 3,FX n rb),(some 3,FX n rc)])]) (args:=[v1]) Tryz.func54 rfl rfl rfl hok (enter1 h1) fun a S=>?_
 refine wp_reg fun K hK=>?_
 refine S.boxop (x:=.tmp 0) (τ:=PTS [(some 3,FX n rg),(some 3,FX n ra),(some 3,FX n rb),(some 3,FX n rc)]) (S.g 0 rfl) (sh (τ:=PTS [(some 3,FX n rg),(some 3,FX n ra),(some 3,FX n rb),(some 3,FX n rc)]) (S.g 0 rfl)) rfl rfl rfl rfl rfl fun b1 a w G S=>?_
 refine S.alloc rfl rfl rfl z_106 zs_106 rfl rfl fun b2 a w G S=>?_
 refine wn hK ?_;clear hK K
 replace S:=S.d2
 refine wp_reg fun K hK=>?_
 refine S.s (τ:=PB b1) (OpR.fldA S.ok rfl (S.e 1 rfl) fo_78_0 rfl) rfl fun a w G S=>?_
 refine S.s (OpR.ldPart S.ok rfl (S.e 0 rfl) (S.box 1 rfl) tS_24 fun _ h hs=>part_load (PTS.part 0 rfl rfl h hs) rfl) rfl fun a w G S=>?_
 refine S.s (τ:=MT.ex (Value.pointer (some ⟨b1,3,none⟩))) (OpR.fldA S.ok rfl (S.e 3 rfl) fo_78_1 rfl) rfl fun a w G S=>?_
 refine S.s (OpR.ldPart S.ok rfl (S.e 0 rfl) (S.box 1 rfl) tS_24 fun _ h hs=>part_load (PTS.part 1 rfl rfl h hs) rfl) rfl fun a w G S=>?_
 refine S.s (τ:=MT.ex (Value.pointer (some ⟨b1,6,none⟩))) (OpR.fldA S.ok rfl (S.e 5 rfl) fo_78_2 rfl) rfl fun a w G S=>?_
 refine S.s (OpR.ldPart S.ok rfl (S.e 0 rfl) (S.box 1 rfl) tS_24 fun _ h hs=>part_load (PTS.part 2 rfl rfl h hs) rfl) rfl fun a w G S=>?_
 refine S.s (τ:=MT.ex (Value.pointer (some ⟨b1,9,none⟩))) (OpR.fldA S.ok rfl (S.e 7 rfl) fo_78_3 rfl) rfl fun a w G S=>?_
 refine S.s (OpR.ldPart S.ok rfl (S.e 0 rfl) (S.box 1 rfl) tS_24 fun _ h hs=>part_load (PTS.part 3 rfl rfl h hs) rfl) rfl fun a w G S=>?_
 refine S.s (τ:=ARN (some 3) (([rg,ra,rb,rc]).map (FX n))) (OpR.conv' (OpR.bldP (us:=[a.eval (.tmp 4),a.eval (.tmp 6),a.eval (.tmp 8),a.eval (.tmp 10)]) (fs:=(List.map (FX n) [rg,ra,rb,rc]).map fun τ=>(some 3,τ)) S.ok rfl (by simp only [List.map_toArray,List.map_cons,List.map_nil];exact ap_106 (u0:=a.eval (.tmp 4)) (u1:=a.eval (.tmp 6)) (u2:=a.eval (.tmp 8)) (u3:=a.eval (.tmp 10)) (sh (τ:=FX n rg) (S.g 6 rfl)) (sh (τ:=FX n ra) (S.g 4 rfl)) (sh (τ:=FX n rb) (S.g 2 rfl)) (sh (τ:=FX n rc) (S.g 0 rfl))) rfl (pts_cons (sh (τ:=FX n rg) (S.g 6 rfl)) (S.g 6 rfl) (pts_cons (sh (τ:=FX n ra) (S.g 4 rfl)) (S.g 4 rfl) (pts_cons (sh (τ:=FX n rb) (S.g 2 rfl)) (S.g 2 rfl) (pts_cons (sh (τ:=FX n rc) (S.g 0 rfl)) (S.g 0 rfl) pts_nil))))) fun _ _ h=>PTS.arn h) rfl fun a w G S=>?_
 refine S.store (τ:=ARN (some 3) (([rg,ra,rb,rc]).map (FX n))) 0 rfl rfl rfl rfl (S.e 9 rfl) tS_106 (S.g 0 rfl) (sh (τ:=ARN (some 3) (([rg,ra,rb,rc]).map (FX n))) (S.g 0 rfl)) fun w S=>?_
 replace S:=S.n0
 replace S:=(S.castBox (τ':=ROWS (some 3) (([rg,ra,rb,rc]).map (FX n))) 0 rfl fun _ h _=>ARN.rows h).n0
 refine wn hK ?_;clear hK K
 replace S:=S.d10.d8.d7.d6.d5.d4.d3.d2.d1.d0
 replace S:=(S.castBox (τ':=ARN (some 3) (([rg,ra,rb,rc]).map (FX n))) 0 rfl fun _ h hs=>ROWS.arn h hs (by first | rfl | (simp;done) | (simp;omega))).n0
 exact wp_ret (S.retCell (i:=0) rfl (S.e 0 rfl) rfl tS_106 (fun _ h=>h))
end Go.Proofs.YtpbkcbnghhodiaaGreat
namespace Go.Proofs.YtpbkcbnghhodiaaGreat
theorem vgetD (l : List FR) (j : Nat) : (l.map FR.val).getD j default = (l.getD j default).val:=by
  rw [List.getD_eq_getElem?_getD,List.getD_eq_getElem?_getD,List.getElem?_map]
  cases l[j]? <;> rfl
theorem lkD (l : List FR) (j : Nat) : lk l j = (l.map FR.val).getD ((orderF (l.map FR.val)).getD j default) default:=by rw [vgetD];rfl
theorem bub_t {xs : List Rat} {o : List Nat} {j : Nat} (h : cmpQ (xs.getD ((bubP xs o j).getD j default) default) (xs.getD ((bubP xs o j).getD (j + 1) default) default) > 0) : ((bubP xs o j).set j ((bubP xs o j).getD (j + 1) default)).set (j + 1) ((bubP xs o j).getD j default) = bubP xs o (j + 1):=(if_pos h).symm
theorem bub_f {xs : List Rat} {o : List Nat} {j : Nat} (h : ¬ cmpQ (xs.getD ((bubP xs o j).getD j default) default) (xs.getD ((bubP xs o j).getD (j + 1) default) default) > 0) : bubP xs o j = bubP xs o (j + 1):=(if_neg h).symm
theorem bubP_n {xs : List Rat} {j : Nat} (hj : ¬ j < 3) (hk : j ≤ 3) (p : Nat) : bubP xs (bub xs p) j = bub xs (p + 1):=by
  obtain rfl : j = 3:=by omega
  rfl
theorem bubP_len {xs : List Rat} {o : List Nat} (ho : o.length = 4) : ∀ j,(bubP xs o j).length = 4
  | 0=>ho
  | j + 1=>sw1_len.trans (bubP_len ho j)
theorem bubP_lt {xs : List Rat} {o : List Nat} (ho : o.length = 4) (h : ∀ x ∈ o,x < 4) : ∀ j,j ≤ 3 → ∀ x ∈ bubP xs o j,x < 4
  | 0,_=>h
  | j + 1,hj=>sw1_lt (bubP_lt ho h j (by omega)) (bubP_len ho j) (by omega)
theorem bub_len {xs : List Rat} : ∀ p,(bub xs p).length = 4
  | 0=>rfl
  | p + 1=>bubP_len (bub_len p) 3
theorem bub_lt {xs : List Rat} : ∀ p,∀ x ∈ bub xs p,x < 4
  | 0=>fun x hx=>by simp [bub] at hx;omega
  | p + 1=>bubP_lt (bub_len p) (bub_lt p) 3 (by omega)
theorem lk_le23 (l : List FR) : lk l 2 ≤ lk l 3:=by
  obtain ⟨i,j,k,m,e,hp,b1,b2,b3⟩:=order_ok (l.map FR.val)
  rw [lkD,lkD,e];exact bef_le b3
def rcloseF (l : List FR) : Int:=surdsF (lk l 3 + lk l 0 - (lk l 1 + lk l 2)) (-2) (lk l 3 * lk l 0) (-2) (lk l 1 * lk l 2)
theorem rclose_eq {l : List FR} (h : l.all posR = true) : rcloseF l > 0 ↔ ¬ closesF (lk l 3) (lk l 0) (lk l 1) (lk l 2) = true:=by
  have h0:=lk_nn h 0;have h1:=lk_nn h 1;have h2:=lk_nn h 2;have h3:=lk_nn h 3
  have h30 : lk l 0 ≤ lk l 3:=by
    obtain ⟨i,j,k,m,e,hp,b1,b2,b3⟩:=order_ok (l.map FR.val)
    rw [lkD,lkD,e];exact bef_le (bef_trans b1 (bef_trans b2 b3))
  rw [closes_iff h3 h0 h1 h2 (lk_le23 l)]
  unfold rcloseF
  rw [surds_sg (Rat.mul_nonneg h3 h0) (Rat.mul_nonneg h1 h2),rt_mul h3 h0,rt_mul h1 h2]
  have e : RR.of (lk l 3 + lk l 0 - (lk l 1 + lk l 2)) + RR.of (-2) * (rt (lk l 3) * rt (lk l 0)) + RR.of (-2) * (rt (lk l 1) * rt (lk l 2)) = (rt (lk l 3) - rt (lk l 0)) * (rt (lk l 3) - rt (lk l 0)) - (rt (lk l 1) + rt (lk l 2)) * (rt (lk l 1) + rt (lk l 2)):=by
    rw [RR.of_sub,RR.of_add,RR.of_add,← rt_sq h0,← rt_sq h1,← rt_sq h2,← rt_sq h3,show RR.of (-2) = -RR.of 2 from rfl]
    generalize rt (lk l 3) = a;generalize rt (lk l 0) = b;generalize rt (lk l 1) = c;generalize rt (lk l 2) = d
    obtain ⟨f,hf,rfl⟩:=RR.rep a;obtain ⟨g,hg,rfl⟩:=RR.rep b;obtain ⟨k,hk,rfl⟩:=RR.rep c;obtain ⟨m,hm,rfl⟩:=RR.rep d
    exact RR.ext fun n=>by grind
  rw [e,← sgR_sq (RR.le_iff_sub.1 (rt_le h0 h30)) (RR.add_nn (rt_nn _) (rt_nn _))]
  have e2 : rt (lk l 0) + rt (lk l 1) + rt (lk l 2) - rt (lk l 3) = -(rt (lk l 3) - rt (lk l 0) - (rt (lk l 1) + rt (lk l 2))):=by
    generalize rt (lk l 3) = a;generalize rt (lk l 0) = b;generalize rt (lk l 1) = c;generalize rt (lk l 2) = d
    obtain ⟨f,hf,rfl⟩:=RR.rep a;obtain ⟨g,hg,rfl⟩:=RR.rep b;obtain ⟨k,hk,rfl⟩:=RR.rep c;obtain ⟨m,hm,rfl⟩:=RR.rep d
    exact RR.ext fun n=>by grind
  rw [← sgR_ge,e2,sgR_negate];omega
theorem rchk16 {l : List FR} (h : l.all posR = true) (k : rcloseF l > 0) : (16 : Int) = chkF l:=(chk16 h (Bool.eq_false_iff.2 ((rclose_eq h).1 k))).symm
theorem rchk0 {l : List FR} (h : l.all posR = true) (k : ¬ rcloseF l > 0) : (0 : Int) = chkF l:=(chk0 h (Classical.not_not.1 fun n=>k ((rclose_eq h).2 n))).symm
end Go.Proofs.YtpbkcbnghhodiaaGreat
namespace Go.Proofs.YtpbkcbnghhodiaaGreat
set_option maxHeartbeats 1000000
set_option maxRecDepth 100000
open Go.RowKit (Below)
private theorem c_29 : callable Tryz.prog 29 = true:=by kernel_rfl
private theorem c_30 : callable Tryz.prog 30 = true:=by kernel_rfl
private theorem c_50 : callable Tryz.prog 50 = true:=by kernel_rfl
private theorem c_56 : callable Tryz.prog 56 = true:=by kernel_rfl
private theorem c_57 : callable Tryz.prog 57 = true:=by kernel_rfl
private theorem c_59 : callable Tryz.prog 59 = true:=by kernel_rfl
private theorem c_91 : callable Tryz.prog 91 = true:=by kernel_rfl
theorem rSurd_ok {n0 n1 n2 : Nat} {x y d : Rat} {v1 v2 v3 : Value} {W0 : World} {G0 : Gh} (hok : Gok W0 G0) (h1 : (QV n0 x).t v1 G0) (h2 : (QV n1 y).t v2 G0) (h3 : (QV n2 d).t v3 G0) (hn : 2 * n0 + 2 * n1 + n2 + 1 ≤ BIG) : Calls Tryz.prog 91 #[v1,v2,v3] W0 (Ret W0 G0 (IT (surdF x y d))):=by
 refine St.enter (N:=44) (L:=[(2,QV n2 d),(1,QV n1 y),(0,QV n0 x)]) (args:=[v1,v2,v3]) Tryz.func91 rfl rfl rfl hok (enter3 h1 h2 h3) fun a S=>?_
 refine wp_reg fun K hK=>?_
 refine S.boxop (x:=.tmp 0) (τ:=QV n0 x) (S.g 2 rfl) (sh (τ:=QV n0 x) (S.g 2 rfl)) rfl rfl rfl rfl rfl fun b3 a w G S=>?_
 refine S.boxop (x:=.tmp 1) (τ:=QV n1 y) (S.g 2 rfl) (sh (τ:=QV n1 y) (S.g 2 rfl)) rfl rfl rfl rfl rfl fun b4 a w G S=>?_
 refine S.boxop (x:=.tmp 2) (τ:=QV n2 d) (S.g 2 rfl) (sh (τ:=QV n2 d) (S.g 2 rfl)) rfl rfl rfl rfl rfl fun b5 a w G S=>?_
 refine S.s (τ:=NT 0) (OpR.asn S.ok rfl (rfl : _ = nv .i64 0)) rfl fun a w G S=>?_
 refine wn hK ?_;clear hK K
 replace S:=S.d6.d5.d4
 refine wp_seq_k fun K hK=>?_
 refine S.drawn [⟨10,.g (QV n0 x),[]⟩,⟨11,.g (IT x.num.sign),[0]⟩,⟨12,.g (QV n1 y),[]⟩,⟨13,.g (IT y.num.sign),[2]⟩,⟨14,.g (QV n2 d),[]⟩,⟨15,.g (IT d.num.sign),[4]⟩,⟨16,.g (IT (y.num.sign * d.num.sign)),[3,5]⟩,⟨7,.g (IT x.num.sign),[1]⟩,⟨8,.g (IT (y.num.sign * d.num.sign)),[6]⟩] mixedOrders (by kernel_rfl)
  ⟨fun a w G S=>.of rfl (OpR.ldBox S.ok rfl (S.e 3 rfl) (S.box 2 rfl) tS_24),
   fun a w G S=>.of rfl (OpR.call1 rfl c_30 (gSign_ok S.ok (S.g 0 rfl) (by omega))),
   fun a w G S=>.of rfl (OpR.ldBox S.ok rfl (S.e 2 rfl) (S.box 1 rfl) tS_24),
   fun a w G S=>.of rfl (OpR.call1 rfl c_30 (gSign_ok S.ok (S.g 0 rfl) (by omega))),
   fun a w G S=>.of rfl (OpR.ldBox S.ok rfl (S.e 1 rfl) (S.box 0 rfl) tS_24),
   fun a w G S=>.of rfl (OpR.call1 rfl c_30 (gSign_ok S.ok (S.g 0 rfl) (by omega))),
   fun a w G S=>.of rfl (OpR.imul S.ok rfl (S.e 0 rfl) (S.e 1 rfl) (iw_i64 rfl (sg_mul_bd _ _))),
   fun a w G S=>.of rfl (OpR.asn S.ok rfl (S.g 0 rfl)),
   fun a w G S=>.of rfl (OpR.asn S.ok rfl (S.g 0 rfl)),trivial⟩ fun β a w G S=>?_
 replace S : St W0 G0 44 [(8,IT (y.num.sign * d.num.sign)),(7,IT x.num.sign),(6,NT 0),(5,PB b5),(4,PB b4),(3,PB b3)] [⟨b5,24,some 3,QV n2 d⟩,⟨b4,24,some 3,QV n1 y⟩,⟨b3,24,some 3,QV n0 x⟩] a _ _:=S.keep [0,1,9,10,11,12]
 refine wn hK ?_;clear hK K
 refine wp_seq_k fun K hK=>?_
 refine wp_reg fun K hK=>?_
 refine S.m rfl (S.g 1 rfl) rfl fun a w G S=>?_
 refine S.s (OpR.zeql S.ok rfl (S.e 0 rfl) (rfl : _ = nv .i64 0) MT.self) rfl fun a w G S=>?_
 refine S.m rfl (S.g 0 rfl) rfl fun a w G S=>?_
 rcases Bool.eq_false_or_eq_true (decide (x.num.sign = 0)) with hc1 | hc1
 ·
  have hp2:=of_decide_eq_true hc1
  replace S:=S.boolIs 0 rfl hc1
  refine S.skipG 0 rfl rfl rfl rfl rfl rfl fun a w G S=>?_
  refine S.skipG 1 rfl rfl rfl rfl rfl rfl fun a w G S=>?_
  refine S.s (τ:=BT true) (OpR.pick S.ok rfl (S.e 2 rfl) rfl) rfl fun a w G S=>?_
  refine S.m rfl (S.g 0 rfl) rfl fun a w G S=>?_
  refine S.skipG 0 rfl rfl rfl rfl rfl rfl fun a w G S=>?_
  refine S.skipG 1 rfl rfl rfl rfl rfl rfl fun a w G S=>?_
  refine S.skipG 2 rfl rfl rfl rfl rfl rfl fun a w G S=>?_
  refine S.s (τ:=BT true) (OpR.pick S.ok rfl (S.e 3 rfl) rfl) rfl fun a w G S=>?_
  refine wn hK ?_;clear hK K
  replace S:=S.d11.d10.d9.d8.d7.d6.d5.d4.d3.d2.d1
  refine wp_cond_true (S.e 0 rfl) ?_
  refine wp_seq_k fun K hK=>?_
  refine wp_reg fun K hK=>?_
  refine S.m rfl (S.g 2 rfl) rfl fun a w G S=>?_
  refine S.s (OpR.zeql S.ok rfl (S.e 0 rfl) (rfl : _ = nv .i64 0) MT.self) rfl fun a w G S=>?_
  refine wn hK ?_;clear hK K
  replace S:=S.d1
  refine S.cond 0 rfl (fun hc3=>?_) (fun hc3=>?_)
  ·
   have hp4:=of_decide_eq_true hc3
   refine wp_reg fun K hK=>?_
   refine S.m rfl (S.g 2 rfl) rfl fun a w G S=>?_
   replace S:=S.d5
   refine S.q rfl (S.g 0 rfl) rfl fun a w G S=>?_
   refine wn hK ?_;clear hK K
   replace S:=S.d1
   exact wp_ret (then_ret (then_ret (S.retTmp rfl ((S.e 0 rfl).trans (iv_eq (by first | (exfalso;omega) | (unfold surdF;first | rw [if_pos (by omega),if_pos (by omega)] | rw [if_pos (by omega),if_neg (by omega)] | rw [if_neg (by omega)])))))))
  ·
   have hp5:=of_decide_eq_false hc3
   refine wp_skip ?_
   refine hK _ _ ?_;clear hK K
   refine wp_reg fun K hK=>?_
   refine S.m rfl (S.g 3 rfl) rfl fun a w G S=>?_
   replace S:=S.d5
   refine S.q rfl (S.g 0 rfl) rfl fun a w G S=>?_
   refine wn hK ?_;clear hK K
   replace S:=S.d1
   exact wp_ret (then_ret (S.retTmp rfl ((S.e 0 rfl).trans (iv_eq (by first | (exfalso;omega) | (unfold surdF;first | rw [if_pos (by omega),if_pos (by omega)] | rw [if_pos (by omega),if_neg (by omega)] | rw [if_neg (by omega)]))))))
 ·
  have hp6:=of_decide_eq_false hc1
  replace S:=S.boolIs 0 rfl hc1
  refine S.stepG 0 (OpR.mv S.ok rfl (S.g 4 rfl)) rfl rfl rfl rfl rfl rfl fun a w G S=>?_
  refine S.stepG 1 (OpR.zeql S.ok rfl (S.e 0 rfl) (rfl : _ = nv .i64 0) MT.self) rfl rfl rfl rfl rfl rfl fun a w G S=>?_
  refine S.s (τ:=BT (decide ((y.num.sign * d.num.sign) = 0))) (OpR.pick S.ok rfl (S.e 2 rfl) (S.g 0 rfl)) rfl fun a w G S=>?_
  refine S.m rfl (S.g 0 rfl) rfl fun a w G S=>?_
  rcases Bool.eq_false_or_eq_true (decide ((y.num.sign * d.num.sign) = 0)) with hc7 | hc7
  ·
   have hp8:=of_decide_eq_true hc7
   replace S:=S.boolIs 0 rfl hc7
   refine S.skipG 0 rfl rfl rfl rfl rfl rfl fun a w G S=>?_
   refine S.skipG 1 rfl rfl rfl rfl rfl rfl fun a w G S=>?_
   refine S.skipG 2 rfl rfl rfl rfl rfl rfl fun a w G S=>?_
   refine S.s (τ:=BT true) (OpR.pick S.ok rfl (S.e 3 rfl) rfl) rfl fun a w G S=>?_
   refine wn hK ?_;clear hK K
   replace S:=S.d12.d11.d10.d9.d8.d7.d6.d5.d4.d3.d2.d1
   refine wp_cond_true (S.e 0 rfl) ?_
   refine wp_seq_k fun K hK=>?_
   refine wp_reg fun K hK=>?_
   refine S.m rfl (S.g 2 rfl) rfl fun a w G S=>?_
   refine S.s (OpR.zeql S.ok rfl (S.e 0 rfl) (rfl : _ = nv .i64 0) MT.self) rfl fun a w G S=>?_
   refine wn hK ?_;clear hK K
   replace S:=S.d1
   refine S.cond 0 rfl (fun hc9=>?_) (fun hc9=>?_)
   ·
    have hp10:=of_decide_eq_true hc9
    refine wp_reg fun K hK=>?_
    refine S.m rfl (S.g 2 rfl) rfl fun a w G S=>?_
    replace S:=S.d5
    refine S.q rfl (S.g 0 rfl) rfl fun a w G S=>?_
    refine wn hK ?_;clear hK K
    replace S:=S.d1
    exact wp_ret (then_ret (then_ret (S.retTmp rfl ((S.e 0 rfl).trans (iv_eq (by first | (exfalso;omega) | (unfold surdF;first | rw [if_pos (by omega),if_pos (by omega)] | rw [if_pos (by omega),if_neg (by omega)] | rw [if_neg (by omega)])))))))
   ·
    have hp11:=of_decide_eq_false hc9
    refine wp_skip ?_
    refine hK _ _ ?_;clear hK K
    refine wp_reg fun K hK=>?_
    refine S.m rfl (S.g 3 rfl) rfl fun a w G S=>?_
    replace S:=S.d5
    refine S.q rfl (S.g 0 rfl) rfl fun a w G S=>?_
    refine wn hK ?_;clear hK K
    replace S:=S.d1
    exact wp_ret (then_ret (S.retTmp rfl ((S.e 0 rfl).trans (iv_eq (by first | (exfalso;omega) | (unfold surdF;first | rw [if_pos (by omega),if_pos (by omega)] | rw [if_pos (by omega),if_neg (by omega)] | rw [if_neg (by omega)]))))))
  ·
   have hp12:=of_decide_eq_false hc7
   replace S:=S.boolIs 0 rfl hc7
   refine S.stepG 0 (OpR.mv S.ok rfl (S.g 10 rfl)) rfl rfl rfl rfl rfl rfl fun a w G S=>?_
   refine S.stepG 1 (OpR.mv S.ok rfl (S.g 10 rfl)) rfl rfl rfl rfl rfl rfl fun a w G S=>?_
   refine S.stepG 2 (OpR.zeql S.ok rfl (S.e 1 rfl) (S.e 0 rfl) MT.self) rfl rfl rfl rfl rfl rfl fun a w G S=>?_
   refine S.s (τ:=BT (decide (x.num.sign = (y.num.sign * d.num.sign)))) (OpR.pick S.ok rfl (S.e 3 rfl) (S.g 0 rfl)) rfl fun a w G S=>?_
   refine wn hK ?_;clear hK K
   replace S:=S.d12.d11.d10.d9.d8.d7.d6.d5.d4.d3.d2.d1
   refine S.cond 0 rfl (fun hc13=>?_) (fun hc13=>?_)
   ·
    have hp14:=of_decide_eq_true hc13
    refine wp_seq_k fun K hK=>?_
    refine wp_reg fun K hK=>?_
    refine S.m rfl (S.g 2 rfl) rfl fun a w G S=>?_
    refine S.s (OpR.zeql S.ok rfl (S.e 0 rfl) (rfl : _ = nv .i64 0) MT.self) rfl fun a w G S=>?_
    refine wn hK ?_;clear hK K
    replace S:=S.d1
    refine S.cond 0 rfl (fun hc15=>?_) (fun hc15=>?_)
    ·
     have hp16:=of_decide_eq_true hc15
     refine wp_reg fun K hK=>?_
     refine S.m rfl (S.g 2 rfl) rfl fun a w G S=>?_
     replace S:=S.d5
     refine S.q rfl (S.g 0 rfl) rfl fun a w G S=>?_
     refine wn hK ?_;clear hK K
     replace S:=S.d1
     exact wp_ret (then_ret (then_ret (S.retTmp rfl ((S.e 0 rfl).trans (iv_eq (by first | (exfalso;omega) | (unfold surdF;first | rw [if_pos (by omega),if_pos (by omega)] | rw [if_pos (by omega),if_neg (by omega)] | rw [if_neg (by omega)])))))))
    ·
     have hp17:=of_decide_eq_false hc15
     refine wp_skip ?_
     refine hK _ _ ?_;clear hK K
     refine wp_reg fun K hK=>?_
     refine S.m rfl (S.g 3 rfl) rfl fun a w G S=>?_
     replace S:=S.d5
     refine S.q rfl (S.g 0 rfl) rfl fun a w G S=>?_
     refine wn hK ?_;clear hK K
     replace S:=S.d1
     exact wp_ret (then_ret (S.retTmp rfl ((S.e 0 rfl).trans (iv_eq (by first | (exfalso;omega) | (unfold surdF;first | rw [if_pos (by omega),if_pos (by omega)] | rw [if_pos (by omega),if_neg (by omega)] | rw [if_neg (by omega)]))))))
   ·
    have hp18:=of_decide_eq_false hc13
    refine wp_skip ?_
    refine hK _ _ ?_;clear hK K
    refine wp_seq_k fun K hK=>?_
    refine S.drawn [⟨32,.g (QV n1 y),[]⟩,⟨33,.g (QV n1 y),[]⟩,⟨34,.g (QC (n1 + n1) (y * y)),[0,1]⟩,⟨35,.g (QV n2 d),[]⟩,⟨36,.g (QC ((n1 + n1) + n2) ((y * y) * d)),[2,3]⟩,⟨9,.al mkP 24 (some 3) (MT.ex (.agg #[.bool false,.slice none 0 0,.slice none 0 0])),[]⟩] mixedOrders (by kernel_rfl)
     ⟨fun a w G S=>.of rfl (OpR.ldBox S.ok rfl (S.e 5 rfl) (S.box 1 rfl) tS_24),
      fun a w G S=>.of rfl (OpR.ldBox S.ok rfl (S.e 5 rfl) (S.box 1 rfl) tS_24),
      fun a w G S=>.of rfl (OpR.call2 rfl c_59 (gMul_ok S.ok (S.g 0 rfl) (S.g 1 rfl) (by omega))),
      fun a w G S=>.of rfl (OpR.ldBox S.ok rfl (S.e 4 rfl) (S.box 0 rfl) tS_24),
      fun a w G S=>.of rfl (OpR.call2 rfl c_59 (gMul_ok S.ok (QC.toQV (S.g 0 rfl)) (S.g 1 rfl) (by omega))),
      ⟨fun _=>rfl,rfl,fun a w G S=>OpB.alloc S.ok rfl z_24 zs_24⟩,trivial⟩ fun β a w G S=>?_
    replace S : St W0 G0 44 [(9,PB (β 5)),(36,QC ((n1 + n1) + n2) ((y * y) * d)),(27,BT (decide (x.num.sign = (y.num.sign * d.num.sign)))),(8,IT (y.num.sign * d.num.sign)),(7,IT x.num.sign),(6,NT 0),(5,PB b5),(4,PB b4),(3,PB b3)] [⟨(β 5),24,some 3,MT.ex ((.agg #[.bool false,.slice none 0 0,.slice none 0 0] : Value))⟩,⟨b5,24,some 3,QV n2 d⟩,⟨b4,24,some 3,QV n1 y⟩,⟨b3,24,some 3,QV n0 x⟩] a _ _:=S.keep [0,1,6,7,8,9,10,11,12]
    generalize β 5 = b9 at S
    refine S.store (τ:=QC ((n1 + n1) + n2) ((y * y) * d)) 0 rfl rfl rfl rfl (S.e 0 rfl) tS_24 (S.g 1 rfl) (sh (τ:=QC ((n1 + n1) + n2) ((y * y) * d)) (S.g 1 rfl)) fun w S=>?_
    replace S:=S.n0
    refine wn hK ?_;clear hK K
    replace S:=S.d1
    refine wp_seq_k fun K hK=>?_
    replace S:=S.d4
    refine S.drawn [⟨37,.g (IT x.num.sign),[]⟩,⟨38,.g (QV n0 x),[]⟩,⟨39,.g (QV n0 x),[]⟩,⟨40,.g (QC (n0 + n0) (x * x)),[1,2]⟩,⟨41,.g (QC ((n1 + n1) + n2) ((y * y) * d)),[]⟩,⟨42,.g (IT (cmpQ (x * x) ((y * y) * d))),[3,4]⟩,⟨43,.g (IT (x.num.sign * cmpQ (x * x) (y * y * d))),[0,5]⟩,⟨6,.g (IT (x.num.sign * cmpQ (x * x) (y * y * d))),[6]⟩] mixedOrders (by kernel_rfl)
     ⟨fun a w G S=>.of rfl (OpR.mv S.ok rfl (S.g 3 rfl)),
      fun a w G S=>.of rfl (OpR.ldBox S.ok rfl (S.e 6 rfl) (S.box 3 rfl) tS_24),
      fun a w G S=>.of rfl (OpR.ldBox S.ok rfl (S.e 6 rfl) (S.box 3 rfl) tS_24),
      fun a w G S=>.of rfl (OpR.call2 rfl c_59 (gMul_ok S.ok (S.g 0 rfl) (S.g 1 rfl) (by omega))),
      fun a w G S=>.of rfl (OpR.ldBox S.ok rfl (S.e 0 rfl) (S.box 0 rfl) tS_24),
      fun a w G S=>.of rfl (OpR.call2 rfl c_29 (gCmp_ok S.ok (QC.toQV (S.g 0 rfl)) (QC.toQV (S.g 1 rfl)) (by omega))),
      fun a w G S=>.of rfl (OpR.imul S.ok rfl (S.e 0 rfl) (S.e 1 rfl) (iw_i64 rfl (sg_cmp_bd _ _ _))),
      fun a w G S=>.of rfl (OpR.asn S.ok rfl (S.g 0 rfl)),trivial⟩ fun β a w G S=>?_
    replace S : St W0 G0 44 [(6,IT (x.num.sign * cmpQ (x * x) (y * y * d))),(9,PB b9),(27,BT (decide (x.num.sign = (y.num.sign * d.num.sign)))),(8,IT (y.num.sign * d.num.sign)),(7,IT x.num.sign),(5,PB b5),(4,PB b4),(3,PB b3)] [⟨b9,24,some 3,QC ((n1 + n1) + n2) ((y * y) * d)⟩,⟨b5,24,some 3,QV n2 d⟩,⟨b4,24,some 3,QV n1 y⟩,⟨b3,24,some 3,QV n0 x⟩] a _ _:=S.keep [0,8,9,10,11,12,13,14]
    refine wn hK ?_;clear hK K
    exact wp_ret (S.retTmp rfl ((S.e 0 rfl).trans (iv_eq (by first | (exfalso;omega) | (unfold surdF;first | rw [if_pos (by omega),if_pos (by omega)] | rw [if_pos (by omega),if_neg (by omega)] | rw [if_neg (by omega)])))))
theorem rSurds_ok {n0 n1 n2 n3 n4 : Nat} {x y d z e : Rat} {v1 v2 v3 v4 v5 : Value} {W0 : World} {G0 : Gh} (hok : Gok W0 G0) (h1 : (QV n0 x).t v1 G0) (h2 : (QV n1 y).t v2 G0) (h3 : (QV n2 d).t v3 G0) (h4 : (QV n3 z).t v4 G0) (h5 : (QV n4 e).t v5 G0) (hn : 8 * n0 + 8 * n1 + 8 * n2 + 8 * n3 + 8 * n4 + 1000 ≤ BIG) : Calls Tryz.prog 58 #[v1,v2,v3,v4,v5] W0 (Ret W0 G0 (IT (surdsF x y d z e))):=by
 refine St.enter (N:=65) (L:=[(4,QV n4 e),(3,QV n3 z),(2,QV n2 d),(1,QV n1 y),(0,QV n0 x)]) (args:=[v1,v2,v3,v4,v5]) Tryz.func58 rfl rfl rfl hok (enter5 h1 h2 h3 h4 h5) fun a S=>?_
 refine wp_reg fun K hK=>?_
 refine S.boxop (x:=.tmp 0) (τ:=QV n0 x) (S.g 4 rfl) (sh (τ:=QV n0 x) (S.g 4 rfl)) rfl rfl rfl rfl rfl fun b5 a w G S=>?_
 refine S.boxop (x:=.tmp 1) (τ:=QV n1 y) (S.g 4 rfl) (sh (τ:=QV n1 y) (S.g 4 rfl)) rfl rfl rfl rfl rfl fun b6 a w G S=>?_
 refine S.boxop (x:=.tmp 2) (τ:=QV n2 d) (S.g 4 rfl) (sh (τ:=QV n2 d) (S.g 4 rfl)) rfl rfl rfl rfl rfl fun b7 a w G S=>?_
 refine S.boxop (x:=.tmp 3) (τ:=QV n3 z) (S.g 4 rfl) (sh (τ:=QV n3 z) (S.g 4 rfl)) rfl rfl rfl rfl rfl fun b8 a w G S=>?_
 refine S.boxop (x:=.tmp 4) (τ:=QV n4 e) (S.g 4 rfl) (sh (τ:=QV n4 e) (S.g 4 rfl)) rfl rfl rfl rfl rfl fun b9 a w G S=>?_
 refine S.s (τ:=NT 0) (OpR.asn S.ok rfl (rfl : _ = nv .i64 0)) rfl fun a w G S=>?_
 refine wn hK ?_;clear hK K
 replace S:=S.d10.d9.d8.d7.d6
 refine wp_reg fun K hK=>?_
 refine S.s (OpR.ldBox S.ok rfl (S.e 5 rfl) (S.box 4 rfl) tS_24) rfl fun a w G S=>?_
 refine S.s (OpR.ldBox S.ok rfl (S.e 5 rfl) (S.box 3 rfl) tS_24) rfl fun a w G S=>?_
 refine S.s (OpR.ldBox S.ok rfl (S.e 5 rfl) (S.box 2 rfl) tS_24) rfl fun a w G S=>?_
 refine S.s (τ:=IT (surdF x y d)) (OpR.call3 rfl c_91 (rSurd_ok S.ok (S.g 2 rfl) (S.g 1 rfl) (S.g 0 rfl) (by omega))) rfl fun a w G S=>?_
 refine S.q rfl (S.g 0 rfl) rfl fun a w G S=>?_
 refine wn hK ?_;clear hK K
 replace S:=S.d4.d3.d2.d1
 refine wp_seq_k fun K hK=>?_
 refine S.drawn [⟨19,.g (QV n3 z),[]⟩,⟨20,.g (IT z.num.sign),[0]⟩,⟨21,.g (QV n4 e),[]⟩,⟨22,.g (IT e.num.sign),[2]⟩,⟨23,.g (IT (z.num.sign * e.num.sign)),[1,3]⟩,⟨12,.g (IT (z.num.sign * e.num.sign)),[4]⟩] mixedOrders (by kernel_rfl)
  ⟨fun a w G S=>.of rfl (OpR.ldBox S.ok rfl (S.e 3 rfl) (S.box 1 rfl) tS_24),
   fun a w G S=>.of rfl (OpR.call1 rfl c_30 (gSign_ok S.ok (S.g 0 rfl) (by omega))),
   fun a w G S=>.of rfl (OpR.ldBox S.ok rfl (S.e 2 rfl) (S.box 0 rfl) tS_24),
   fun a w G S=>.of rfl (OpR.call1 rfl c_30 (gSign_ok S.ok (S.g 0 rfl) (by omega))),
   fun a w G S=>.of rfl (OpR.imul S.ok rfl (S.e 0 rfl) (S.e 1 rfl) (iw_i64 rfl (sg_mul_bd _ _))),
   fun a w G S=>.of rfl (OpR.asn S.ok rfl (S.g 0 rfl)),trivial⟩ fun β a w G S=>?_
 replace S : St W0 G0 65 [(12,IT (z.num.sign * e.num.sign)),(11,IT (surdF x y d)),(10,NT 0),(9,PB b9),(8,PB b8),(7,PB b7),(6,PB b6),(5,PB b5)] [⟨b9,24,some 3,QV n4 e⟩,⟨b8,24,some 3,QV n3 z⟩,⟨b7,24,some 3,QV n2 d⟩,⟨b6,24,some 3,QV n1 y⟩,⟨b5,24,some 3,QV n0 x⟩] a _ _:=S.keep [0,6,7,8,9,10,11,12]
 refine wn hK ?_;clear hK K
 refine wp_seq_k fun K hK=>?_
 refine wp_reg fun K hK=>?_
 refine S.m rfl (S.g 1 rfl) rfl fun a w G S=>?_
 refine S.s (OpR.zeql S.ok rfl (S.e 0 rfl) (rfl : _ = nv .i64 0) MT.self) rfl fun a w G S=>?_
 refine S.m rfl (S.g 0 rfl) rfl fun a w G S=>?_
 rcases Bool.eq_false_or_eq_true (decide ((surdF x y d) = 0)) with hc1 | hc1
 ·
  have hp2:=of_decide_eq_true hc1
  replace S:=S.boolIs 0 rfl hc1
  refine S.skipG 0 rfl rfl rfl rfl rfl rfl fun a w G S=>?_
  refine S.skipG 1 rfl rfl rfl rfl rfl rfl fun a w G S=>?_
  refine S.s (τ:=BT true) (OpR.pick S.ok rfl (S.e 2 rfl) rfl) rfl fun a w G S=>?_
  refine S.m rfl (S.g 0 rfl) rfl fun a w G S=>?_
  refine S.skipG 0 rfl rfl rfl rfl rfl rfl fun a w G S=>?_
  refine S.skipG 1 rfl rfl rfl rfl rfl rfl fun a w G S=>?_
  refine S.skipG 2 rfl rfl rfl rfl rfl rfl fun a w G S=>?_
  refine S.s (τ:=BT true) (OpR.pick S.ok rfl (S.e 3 rfl) rfl) rfl fun a w G S=>?_
  refine wn hK ?_;clear hK K
  replace S:=S.d11.d10.d9.d8.d7.d6.d5.d4.d3.d2.d1
  refine wp_cond_true (S.e 0 rfl) ?_
  refine wp_seq_k fun K hK=>?_
  refine wp_reg fun K hK=>?_
  refine S.m rfl (S.g 2 rfl) rfl fun a w G S=>?_
  refine S.s (OpR.zeql S.ok rfl (S.e 0 rfl) (rfl : _ = nv .i64 0) MT.self) rfl fun a w G S=>?_
  refine wn hK ?_;clear hK K
  replace S:=S.d1
  refine S.cond 0 rfl (fun hc3=>?_) (fun hc3=>?_)
  ·
   have hp4:=of_decide_eq_true hc3
   refine wp_reg fun K hK=>?_
   refine S.m rfl (S.g 2 rfl) rfl fun a w G S=>?_
   replace S:=S.d5
   refine S.q rfl (S.g 0 rfl) rfl fun a w G S=>?_
   refine wn hK ?_;clear hK K
   replace S:=S.d1
   exact wp_ret (then_ret (then_ret (S.retTmp rfl ((S.e 0 rfl).trans (iv_eq (by first | (exfalso;omega) | (unfold surdsF;first | rw [if_pos (by omega),if_pos (by omega)] | rw [if_pos (by omega),if_neg (by omega)] | rw [if_neg (by omega)])))))))
  ·
   have hp5:=of_decide_eq_false hc3
   refine wp_skip ?_
   refine hK _ _ ?_;clear hK K
   refine wp_reg fun K hK=>?_
   refine S.m rfl (S.g 3 rfl) rfl fun a w G S=>?_
   replace S:=S.d5
   refine S.q rfl (S.g 0 rfl) rfl fun a w G S=>?_
   refine wn hK ?_;clear hK K
   replace S:=S.d1
   exact wp_ret (then_ret (S.retTmp rfl ((S.e 0 rfl).trans (iv_eq (by first | (exfalso;omega) | (unfold surdsF;first | rw [if_pos (by omega),if_pos (by omega)] | rw [if_pos (by omega),if_neg (by omega)] | rw [if_neg (by omega)]))))))
 ·
  have hp6:=of_decide_eq_false hc1
  replace S:=S.boolIs 0 rfl hc1
  refine S.stepG 0 (OpR.mv S.ok rfl (S.g 4 rfl)) rfl rfl rfl rfl rfl rfl fun a w G S=>?_
  refine S.stepG 1 (OpR.zeql S.ok rfl (S.e 0 rfl) (rfl : _ = nv .i64 0) MT.self) rfl rfl rfl rfl rfl rfl fun a w G S=>?_
  refine S.s (τ:=BT (decide ((z.num.sign * e.num.sign) = 0))) (OpR.pick S.ok rfl (S.e 2 rfl) (S.g 0 rfl)) rfl fun a w G S=>?_
  refine S.m rfl (S.g 0 rfl) rfl fun a w G S=>?_
  rcases Bool.eq_false_or_eq_true (decide ((z.num.sign * e.num.sign) = 0)) with hc7 | hc7
  ·
   have hp8:=of_decide_eq_true hc7
   replace S:=S.boolIs 0 rfl hc7
   refine S.skipG 0 rfl rfl rfl rfl rfl rfl fun a w G S=>?_
   refine S.skipG 1 rfl rfl rfl rfl rfl rfl fun a w G S=>?_
   refine S.skipG 2 rfl rfl rfl rfl rfl rfl fun a w G S=>?_
   refine S.s (τ:=BT true) (OpR.pick S.ok rfl (S.e 3 rfl) rfl) rfl fun a w G S=>?_
   refine wn hK ?_;clear hK K
   replace S:=S.d12.d11.d10.d9.d8.d7.d6.d5.d4.d3.d2.d1
   refine wp_cond_true (S.e 0 rfl) ?_
   refine wp_seq_k fun K hK=>?_
   refine wp_reg fun K hK=>?_
   refine S.m rfl (S.g 2 rfl) rfl fun a w G S=>?_
   refine S.s (OpR.zeql S.ok rfl (S.e 0 rfl) (rfl : _ = nv .i64 0) MT.self) rfl fun a w G S=>?_
   refine wn hK ?_;clear hK K
   replace S:=S.d1
   refine S.cond 0 rfl (fun hc9=>?_) (fun hc9=>?_)
   ·
    have hp10:=of_decide_eq_true hc9
    refine wp_reg fun K hK=>?_
    refine S.m rfl (S.g 2 rfl) rfl fun a w G S=>?_
    replace S:=S.d5
    refine S.q rfl (S.g 0 rfl) rfl fun a w G S=>?_
    refine wn hK ?_;clear hK K
    replace S:=S.d1
    exact wp_ret (then_ret (then_ret (S.retTmp rfl ((S.e 0 rfl).trans (iv_eq (by first | (exfalso;omega) | (unfold surdsF;first | rw [if_pos (by omega),if_pos (by omega)] | rw [if_pos (by omega),if_neg (by omega)] | rw [if_neg (by omega)])))))))
   ·
    have hp11:=of_decide_eq_false hc9
    refine wp_skip ?_
    refine hK _ _ ?_;clear hK K
    refine wp_reg fun K hK=>?_
    refine S.m rfl (S.g 3 rfl) rfl fun a w G S=>?_
    replace S:=S.d5
    refine S.q rfl (S.g 0 rfl) rfl fun a w G S=>?_
    refine wn hK ?_;clear hK K
    replace S:=S.d1
    exact wp_ret (then_ret (S.retTmp rfl ((S.e 0 rfl).trans (iv_eq (by first | (exfalso;omega) | (unfold surdsF;first | rw [if_pos (by omega),if_pos (by omega)] | rw [if_pos (by omega),if_neg (by omega)] | rw [if_neg (by omega)]))))))
  ·
   have hp12:=of_decide_eq_false hc7
   replace S:=S.boolIs 0 rfl hc7
   refine S.stepG 0 (OpR.mv S.ok rfl (S.g 10 rfl)) rfl rfl rfl rfl rfl rfl fun a w G S=>?_
   refine S.stepG 1 (OpR.mv S.ok rfl (S.g 10 rfl)) rfl rfl rfl rfl rfl rfl fun a w G S=>?_
   refine S.stepG 2 (OpR.zeql S.ok rfl (S.e 1 rfl) (S.e 0 rfl) MT.self) rfl rfl rfl rfl rfl rfl fun a w G S=>?_
   refine S.s (τ:=BT (decide ((surdF x y d) = (z.num.sign * e.num.sign)))) (OpR.pick S.ok rfl (S.e 3 rfl) (S.g 0 rfl)) rfl fun a w G S=>?_
   refine wn hK ?_;clear hK K
   replace S:=S.d12.d11.d10.d9.d8.d7.d6.d5.d4.d3.d2.d1
   refine S.cond 0 rfl (fun hc13=>?_) (fun hc13=>?_)
   ·
    have hp14:=of_decide_eq_true hc13
    refine wp_seq_k fun K hK=>?_
    refine wp_reg fun K hK=>?_
    refine S.m rfl (S.g 2 rfl) rfl fun a w G S=>?_
    refine S.s (OpR.zeql S.ok rfl (S.e 0 rfl) (rfl : _ = nv .i64 0) MT.self) rfl fun a w G S=>?_
    refine wn hK ?_;clear hK K
    replace S:=S.d1
    refine S.cond 0 rfl (fun hc15=>?_) (fun hc15=>?_)
    ·
     have hp16:=of_decide_eq_true hc15
     refine wp_reg fun K hK=>?_
     refine S.m rfl (S.g 2 rfl) rfl fun a w G S=>?_
     replace S:=S.d5
     refine S.q rfl (S.g 0 rfl) rfl fun a w G S=>?_
     refine wn hK ?_;clear hK K
     replace S:=S.d1
     exact wp_ret (then_ret (then_ret (S.retTmp rfl ((S.e 0 rfl).trans (iv_eq (by first | (exfalso;omega) | (unfold surdsF;first | rw [if_pos (by omega),if_pos (by omega)] | rw [if_pos (by omega),if_neg (by omega)] | rw [if_neg (by omega)])))))))
    ·
     have hp17:=of_decide_eq_false hc15
     refine wp_skip ?_
     refine hK _ _ ?_;clear hK K
     refine wp_reg fun K hK=>?_
     refine S.m rfl (S.g 3 rfl) rfl fun a w G S=>?_
     replace S:=S.d5
     refine S.q rfl (S.g 0 rfl) rfl fun a w G S=>?_
     refine wn hK ?_;clear hK K
     replace S:=S.d1
     exact wp_ret (then_ret (S.retTmp rfl ((S.e 0 rfl).trans (iv_eq (by first | (exfalso;omega) | (unfold surdsF;first | rw [if_pos (by omega),if_pos (by omega)] | rw [if_pos (by omega),if_neg (by omega)] | rw [if_neg (by omega)]))))))
   ·
    have hp18:=of_decide_eq_false hc13
    refine wp_skip ?_
    refine hK _ _ ?_;clear hK K
    refine wp_seq_k fun K hK=>?_
    refine S.drawn [⟨39,.g (QV n0 x),[]⟩,⟨40,.g (QV n0 x),[]⟩,⟨41,.g (QC (n0 + n0) (x * x)),[0,1]⟩,⟨42,.g (QV n1 y),[]⟩,⟨43,.g (QV n1 y),[]⟩,⟨44,.g (QC (n1 + n1) (y * y)),[3,4]⟩,⟨45,.g (QV n2 d),[]⟩,⟨46,.g (QC ((n1 + n1) + n2) ((y * y) * d)),[5,6]⟩,⟨47,.g (QC ((n0 + n0) + ((n1 + n1) + n2) + 1) ((x * x) + ((y * y) * d))),[2,7]⟩,⟨13,.al mkP 24 (some 3) (MT.ex (.agg #[.bool false,.slice none 0 0,.slice none 0 0])),[]⟩] mixedOrders (by kernel_rfl)
     ⟨fun a w G S=>.of rfl (OpR.ldBox S.ok rfl (S.e 8 rfl) (S.box 4 rfl) tS_24),
      fun a w G S=>.of rfl (OpR.ldBox S.ok rfl (S.e 8 rfl) (S.box 4 rfl) tS_24),
      fun a w G S=>.of rfl (OpR.call2 rfl c_59 (gMul_ok S.ok (S.g 0 rfl) (S.g 1 rfl) (by omega))),
      fun a w G S=>.of rfl (OpR.ldBox S.ok rfl (S.e 7 rfl) (S.box 3 rfl) tS_24),
      fun a w G S=>.of rfl (OpR.ldBox S.ok rfl (S.e 7 rfl) (S.box 3 rfl) tS_24),
      fun a w G S=>.of rfl (OpR.call2 rfl c_59 (gMul_ok S.ok (S.g 0 rfl) (S.g 1 rfl) (by omega))),
      fun a w G S=>.of rfl (OpR.ldBox S.ok rfl (S.e 6 rfl) (S.box 2 rfl) tS_24),
      fun a w G S=>.of rfl (OpR.call2 rfl c_59 (gMul_ok S.ok (QC.toQV (S.g 0 rfl)) (S.g 1 rfl) (by omega))),
      fun a w G S=>.of rfl (OpR.call2 rfl c_57 (gAdd_ok S.ok (QC.toQV (S.g 0 rfl)) (QC.toQV (S.g 1 rfl)) (by omega))),
      ⟨fun _=>rfl,rfl,fun a w G S=>OpB.alloc S.ok rfl z_24 zs_24⟩,trivial⟩ fun β a w G S=>?_
    replace S : St W0 G0 65 [(13,PB (β 9)),(47,QC ((n0 + n0) + ((n1 + n1) + n2) + 1) ((x * x) + ((y * y) * d))),(34,BT (decide ((surdF x y d) = (z.num.sign * e.num.sign)))),(12,IT (z.num.sign * e.num.sign)),(11,IT (surdF x y d)),(10,NT 0),(9,PB b9),(8,PB b8),(7,PB b7),(6,PB b6),(5,PB b5)] [⟨(β 9),24,some 3,MT.ex ((.agg #[.bool false,.slice none 0 0,.slice none 0 0] : Value))⟩,⟨b9,24,some 3,QV n4 e⟩,⟨b8,24,some 3,QV n3 z⟩,⟨b7,24,some 3,QV n2 d⟩,⟨b6,24,some 3,QV n1 y⟩,⟨b5,24,some 3,QV n0 x⟩] a _ _:=S.keep [0,1,10,11,12,13,14,15,16,17,18]
    generalize β 9 = b13 at S
    refine S.store (τ:=QC ((n0 + n0) + ((n1 + n1) + n2) + 1) ((x * x) + ((y * y) * d))) 0 rfl rfl rfl rfl (S.e 0 rfl) tS_24 (S.g 1 rfl) (sh (τ:=QC ((n0 + n0) + ((n1 + n1) + n2) + 1) ((x * x) + ((y * y) * d))) (S.g 1 rfl)) fun w S=>?_
    replace S:=S.n0
    refine wn hK ?_;clear hK K
    replace S:=S.d1
    refine wp_seq_k fun K hK=>?_
    refine S.drawn [⟨48,.g (QC 64 2),[]⟩,⟨49,.g (QV n0 x),[]⟩,⟨50,.g (QV n1 y),[]⟩,⟨51,.g (QC (n0 + n1) (x * y)),[1,2]⟩,⟨52,.g (QC (64 + (n0 + n1)) (2 * (x * y))),[0,3]⟩,⟨14,.al mkP 24 (some 3) (MT.ex (.agg #[.bool false,.slice none 0 0,.slice none 0 0])),[]⟩] mixedOrders (by kernel_rfl)
     ⟨fun a w G S=>.of rfl (OpR.conv' (OpR.call1 rfl c_50 (gOf_ok S.ok ((rfl : _ = nv .i64 2).trans (iv_eq (by first | rfl | omega | (simp only [Nat.zero_add,Nat.add_zero];done) | (simp;done) | (push_cast;omega)))) (by omega))) fun _ _ h=>(QC.eq h (by rfl))),
      fun a w G S=>.of rfl (OpR.ldBox S.ok rfl (S.e 9 rfl) (S.box 5 rfl) tS_24),
      fun a w G S=>.of rfl (OpR.ldBox S.ok rfl (S.e 8 rfl) (S.box 4 rfl) tS_24),
      fun a w G S=>.of rfl (OpR.call2 rfl c_59 (gMul_ok S.ok (S.g 0 rfl) (S.g 1 rfl) (by omega))),
      fun a w G S=>.of rfl (OpR.call2 rfl c_59 (gMul_ok S.ok (QC.toQV (S.g 0 rfl)) (QC.toQV (S.g 1 rfl)) (by omega))),
      ⟨fun _=>rfl,rfl,fun a w G S=>OpB.alloc S.ok rfl z_24 zs_24⟩,trivial⟩ fun β a w G S=>?_
    replace S : St W0 G0 65 [(14,PB (β 5)),(52,QC (64 + (n0 + n1)) (2 * (x * y))),(13,PB b13),(34,BT (decide ((surdF x y d) = (z.num.sign * e.num.sign)))),(12,IT (z.num.sign * e.num.sign)),(11,IT (surdF x y d)),(10,NT 0),(9,PB b9),(8,PB b8),(7,PB b7),(6,PB b6),(5,PB b5)] [⟨(β 5),24,some 3,MT.ex ((.agg #[.bool false,.slice none 0 0,.slice none 0 0] : Value))⟩,⟨b13,24,some 3,QC ((n0 + n0) + ((n1 + n1) + n2) + 1) ((x * x) + ((y * y) * d))⟩,⟨b9,24,some 3,QV n4 e⟩,⟨b8,24,some 3,QV n3 z⟩,⟨b7,24,some 3,QV n2 d⟩,⟨b6,24,some 3,QV n1 y⟩,⟨b5,24,some 3,QV n0 x⟩] a _ _:=S.keep [0,1,6,7,8,9,10,11,12,13,14,15]
    generalize β 5 = b14 at S
    refine S.store (τ:=QC (64 + (n0 + n1)) (2 * (x * y))) 0 rfl rfl rfl rfl (S.e 0 rfl) tS_24 (S.g 1 rfl) (sh (τ:=QC (64 + (n0 + n1)) (2 * (x * y))) (S.g 1 rfl)) fun w S=>?_
    replace S:=S.n0
    refine wn hK ?_;clear hK K
    replace S:=S.d1
    refine wp_seq_k fun K hK=>?_
    replace S:=S.d5
    refine S.drawn [⟨53,.g (IT (surdF x y d)),[]⟩,⟨54,.g (QC ((n0 + n0) + ((n1 + n1) + n2) + 1) ((x * x) + ((y * y) * d))),[]⟩,⟨55,.g (QV n3 z),[]⟩,⟨56,.g (QV n3 z),[]⟩,⟨57,.g (QC (n3 + n3) (z * z)),[2,3]⟩,⟨58,.g (QV n4 e),[]⟩,⟨59,.g (QC ((n3 + n3) + n4) ((z * z) * e)),[4,5]⟩,⟨60,.g (QC (((n0 + n0) + ((n1 + n1) + n2) + 1) + ((n3 + n3) + n4) + 1) (((x * x) + ((y * y) * d)) - ((z * z) * e))),[1,6]⟩,⟨61,.g (QC (64 + (n0 + n1)) (2 * (x * y))),[]⟩,⟨62,.g (QV n2 d),[]⟩,⟨63,.g (IT (surdF (((x * x) + ((y * y) * d)) - ((z * z) * e)) (2 * (x * y)) d)),[7,8,9]⟩,⟨64,.g (IT (surdF x y d * surdF (x * x + y * y * d - z * z * e) (2 * (x * y)) d)),[0,10]⟩,⟨10,.g (IT (surdF x y d * surdF (x * x + y * y * d - z * z * e) (2 * (x * y)) d)),[11]⟩] mixedOrders (by kernel_rfl)
     ⟨fun a w G S=>.of rfl (OpR.mv S.ok rfl (S.g 4 rfl)),
      fun a w G S=>.of rfl (OpR.ldBox S.ok rfl (S.e 1 rfl) (S.box 1 rfl) tS_24),
      fun a w G S=>.of rfl (OpR.ldBox S.ok rfl (S.e 6 rfl) (S.box 3 rfl) tS_24),
      fun a w G S=>.of rfl (OpR.ldBox S.ok rfl (S.e 6 rfl) (S.box 3 rfl) tS_24),
      fun a w G S=>.of rfl (OpR.call2 rfl c_59 (gMul_ok S.ok (S.g 0 rfl) (S.g 1 rfl) (by omega))),
      fun a w G S=>.of rfl (OpR.ldBox S.ok rfl (S.e 5 rfl) (S.box 2 rfl) tS_24),
      fun a w G S=>.of rfl (OpR.call2 rfl c_59 (gMul_ok S.ok (QC.toQV (S.g 0 rfl)) (S.g 1 rfl) (by omega))),
      fun a w G S=>.of rfl (OpR.call2 rfl c_56 (gSub_ok S.ok (QC.toQV (S.g 0 rfl)) (QC.toQV (S.g 1 rfl)) (by omega))),
      fun a w G S=>.of rfl (OpR.ldBox S.ok rfl (S.e 0 rfl) (S.box 0 rfl) tS_24),
      fun a w G S=>.of rfl (OpR.ldBox S.ok rfl (S.e 7 rfl) (S.box 4 rfl) tS_24),
      fun a w G S=>.of rfl (OpR.call3 rfl c_91 (rSurd_ok S.ok (QC.toQV (S.g 0 rfl)) (QC.toQV (S.g 1 rfl)) (S.g 2 rfl) (by omega))),
      fun a w G S=>.of rfl (OpR.imul S.ok rfl (S.e 0 rfl) (S.e 1 rfl) (iw_i64 rfl (surd_mul_bd _ _ _ _ _ _))),
      fun a w G S=>.of rfl (OpR.asn S.ok rfl (S.g 0 rfl)),trivial⟩ fun β a w G S=>?_
    replace S : St W0 G0 65 [(10,IT (surdF x y d * surdF (x * x + y * y * d - z * z * e) (2 * (x * y)) d)),(14,PB b14),(13,PB b13),(34,BT (decide ((surdF x y d) = (z.num.sign * e.num.sign)))),(12,IT (z.num.sign * e.num.sign)),(11,IT (surdF x y d)),(9,PB b9),(8,PB b8),(7,PB b7),(6,PB b6),(5,PB b5)] [⟨b14,24,some 3,QC (64 + (n0 + n1)) (2 * (x * y))⟩,⟨b13,24,some 3,QC ((n0 + n0) + ((n1 + n1) + n2) + 1) ((x * x) + ((y * y) * d))⟩,⟨b9,24,some 3,QV n4 e⟩,⟨b8,24,some 3,QV n3 z⟩,⟨b7,24,some 3,QV n2 d⟩,⟨b6,24,some 3,QV n1 y⟩,⟨b5,24,some 3,QV n0 x⟩] a _ _:=S.keep [0,13,14,15,16,17,18,19,20,21,22]
    refine wn hK ?_;clear hK K
    exact wp_ret (S.retTmp rfl ((S.e 0 rfl).trans (iv_eq (by first | (exfalso;omega) | (unfold surdsF;first | rw [if_pos (by omega),if_pos (by omega)] | rw [if_pos (by omega),if_neg (by omega)] | rw [if_neg (by omega)])))))
end Go.Proofs.YtpbkcbnghhodiaaGreat
namespace Go.Proofs.YtpbkcbnghhodiaaGreat
set_option maxHeartbeats 1000000
set_option maxRecDepth 100000
open Go.RowKit (Below)
private theorem ap_108 : ∀ {u0 : Value} {u1 : Value} {u2 : Value} {u3 : Value} (h0 : ∃ z,u0 = Value.int .i64 z) (h1 : ∃ z,u1 = Value.int .i64 z) (h2 : ∃ z,u2 = Value.int .i64 z) (h3 : ∃ z,u3 = Value.int .i64 z),Tryz.prog.built 108 [(0,u0),(1,u1),(2,u2),(3,u3)] = some (flat [u0,u1,u2,u3]).toArray:=by
 intro u0 u1 u2 u3 h0 h1 h2 h3
 obtain ⟨z0,rfl⟩:=h0
 obtain ⟨z1,rfl⟩:=h1
 obtain ⟨z2,rfl⟩:=h2
 obtain ⟨z3,rfl⟩:=h3
 kernel_rfl
private theorem c_39 : callable Tryz.prog 39 = true:=by kernel_rfl
private theorem c_54 : callable Tryz.prog 54 = true:=by kernel_rfl
private theorem c_55 : callable Tryz.prog 55 = true:=by kernel_rfl
private theorem c_58 : callable Tryz.prog 58 = true:=by kernel_rfl
private theorem tS_108 : tyS Tryz.prog 108 (some 4) = true:=by kernel_rfl
private theorem tS_3 : tyS Tryz.prog 3 (none) = true:=by kernel_rfl
private theorem tS_78 : tyS Tryz.prog 78 (some 12) = true:=by kernel_rfl
private theorem z_108 : (Tryz.prog.info? 108).bind (·.zero) = some (.agg #[.int .i64 0,.int .i64 0,.int .i64 0,.int .i64 0]):=by kernel_rfl
private theorem zs_108 : Shaped (some 4) (.agg #[.int .i64 0,.int .i64 0,.int .i64 0,.int .i64 0]):=⟨_,rfl,rfl,by simp [Value.oneCell']⟩
theorem rSorted_ok {n : Nat} {rg ra rb rc : FR} {v1 : Value} {W0 : World} {G0 : Gh} (hok : Gok W0 G0) (h1 : (PTS [(some 3,FX n rg),(some 3,FX n ra),(some 3,FX n rb),(some 3,FX n rc)]).t v1 G0) (hn : 1000 * n + 10000 ≤ BIG) (hn1 : 1 ≤ n) : Calls Tryz.prog 55 #[v1] W0 (Ret W0 G0 (ARN (none) ((orderF ([rg,ra,rb,rc].map FR.val)).map NT))):=by
 refine St.enter (N:=42) (L:=[(0,PTS [(some 3,FX n rg),(some 3,FX n ra),(some 3,FX n rb),(some 3,FX n rc)])]) (args:=[v1]) Tryz.func55 rfl rfl rfl hok (enter1 h1) fun a S=>?_
 refine wp_reg fun K hK=>?_
 refine S.boxop (x:=.tmp 0) (τ:=PTS [(some 3,FX n rg),(some 3,FX n ra),(some 3,FX n rb),(some 3,FX n rc)]) (S.g 0 rfl) (sh (τ:=PTS [(some 3,FX n rg),(some 3,FX n ra),(some 3,FX n rb),(some 3,FX n rc)]) (S.g 0 rfl)) rfl rfl rfl rfl rfl fun b1 a w G S=>?_
 refine S.alloc rfl rfl rfl z_108 zs_108 rfl rfl fun b2 a w G S=>?_
 refine wn hK ?_;clear hK K
 replace S:=S.d2
 refine wp_reg fun K hK=>?_
 refine S.s (OpR.ldBox S.ok rfl (S.e 1 rfl) (S.box 1 rfl) tS_78) rfl fun a w G S=>?_
 refine S.s (τ:=ARN (some 3) (([rg,ra,rb,rc]).map (FX n))) (OpR.call1 rfl c_54 (rSquares_ok S.ok (S.g 0 rfl))) rfl fun a w G S=>?_
 refine S.s (τ:=ARN (none) (([0,1,2,3]).map NT)) (OpR.conv' (OpR.bldP (us:=[Value.int .i64 (0),Value.int .i64 (1),Value.int .i64 (2),Value.int .i64 (3)]) (fs:=(List.map NT [0,1,2,3]).map fun τ=>(none,τ)) S.ok rfl (by simp only [List.map_toArray,List.map_cons,List.map_nil];exact ap_108 (u0:=Value.int .i64 (0)) (u1:=Value.int .i64 (1)) (u2:=Value.int .i64 (2)) (u3:=Value.int .i64 (3)) ⟨_,(rfl : _ = nv .i64 0)⟩ ⟨_,(rfl : _ = nv .i64 1)⟩ ⟨_,(rfl : _ = nv .i64 2)⟩ ⟨_,(rfl : _ = nv .i64 3)⟩) rfl (pts_cons (sh (τ:=NT 0) (G:=fun _=>none) (rfl : _ = nv .i64 0)) (rfl : _ = nv .i64 0) (pts_cons (sh (τ:=NT 1) (G:=fun _=>none) (rfl : _ = nv .i64 1)) (rfl : _ = nv .i64 1) (pts_cons (sh (τ:=NT 2) (G:=fun _=>none) (rfl : _ = nv .i64 2)) (rfl : _ = nv .i64 2) (pts_cons (sh (τ:=NT 3) (G:=fun _=>none) (rfl : _ = nv .i64 3)) (rfl : _ = nv .i64 3) pts_nil))))) fun _ _ h=>PTS.arn h) rfl fun a w G S=>?_
 refine S.alloc rfl rfl rfl z_106 zs_106 rfl rfl fun b3 a w G S=>?_
 refine S.alloc rfl rfl rfl z_108 zs_108 rfl rfl fun b4 a w G S=>?_
 refine S.store (τ:=ARN (some 3) (([rg,ra,rb,rc]).map (FX n))) 1 rfl rfl rfl rfl (S.e 1 rfl) tS_106 (S.g 3 rfl) (sh (τ:=ARN (some 3) (([rg,ra,rb,rc]).map (FX n))) (S.g 3 rfl)) fun w S=>?_
 replace S:=S.n1
 replace S:=(S.castBox (τ':=ROWS (some 3) (([rg,ra,rb,rc]).map (FX n))) 1 rfl fun _ h _=>ARN.rows h).n1
 refine S.store (τ:=ARN (none) (([0,1,2,3]).map NT)) 0 rfl rfl rfl rfl (S.e 0 rfl) tS_108 (S.g 2 rfl) (sh (τ:=ARN (none) (([0,1,2,3]).map NT)) (S.g 2 rfl)) fun w S=>?_
 replace S:=S.n0
 replace S:=(S.castBox (τ':=ROWS (none) (([0,1,2,3]).map NT)) 0 rfl fun _ h _=>ARN.rows h).n0
 refine wn hK ?_;clear hK K
 replace S:=S.d6.d4.d3.d2
 refine wp_seq_k fun K hK=>?_
 refine wp_reg fun K hK=>?_
 refine S.s (τ:=NT 0) (OpR.mv S.ok rfl (rfl : _ = nv .i64 0)) rfl fun a w G S=>?_
 refine wn hK ?_;clear hK K
 refine wp_block ?_
 replace S:=S.castBox (τ':=ROWS (none) ((bub ([rg,ra,rb,rc].map FR.val) 0).map NT)) 0 rfl fun _ h _=>(ROWS.eqM h rfl)
 replace S:=S.n0
 refine wp_loopJ (fun μ a w=>∃ (p : Nat) (G : Gh),μ = 4 - p ∧ (p ≤ 4) ∧  St W0 G0 42 [(9,NT p),(4,PB b4),(3,PB b3),(2,PB b2)] [⟨b4,108,some 4,ROWS (none) ((bub ([rg,ra,rb,rc].map FR.val) p).map NT)⟩,⟨b3,106,some 12,ROWS (some 3) (([rg,ra,rb,rc]).map (FX n))⟩,⟨b2,108,some 4,MT.ex ((.agg #[.int .i64 0,.int .i64 0,.int .i64 0,.int .i64 0] : Value))⟩,⟨b1,78,some 12,PTS [(some 3,FX n rg),(some 3,FX n ra),(some 3,FX n rb),(some 3,FX n rc)]⟩] a w G) (4 - 0) ⟨0,_,rfl,(by omega),(S.keep [0,1,2,3]).keepB [0,1,2,3] (by decide)⟩ ?_
 clear S
 intro μ a w ⟨p,G,hm,hp,S⟩
 refine wp_reg fun K hK=>?_
 refine S.s (OpR.nlss S.ok rfl (S.e 0 rfl) (rfl : _ = nv .i64 4) MT.self) rfl fun a w G S=>?_
 refine wn hK ?_;clear hK K
 refine wp_seq_k fun K hK=>?_
 refine S.cond 0 rfl (fun hc1=>?_) (fun hc1=>?_)
 ·
  have hp2:=of_decide_eq_true hc1
  refine wp_skip ?_
  refine hK _ _ ?_;clear hK K
  refine wp_seq_k fun K hK=>?_
  refine wp_block ?_
  refine wp_reg fun K hK=>?_
  refine S.s (τ:=NT 0) (OpR.mv S.ok rfl (rfl : _ = nv .i64 0)) rfl fun a w G S=>?_
  refine wn hK ?_;clear hK K
  refine wp_block ?_
  replace S:=S.castBox (τ':=ROWS (none) ((bubP ([rg,ra,rb,rc].map FR.val) (bub ([rg,ra,rb,rc].map FR.val) p) 0).map NT)) 0 rfl fun _ h _=>(ROWS.eqM h rfl)
  replace S:=S.n0
  refine wp_loopJ (fun μ a w=>∃ (j : Nat) (G : Gh),μ = 3 - j ∧ (j ≤ 3) ∧  St W0 G0 42 [(11,NT j),(10,BT (decide (p < 4))),(9,NT p),(4,PB b4),(3,PB b3),(2,PB b2)] [⟨b4,108,some 4,ROWS (none) ((bubP ([rg,ra,rb,rc].map FR.val) (bub ([rg,ra,rb,rc].map FR.val) p) j).map NT)⟩,⟨b3,106,some 12,ROWS (some 3) (([rg,ra,rb,rc]).map (FX n))⟩,⟨b2,108,some 4,MT.ex ((.agg #[.int .i64 0,.int .i64 0,.int .i64 0,.int .i64 0] : Value))⟩,⟨b1,78,some 12,PTS [(some 3,FX n rg),(some 3,FX n ra),(some 3,FX n rb),(some 3,FX n rc)]⟩] a w G) (3 - 0) ⟨0,_,rfl,(by omega),(S.keep [0,1,2,3,4,5]).keepB [0,1,2,3] (by decide)⟩ ?_
  clear S
  intro μ a w ⟨j,G,hm,hj,S⟩
  have hql : (bubP ([rg,ra,rb,rc].map FR.val) (bub ([rg,ra,rb,rc].map FR.val) p) j).length = 4:=bubP_len (bub_len p) j
  have hq1 : (bubP ([rg,ra,rb,rc].map FR.val) (bub ([rg,ra,rb,rc].map FR.val) p) j).getD j default < 4:=getD_lt (bubP_lt (bub_len p) (bub_lt p) j hj) (by decide)
  have hq2 : (bubP ([rg,ra,rb,rc].map FR.val) (bub ([rg,ra,rb,rc].map FR.val) p) j).getD (j + 1) default < 4:=getD_lt (bubP_lt (bub_len p) (bub_lt p) j hj) (by decide)
  refine wp_reg fun K hK=>?_
  refine S.s (OpR.nlss S.ok rfl (S.e 0 rfl) (rfl : _ = nv .i64 3) MT.self) rfl fun a w G S=>?_
  refine wn hK ?_;clear hK K
  refine wp_seq_k fun K hK=>?_
  refine S.cond 0 rfl (fun hc3=>?_) (fun hc3=>?_)
  ·
   have hp4:=of_decide_eq_true hc3
   refine wp_skip ?_
   refine hK _ _ ?_;clear hK K
   refine wp_seq_k fun K hK=>?_
   refine wp_block ?_
   refine wp_reg fun K hK=>?_
   refine S.m rfl (S.g 1 rfl) rfl fun a w G S=>?_
   refine S.q rfl (S.g 0 rfl) rfl fun a w G S=>?_
   refine wn hK ?_;clear hK K
   replace S:=S.d1
   refine wp_seq_k fun K hK=>?_
   refine S.drawn [⟨14,.g (NT j),[]⟩,⟨15,.g (MT.ex (Value.pointer (some ⟨b4,(j) * (none : Option Nat).getD 1,none⟩))),[0]⟩,⟨16,.g (NT ((bubP ([rg,ra,rb,rc].map FR.val) (bub ([rg,ra,rb,rc].map FR.val) p) j).getD j default)),[1]⟩,⟨17,.g (MT.ex (Value.pointer (some ⟨b3,((bubP ([rg,ra,rb,rc].map FR.val) (bub ([rg,ra,rb,rc].map FR.val) p) j).getD j default) * (some 3 : Option Nat).getD 1,none⟩))),[2]⟩,⟨18,.g (FX n (([rg,ra,rb,rc]).getD ((bubP ([rg,ra,rb,rc].map FR.val) (bub ([rg,ra,rb,rc].map FR.val) p) j).getD j default) default)),[3]⟩,⟨19,.g (NT j),[]⟩,⟨20,.g (NT (j + 1)),[5]⟩,⟨21,.g (MT.ex (Value.pointer (some ⟨b4,(j + 1) * (none : Option Nat).getD 1,none⟩))),[6]⟩,⟨22,.g (NT ((bubP ([rg,ra,rb,rc].map FR.val) (bub ([rg,ra,rb,rc].map FR.val) p) j).getD (j + 1) default)),[7]⟩,⟨23,.g (MT.ex (Value.pointer (some ⟨b3,((bubP ([rg,ra,rb,rc].map FR.val) (bub ([rg,ra,rb,rc].map FR.val) p) j).getD (j + 1) default) * (some 3 : Option Nat).getD 1,none⟩))),[8]⟩,⟨24,.g (FX n (([rg,ra,rb,rc]).getD ((bubP ([rg,ra,rb,rc].map FR.val) (bub ([rg,ra,rb,rc].map FR.val) p) j).getD (j + 1) default) default)),[9]⟩,⟨25,.g (IT (cmpQ ((([rg,ra,rb,rc]).getD ((bubP ([rg,ra,rb,rc].map FR.val) (bub ([rg,ra,rb,rc].map FR.val) p) j).getD j default) default).val) ((([rg,ra,rb,rc]).getD ((bubP ([rg,ra,rb,rc].map FR.val) (bub ([rg,ra,rb,rc].map FR.val) p) j).getD (j + 1) default) default).val))),[4,10]⟩,⟨26,.g (BT (decide (cmpQ (([rg,ra,rb,rc].map FR.val).getD ((bubP ([rg,ra,rb,rc].map FR.val) (bub ([rg,ra,rb,rc].map FR.val) p) j).getD j default) default) (([rg,ra,rb,rc].map FR.val).getD ((bubP ([rg,ra,rb,rc].map FR.val) (bub ([rg,ra,rb,rc].map FR.val) p) j).getD (j + 1) default) default) > 0))),[11]⟩] mixedOrders (by kernel_rfl)
    ⟨fun a w G S=>.of rfl (OpR.mv S.ok rfl (S.g 0 rfl)),
     fun a w G S=>.of rfl (OpR.ixAr (i:=j) S.ok rfl Tryz.underlying108 tS_3 (S.e 6 rfl) (S.e 0 rfl) rfl (by first | omega | (rw [hql];omega) | (simp only [List.length_set,hql];omega)) rfl),
     fun a w G S=>.of rfl (OpR.ldSM (k:=none) (T:=NT) (xs:=bubP ([rg,ra,rb,rc].map FR.val) (bub ([rg,ra,rb,rc].map FR.val) p) j) (i:=j) S.ok rfl (S.e 0 rfl) (S.box 0 rfl) tS_3 (by first | omega | (rw [hql];omega) | (simp only [List.length_set,hql];omega))),
     fun a w G S=>.of rfl (OpR.ixAr (i:=(bubP ([rg,ra,rb,rc].map FR.val) (bub ([rg,ra,rb,rc].map FR.val) p) j).getD j default) S.ok rfl Tryz.underlying106 tS_24 (S.e 7 rfl) (S.e 0 rfl) rfl (by first | omega | (rw [hql];omega) | (simp only [List.length_set,hql];omega)) rfl),
     fun a w G S=>.of rfl (OpR.ldSM (k:=some 3) (T:=(FX n)) (xs:=[rg,ra,rb,rc]) (i:=(bubP ([rg,ra,rb,rc].map FR.val) (bub ([rg,ra,rb,rc].map FR.val) p) j).getD j default) S.ok rfl (S.e 0 rfl) (S.box 1 rfl) tS_24 (by first | omega | (rw [hql];omega) | (simp only [List.length_set,hql];omega))),
     fun a w G S=>.of rfl (OpR.mv S.ok rfl (S.g 0 rfl)),
     fun a w G S=>.of rfl (OpR.nadd S.ok rfl (S.e 0 rfl) (rfl : _ = nv .i64 1) (wr_i64 (by omega)) MT.self),
     fun a w G S=>.of rfl (OpR.ixAr (i:=j + 1) S.ok rfl Tryz.underlying108 tS_3 (S.e 6 rfl) (S.e 0 rfl) rfl (by first | omega | (rw [hql];omega) | (simp only [List.length_set,hql];omega)) rfl),
     fun a w G S=>.of rfl (OpR.ldSM (k:=none) (T:=NT) (xs:=bubP ([rg,ra,rb,rc].map FR.val) (bub ([rg,ra,rb,rc].map FR.val) p) j) (i:=j + 1) S.ok rfl (S.e 0 rfl) (S.box 0 rfl) tS_3 (by first | omega | (rw [hql];omega) | (simp only [List.length_set,hql];omega))),
     fun a w G S=>.of rfl (OpR.ixAr (i:=(bubP ([rg,ra,rb,rc].map FR.val) (bub ([rg,ra,rb,rc].map FR.val) p) j).getD (j + 1) default) S.ok rfl Tryz.underlying106 tS_24 (S.e 7 rfl) (S.e 0 rfl) rfl (by first | omega | (rw [hql];omega) | (simp only [List.length_set,hql];omega)) rfl),
     fun a w G S=>.of rfl (OpR.ldSM (k:=some 3) (T:=(FX n)) (xs:=[rg,ra,rb,rc]) (i:=(bubP ([rg,ra,rb,rc].map FR.val) (bub ([rg,ra,rb,rc].map FR.val) p) j).getD (j + 1) default) S.ok rfl (S.e 0 rfl) (S.box 1 rfl) tS_24 (by first | omega | (rw [hql];omega) | (simp only [List.length_set,hql];omega))),
     fun a w G S=>.of rfl (OpR.call2 rfl c_29 (gCmp_ok S.ok (FX.toQV (S.g 0 rfl)) (FX.toQV (S.g 1 rfl)) (by omega))),
     fun a w G S=>.of rfl (OpR.igtr S.ok rfl (S.e 0 rfl) (rfl : _ = nv .i64 0) (bv_eq (by rw [vgetD,vgetD];rfl))),trivial⟩ fun β a w G S=>?_
   replace S : St W0 G0 42 [(26,BT (decide (cmpQ (([rg,ra,rb,rc].map FR.val).getD ((bubP ([rg,ra,rb,rc].map FR.val) (bub ([rg,ra,rb,rc].map FR.val) p) j).getD j default) default) (([rg,ra,rb,rc].map FR.val).getD ((bubP ([rg,ra,rb,rc].map FR.val) (bub ([rg,ra,rb,rc].map FR.val) p) j).getD (j + 1) default) default) > 0))),(5,NT j),(12,BT (decide (j < 3))),(11,NT j),(10,BT (decide (p < 4))),(9,NT p),(4,PB b4),(3,PB b3),(2,PB b2)] [⟨b4,108,some 4,ROWS (none) ((bubP ([rg,ra,rb,rc].map FR.val) (bub ([rg,ra,rb,rc].map FR.val) p) j).map NT)⟩,⟨b3,106,some 12,ROWS (some 3) (([rg,ra,rb,rc]).map (FX n))⟩,⟨b2,108,some 4,MT.ex ((.agg #[.int .i64 0,.int .i64 0,.int .i64 0,.int .i64 0] : Value))⟩,⟨b1,78,some 12,PTS [(some 3,FX n rg),(some 3,FX n ra),(some 3,FX n rb),(some 3,FX n rc)]⟩] a _ _:=S.keep [0,13,14,15,16,17,18,19,20]
   refine wn hK ?_;clear hK K
   refine S.cond 0 rfl (fun hc5=>?_) (fun hc5=>?_)
   ·
    have hp6:=of_decide_eq_true hc5
    refine S.drawnS [⟨27,.g (NT j),[]⟩,⟨28,.g (NT j),[]⟩,⟨29,.g (NT (j + 1)),[1]⟩,⟨30,.g (NT j),[]⟩,⟨31,.g (NT (j + 1)),[3]⟩,⟨32,.g (MT.ex (Value.pointer (some ⟨b4,(j + 1) * (none : Option Nat).getD 1,none⟩))),[4]⟩,⟨33,.g (NT ((bubP ([rg,ra,rb,rc].map FR.val) (bub ([rg,ra,rb,rc].map FR.val) p) j).getD (j + 1) default)),[5]⟩,⟨34,.g (NT j),[]⟩,⟨35,.g (MT.ex (Value.pointer (some ⟨b4,(j) * (none : Option Nat).getD 1,none⟩))),[7]⟩,⟨36,.g (NT ((bubP ([rg,ra,rb,rc].map FR.val) (bub ([rg,ra,rb,rc].map FR.val) p) j).getD j default)),[8]⟩,⟨37,.g (MT.ex (Value.pointer (some ⟨b4,(j) * (none : Option Nat).getD 1,none⟩))),[0]⟩,⟨9998,.st 0 (ROWS (none) (((bubP ([rg,ra,rb,rc].map FR.val) (bub ([rg,ra,rb,rc].map FR.val) p) j).set (j) ((bubP ([rg,ra,rb,rc].map FR.val) (bub ([rg,ra,rb,rc].map FR.val) p) j).getD (j + 1) default)).map NT)),[10,6]⟩,⟨38,.g (MT.ex (Value.pointer (some ⟨b4,(j + 1) * (none : Option Nat).getD 1,none⟩))),[2]⟩] mixedOrders (by kernel_rfl)
     ⟨⟨rfl,fun a w G S=>.of rfl (OpR.mv S.ok rfl (S.g 1 rfl))⟩,
      ⟨rfl,fun a w G S=>.of rfl (OpR.mv S.ok rfl (S.g 1 rfl))⟩,
      ⟨rfl,fun a w G S=>.of rfl (OpR.nadd S.ok rfl (S.e 0 rfl) (rfl : _ = nv .i64 1) (wr_i64 (by omega)) MT.self)⟩,
      ⟨rfl,fun a w G S=>.of rfl (OpR.mv S.ok rfl (S.g 1 rfl))⟩,
      ⟨rfl,fun a w G S=>.of rfl (OpR.nadd S.ok rfl (S.e 0 rfl) (rfl : _ = nv .i64 1) (wr_i64 (by omega)) MT.self)⟩,
      ⟨rfl,fun a w G S=>.of rfl (OpR.ixAr (i:=j + 1) S.ok rfl Tryz.underlying108 tS_3 (S.e 7 rfl) (S.e 0 rfl) rfl (by first | omega | (rw [hql];omega) | (simp only [List.length_set,hql];omega)) rfl)⟩,
      ⟨rfl,fun a w G S=>have S:=S.boxes (B':=[⟨b4,108,some 4,ROWS (none) ((bubP ([rg,ra,rb,rc].map FR.val) (bub ([rg,ra,rb,rc].map FR.val) p) j).map NT)⟩,⟨b3,106,some 12,ROWS (some 3) (([rg,ra,rb,rc]).map (FX n))⟩,⟨b2,108,some 4,MT.ex ((.agg #[.int .i64 0,.int .i64 0,.int .i64 0,.int .i64 0] : Value))⟩,⟨b1,78,some 12,PTS [(some 3,FX n rg),(some 3,FX n ra),(some 3,FX n rb),(some 3,FX n rc)]⟩]) (by kernel_rfl);OpG.of rfl (OpR.ldSM (k:=none) (T:=NT) (xs:=bubP ([rg,ra,rb,rc].map FR.val) (bub ([rg,ra,rb,rc].map FR.val) p) j) (i:=j + 1) S.ok rfl (S.e 0 rfl) (S.box 0 rfl) tS_3 (by first | omega | (rw [hql];omega) | (simp only [List.length_set,hql];omega)))⟩,
      ⟨rfl,fun a w G S=>.of rfl (OpR.mv S.ok rfl (S.g 1 rfl))⟩,
      ⟨rfl,fun a w G S=>.of rfl (OpR.ixAr (i:=j) S.ok rfl Tryz.underlying108 tS_3 (S.e 7 rfl) (S.e 0 rfl) rfl (by first | omega | (rw [hql];omega) | (simp only [List.length_set,hql];omega)) rfl)⟩,
      ⟨rfl,fun a w G S=>have S:=S.boxes (B':=[⟨b4,108,some 4,ROWS (none) ((bubP ([rg,ra,rb,rc].map FR.val) (bub ([rg,ra,rb,rc].map FR.val) p) j).map NT)⟩,⟨b3,106,some 12,ROWS (some 3) (([rg,ra,rb,rc]).map (FX n))⟩,⟨b2,108,some 4,MT.ex ((.agg #[.int .i64 0,.int .i64 0,.int .i64 0,.int .i64 0] : Value))⟩,⟨b1,78,some 12,PTS [(some 3,FX n rg),(some 3,FX n ra),(some 3,FX n rb),(some 3,FX n rc)]⟩]) (by kernel_rfl);OpG.of rfl (OpR.ldSM (k:=none) (T:=NT) (xs:=bubP ([rg,ra,rb,rc].map FR.val) (bub ([rg,ra,rb,rc].map FR.val) p) j) (i:=j) S.ok rfl (S.e 0 rfl) (S.box 0 rfl) tS_3 (by first | omega | (rw [hql];omega) | (simp only [List.length_set,hql];omega)))⟩,
      ⟨rfl,fun a w G S=>.of rfl (OpR.ixAr (i:=j) S.ok rfl Tryz.underlying108 tS_3 (S.e 7 rfl) (S.e 0 rfl) rfl (by first | omega | (rw [hql];omega) | (simp only [List.length_set,hql];omega)) rfl)⟩,
      ⟨rfl,rfl,rfl,.inr ⟨by simp only [List.length_cons,List.length_nil];omega,_,rfl,fun a w G v0 S hv hs h0=>elem_storeS (k:=none) (T:=NT) (z:=(bubP ([rg,ra,rb,rc].map FR.val) (bub ([rg,ra,rb,rc].map FR.val) p) j).getD (j + 1) default) (i:=j) rfl rfl (S.e 0 rfl) tS_3 (S.g 1 rfl) (sh (τ:=NT ((bubP ([rg,ra,rb,rc].map FR.val) (bub ([rg,ra,rb,rc].map FR.val) p) j).getD (j + 1) default)) (S.g 1 rfl)) (by first | omega | (rw [hql];omega) | (simp only [List.length_set,hql];omega)) hv hs h0⟩⟩,
      ⟨rfl,fun a w G S=>.of rfl (OpR.ixAr (i:=j + 1) S.ok rfl Tryz.underlying108 tS_3 (S.e 7 rfl) (S.e 0 rfl) rfl (by first | omega | (rw [hql];omega) | (simp only [List.length_set,hql];omega)) rfl)⟩,trivial⟩ fun β a w G S=>?_
    replace S : St W0 G0 42 [(38,MT.ex (Value.pointer (some ⟨b4,(j + 1) * (none : Option Nat).getD 1,none⟩))),(36,NT ((bubP ([rg,ra,rb,rc].map FR.val) (bub ([rg,ra,rb,rc].map FR.val) p) j).getD j default)),(26,BT (decide (cmpQ (([rg,ra,rb,rc].map FR.val).getD ((bubP ([rg,ra,rb,rc].map FR.val) (bub ([rg,ra,rb,rc].map FR.val) p) j).getD j default) default) (([rg,ra,rb,rc].map FR.val).getD ((bubP ([rg,ra,rb,rc].map FR.val) (bub ([rg,ra,rb,rc].map FR.val) p) j).getD (j + 1) default) default) > 0))),(5,NT j),(12,BT (decide (j < 3))),(11,NT j),(10,BT (decide (p < 4))),(9,NT p),(4,PB b4),(3,PB b3),(2,PB b2)] [⟨b4,108,some 4,ROWS (none) (((bubP ([rg,ra,rb,rc].map FR.val) (bub ([rg,ra,rb,rc].map FR.val) p) j).set (j) ((bubP ([rg,ra,rb,rc].map FR.val) (bub ([rg,ra,rb,rc].map FR.val) p) j).getD (j + 1) default)).map NT)⟩,⟨b3,106,some 12,ROWS (some 3) (([rg,ra,rb,rc]).map (FX n))⟩,⟨b2,108,some 4,MT.ex ((.agg #[.int .i64 0,.int .i64 0,.int .i64 0,.int .i64 0] : Value))⟩,⟨b1,78,some 12,PTS [(some 3,FX n rg),(some 3,FX n ra),(some 3,FX n rb),(some 3,FX n rc)]⟩] a _ _:=S.keep [0,2,12,13,14,15,16,17,18,19,20]
    refine S.setSM (k:=none) (T:=NT) (z:=(bubP ([rg,ra,rb,rc].map FR.val) (bub ([rg,ra,rb,rc].map FR.val) p) j).getD j default) (i:=j + 1) 0 rfl rfl rfl rfl (S.e 0 rfl) tS_3 (S.g 1 rfl) (sh (τ:=NT ((bubP ([rg,ra,rb,rc].map FR.val) (bub ([rg,ra,rb,rc].map FR.val) p) j).getD j default)) (S.g 1 rfl)) (by first | omega | (rw [hql];omega) | (simp only [List.length_set,hql];omega)) fun w S=>?_
    replace S:=S.n0
    refine wpList_nil ?_
    replace S:=S.d1.d0
    refine hK _ _ ?_;clear hK K
    refine wp_region_lit ?_
    refine S.s (OpR.nadd S.ok rfl (S.e 3 rfl) (rfl : _ = nv .i64 1) (wr_i64 (by omega)) MT.self) rfl fun a w G S=>?_
    replace S:=S.d4
    refine S.m rfl (S.g 0 rfl) rfl fun a w G S=>?_
    refine wpList_nil ?_
    replace S:=S.d1
    replace S:=S.castBox (τ':=ROWS (none) ((bubP ([rg,ra,rb,rc].map FR.val) (bub ([rg,ra,rb,rc].map FR.val) p) (j + 1)).map NT)) 0 rfl fun _ h _=>(ROWS.eqM h (by first | exact bub_t ‹_› | exact bub_f ‹_›))
    replace S:=S.n0
    exact ⟨3 - (j + 1),(by omega),j + 1,_,rfl,(by omega),(S.keep [0,4,5,6,7,8]).keepB [0,1,2,3] (by decide)⟩
   ·
    have hp7:=of_decide_eq_false hc5
    refine wp_skip ?_
    refine hK _ _ ?_;clear hK K
    refine wp_region_lit ?_
    refine S.s (OpR.nadd S.ok rfl (S.e 3 rfl) (rfl : _ = nv .i64 1) (wr_i64 (by omega)) MT.self) rfl fun a w G S=>?_
    replace S:=S.d4
    refine S.m rfl (S.g 0 rfl) rfl fun a w G S=>?_
    refine wpList_nil ?_
    replace S:=S.d1
    replace S:=S.castBox (τ':=ROWS (none) ((bubP ([rg,ra,rb,rc].map FR.val) (bub ([rg,ra,rb,rc].map FR.val) p) (j + 1)).map NT)) 0 rfl fun _ h _=>(ROWS.eqM h (by first | exact bub_t ‹_› | exact bub_f ‹_›))
    replace S:=S.n0
    exact ⟨3 - (j + 1),(by omega),j + 1,_,rfl,(by omega),(S.keep [0,4,5,6,7,8]).keepB [0,1,2,3] (by decide)⟩
  ·
   have hp8:=of_decide_eq_false hc3
   refine wp_exit (then_exit (then_exit (exit_same ?_)))
   clear hK K
   refine hK _ _ ?_;clear hK K
   refine wp_region_lit ?_
   refine S.s (OpR.nadd S.ok rfl (S.e 3 rfl) (rfl : _ = nv .i64 1) (wr_i64 (by omega)) MT.self) rfl fun a w G S=>?_
   replace S:=S.d4
   refine S.m rfl (S.g 0 rfl) rfl fun a w G S=>?_
   refine wpList_nil ?_
   replace S:=S.d1
   replace S:=S.castBox (τ':=ROWS (none) ((bub ([rg,ra,rb,rc].map FR.val) (p + 1)).map NT)) 0 rfl fun _ h _=>(ROWS.eqM h (bubP_n ‹_› hj p))
   replace S:=S.n0
   exact ⟨4 - (p + 1),(by omega),p + 1,_,rfl,(by omega),(S.keep [0,4,5,6]).keepB [0,1,2,3] (by decide)⟩
 ·
  have hp9:=of_decide_eq_false hc1
  refine wp_exit (then_exit (then_exit (exit_same ?_)))
  clear hK K
  refine hK _ _ ?_;clear hK K
  refine wp_reg fun K hK=>?_
  refine S.s (OpR.ldArr S.ok rfl (S.e 2 rfl) (S.box 0 rfl) tS_108 (by simp only [List.length_map,bub_len,orderF_len];rfl)) rfl fun a w G S=>?_
  refine S.store (τ:=ARN (none) ((bub ([rg,ra,rb,rc].map FR.val) p).map NT)) 2 rfl rfl rfl rfl (S.e 5 rfl) tS_108 (S.g 0 rfl) (ARN.shN (S.g 0 rfl) (by simp only [List.length_map,bub_len,orderF_len];rfl)) fun w S=>?_
  replace S:=S.n2
  replace S:=(S.castBox (τ':=ROWS (none) ((bub ([rg,ra,rb,rc].map FR.val) p).map NT)) 2 rfl fun _ h _=>ARN.rows h).n2
  refine wn hK ?_;clear hK K
  replace S:=S.d0
  replace S:=(S.castBox (τ':=ARN (none) ((bub ([rg,ra,rb,rc].map FR.val) p).map NT)) 2 rfl fun _ h hs=>ROWS.arn h hs (by simp only [List.length_map,bub_len,orderF_len];rfl)).n2
  exact wp_ret (S.retCell (i:=2) rfl (S.e 4 rfl) rfl tS_108 (fun _ h=>(ARN.eqM h (by rw [show p = 4 by omega];exact bub_ok _))))
theorem rCheck_ok {n : Nat} {rg ra rb rc : FR} {v1 : Value} {W0 : World} {G0 : Gh} (hok : Gok W0 G0) (h1 : (PTS [(some 3,FX n rg),(some 3,FX n ra),(some 3,FX n rb),(some 3,FX n rc)]).t v1 G0) (hn : 1000 * n + 10000 ≤ BIG) (hn1 : 1 ≤ n) : Calls Tryz.prog 27 #[v1] W0 (Ret W0 G0 (IT (chkF [rg,ra,rb,rc]))):=by
 refine St.enter (N:=65) (L:=[(0,PTS [(some 3,FX n rg),(some 3,FX n ra),(some 3,FX n rb),(some 3,FX n rc)])]) (args:=[v1]) Tryz.func27 rfl rfl rfl hok (enter1 h1) fun a S=>?_
 refine wp_reg fun K hK=>?_
 refine S.boxop (x:=.tmp 0) (τ:=PTS [(some 3,FX n rg),(some 3,FX n ra),(some 3,FX n rb),(some 3,FX n rc)]) (S.g 0 rfl) (sh (τ:=PTS [(some 3,FX n rg),(some 3,FX n ra),(some 3,FX n rb),(some 3,FX n rc)]) (S.g 0 rfl)) rfl rfl rfl rfl rfl fun b1 a w G S=>?_
 refine S.s (τ:=NT 0) (OpR.asn S.ok rfl (rfl : _ = nv .i64 0)) rfl fun a w G S=>?_
 refine wn hK ?_;clear hK K
 replace S:=S.d2
 refine wp_reg fun K hK=>?_
 refine S.s (OpR.ldBox S.ok rfl (S.e 1 rfl) (S.box 0 rfl) tS_78) rfl fun a w G S=>?_
 refine S.s (τ:=ARN (some 3) (([rg,ra,rb,rc]).map (FX n))) (OpR.call1 rfl c_54 (rSquares_ok S.ok (S.g 0 rfl))) rfl fun a w G S=>?_
 refine S.alloc rfl rfl rfl z_106 zs_106 rfl rfl fun b3 a w G S=>?_
 refine S.store (τ:=ARN (some 3) (([rg,ra,rb,rc]).map (FX n))) 0 rfl rfl rfl rfl (S.e 0 rfl) tS_106 (S.g 1 rfl) (sh (τ:=ARN (some 3) (([rg,ra,rb,rc]).map (FX n))) (S.g 1 rfl)) fun w S=>?_
 replace S:=S.n0
 replace S:=(S.castBox (τ':=ROWS (some 3) (([rg,ra,rb,rc]).map (FX n))) 0 rfl fun _ h _=>ARN.rows h).n0
 refine wn hK ?_;clear hK K
 replace S:=S.d2.d1
 refine wp_seq_k fun K hK=>?_
 refine wp_reg fun K hK=>?_
 refine S.s (OpR.ldArr S.ok rfl (S.e 0 rfl) (S.box 0 rfl) tS_106 (by simp only [List.length_map,bub_len,orderF_len];rfl)) rfl fun a w G S=>?_
 refine S.s (τ:=NT 0) (OpR.mv S.ok rfl (rfl : _ = nv .i64 0)) rfl fun a w G S=>?_
 refine wn hK ?_;clear hK K
 refine wp_block ?_
 refine wp_loopJ (fun μ a w=>∃ (i : Nat) (G : Gh),μ = 4 - i ∧ (i ≤ 4) ∧ (([rg,ra,rb,rc].take i).all posR = true) ∧  St W0 G0 65 [(16,NT i),(15,ARN (some 3) (([rg,ra,rb,rc]).map (FX n))),(3,PB b3),(2,NT 0),(1,PB b1)] [⟨b3,106,some 12,ROWS (some 3) (([rg,ra,rb,rc]).map (FX n))⟩,⟨b1,78,some 12,PTS [(some 3,FX n rg),(some 3,FX n ra),(some 3,FX n rb),(some 3,FX n rc)]⟩] a w G) (4 - 0) ⟨0,_,rfl,(by omega),rfl,(S.keep [0,1,2,3,4]).keepB [0,1] (by decide)⟩ ?_
 clear S
 intro μ a w ⟨i,G,hm,hi,hg,S⟩
 refine wp_reg fun K hK=>?_
 refine S.s (OpR.nlss S.ok rfl (S.e 0 rfl) (rfl : _ = nv .i64 4) MT.self) rfl fun a w G S=>?_
 refine wn hK ?_;clear hK K
 refine wp_seq_k fun K hK=>?_
 refine S.cond 0 rfl (fun hc1=>?_) (fun hc1=>?_)
 ·
  have hp2:=of_decide_eq_true hc1
  refine wp_skip ?_
  refine hK _ _ ?_;clear hK K
  refine wp_seq_k fun K hK=>?_
  refine wp_block ?_
  refine wp_reg fun K hK=>?_
  refine S.s (τ:=FX n (([rg,ra,rb,rc]).getD i default)) (OpR.ixV (T:=(FX n)) (xs:=[rg,ra,rb,rc]) (i:=i) S.ok rfl Tryz.underlying106 tS_24 (S.g 2 rfl) (S.e 1 rfl) rfl rfl (by first | omega | (simp;omega))) rfl fun a w G S=>?_
  refine S.alloc rfl rfl rfl z_24 zs_24 rfl rfl fun b5 a w G S=>?_
  refine S.store (τ:=FX n (([rg,ra,rb,rc]).getD i default)) 0 rfl rfl rfl rfl (S.e 0 rfl) tS_24 (S.g 1 rfl) (sh (τ:=FX n (([rg,ra,rb,rc]).getD i default)) (S.g 1 rfl)) fun w S=>?_
  replace S:=S.n0
  refine wn hK ?_;clear hK K
  replace S:=S.d1
  refine wp_reg fun K hK=>?_
  refine S.s (OpR.ldBox S.ok rfl (S.e 0 rfl) (S.box 0 rfl) tS_24) rfl fun a w G S=>?_
  refine S.s (τ:=BT ((([rg,ra,rb,rc]).getD i default).ok)) (OpR.call1 rfl c_39 (gValidX_ok S.ok (S.g 0 rfl) (by omega))) rfl fun a w G S=>?_
  refine S.s (OpR.bnot S.ok rfl (S.e 0 rfl) MT.self) rfl fun a w G S=>?_
  refine S.m rfl (S.g 0 rfl) rfl fun a w G S=>?_
  rcases Bool.eq_false_or_eq_true (!((([rg,ra,rb,rc]).getD i default).ok)) with hc3 | hc3
  ·
   replace S:=S.boolIs 0 rfl hc3
   refine S.skipG 0 rfl rfl rfl rfl rfl rfl fun a w G S=>?_
   refine S.skipG 1 rfl rfl rfl rfl rfl rfl fun a w G S=>?_
   refine S.skipG 2 rfl rfl rfl rfl rfl rfl fun a w G S=>?_
   refine S.s (τ:=BT true) (OpR.pick S.ok rfl (S.e 3 rfl) rfl) rfl fun a w G S=>?_
   refine wn hK ?_;clear hK K
   replace S:=S.d8.d7.d6.d5.d4.d3.d2.d1
   refine wp_cond_true (S.e 0 rfl) ?_
   refine wp_reg fun K hK=>?_
   replace S:=S.d6
   refine S.s (τ:=NT 3) (OpR.asn S.ok rfl (rfl : _ = nv .i64 3)) rfl fun a w G S=>?_
   refine wn hK ?_;clear hK K
   exact wp_ret (block_ret (then_ret (then_ret (block_ret (then_ret (S.retTmp rfl ((S.e 0 rfl).trans (iv_eq (by first | exact rchk16 (all_end (show ¬ i < 4 by omega) hg) ‹_› | exact rchk0 (all_end (show ¬ i < 4 by omega) hg) ‹_› | exact (chk3 (all_not (show i < 4 by omega) (by first | exact posR_not1 (not_true_of ‹_›) | exact posR_not2 ‹_›))).symm)))))))))
  ·
   replace S:=S.boolIs 0 rfl hc3
   refine S.stepG 0 (OpR.ldBox S.ok rfl (S.e 5 rfl) (S.box 0 rfl) tS_24) rfl rfl rfl rfl rfl rfl fun a w G S=>?_
   refine S.stepG (τ:=IT (((([rg,ra,rb,rc]).getD i default).val).num.sign)) 1 (OpR.call1 rfl c_30 (gSign_ok S.ok (FX.toQV (S.g 0 rfl)) (by omega))) rfl rfl rfl rfl rfl rfl fun a w G S=>?_
   refine S.stepG 2 (OpR.ileq S.ok rfl (S.e 0 rfl) (rfl : _ = nv .i64 0) MT.self) rfl rfl rfl rfl rfl rfl fun a w G S=>?_
   refine S.s (τ:=BT (decide ((((([rg,ra,rb,rc]).getD i default).val).num.sign) ≤ 0))) (OpR.pick S.ok rfl (S.e 3 rfl) (S.g 0 rfl)) rfl fun a w G S=>?_
   refine wn hK ?_;clear hK K
   replace S:=S.d8.d7.d6.d5.d4.d3.d2.d1
   refine S.cond 0 rfl (fun hc6=>?_) (fun hc6=>?_)
   ·
    have hp7:=of_decide_eq_true hc6
    refine wp_reg fun K hK=>?_
    replace S:=S.d6
    refine S.s (τ:=NT 3) (OpR.asn S.ok rfl (rfl : _ = nv .i64 3)) rfl fun a w G S=>?_
    refine wn hK ?_;clear hK K
    exact wp_ret (block_ret (then_ret (then_ret (block_ret (then_ret (S.retTmp rfl ((S.e 0 rfl).trans (iv_eq (by first | exact rchk16 (all_end (show ¬ i < 4 by omega) hg) ‹_› | exact rchk0 (all_end (show ¬ i < 4 by omega) hg) ‹_› | exact (chk3 (all_not (show i < 4 by omega) (by first | exact posR_not1 (not_true_of ‹_›) | exact posR_not2 ‹_›))).symm)))))))))
   ·
    have hp8:=of_decide_eq_false hc6
    refine wp_skip ?_
    refine hK _ _ ?_;clear hK K
    refine wp_region_lit ?_
    refine S.s (OpR.nadd S.ok rfl (S.e 3 rfl) (rfl : _ = nv .i64 1) (wr_i64 (by omega)) MT.self) rfl fun a w G S=>?_
    replace S:=S.d4
    refine S.m rfl (S.g 0 rfl) rfl fun a w G S=>?_
    refine wpList_nil ?_
    replace S:=S.d1
    exact ⟨4 - (i + 1),(by omega),i + 1,_,rfl,(by omega),(all_snoc (show i < 4 by omega) hg (posR_of (not_false_of ‹_›) ‹_›)),(S.keep [0,4,5,6,7]).keepB [1,2] (by decide)⟩
 ·
  have hp9:=of_decide_eq_false hc1
  refine wp_exit (then_exit (then_exit (exit_same ?_)))
  clear hK K
  refine hK _ _ ?_;clear hK K
  refine wp_reg fun K hK=>?_
  refine S.s (OpR.ldBox S.ok rfl (S.e 5 rfl) (S.box 1 rfl) tS_78) rfl fun a w G S=>?_
  refine S.s (τ:=ARN (none) ((orderF ([rg,ra,rb,rc].map FR.val)).map NT)) (OpR.call1 rfl c_55 (rSorted_ok S.ok (S.g 0 rfl) (by omega) (by omega))) rfl fun a w G S=>?_
  refine S.alloc rfl rfl rfl z_108 zs_108 rfl rfl fun b6 a w G S=>?_
  refine S.store (τ:=ARN (none) ((orderF ([rg,ra,rb,rc].map FR.val)).map NT)) 0 rfl rfl rfl rfl (S.e 0 rfl) tS_108 (S.g 1 rfl) (ARN.shN (S.g 1 rfl) (by simp only [List.length_map,bub_len,orderF_len];rfl)) fun w S=>?_
  replace S:=S.n0
  replace S:=(S.castBox (τ':=ROWS (none) ((orderF ([rg,ra,rb,rc].map FR.val)).map NT)) 0 rfl fun _ h _=>ARN.rows h).n0
  refine wn hK ?_;clear hK K
  replace S:=S.d2.d1
  refine wp_seq_k fun K hK=>?_
  have ho0:=orderF_lt ([rg,ra,rb,rc].map FR.val) 0
  have ho1:=orderF_lt ([rg,ra,rb,rc].map FR.val) 1
  have ho2:=orderF_lt ([rg,ra,rb,rc].map FR.val) 2
  have ho3:=orderF_lt ([rg,ra,rb,rc].map FR.val) 3
  have hol:=orderF_len ([rg,ra,rb,rc].map FR.val)
  refine S.drawnS [⟨30,.g (MT.ex (Value.pointer (some ⟨b6,(0) * (none : Option Nat).getD 1,none⟩))),[]⟩,⟨31,.g (NT ((orderF ([rg,ra,rb,rc].map FR.val)).getD 0 default)),[0]⟩,⟨32,.g (MT.ex (Value.pointer (some ⟨b3,((orderF ([rg,ra,rb,rc].map FR.val)).getD 0 default) * (some 3 : Option Nat).getD 1,none⟩))),[1]⟩,⟨33,.g (FX n (([rg,ra,rb,rc]).getD ((orderF ([rg,ra,rb,rc].map FR.val)).getD 0 default) default)),[2]⟩,⟨34,.g (MT.ex (Value.pointer (some ⟨b6,(1) * (none : Option Nat).getD 1,none⟩))),[]⟩,⟨35,.g (NT ((orderF ([rg,ra,rb,rc].map FR.val)).getD 1 default)),[4]⟩,⟨36,.g (MT.ex (Value.pointer (some ⟨b3,((orderF ([rg,ra,rb,rc].map FR.val)).getD 1 default) * (some 3 : Option Nat).getD 1,none⟩))),[5]⟩,⟨37,.g (FX n (([rg,ra,rb,rc]).getD ((orderF ([rg,ra,rb,rc].map FR.val)).getD 1 default) default)),[6]⟩,⟨38,.g (MT.ex (Value.pointer (some ⟨b6,(2) * (none : Option Nat).getD 1,none⟩))),[]⟩,⟨39,.g (NT ((orderF ([rg,ra,rb,rc].map FR.val)).getD 2 default)),[8]⟩,⟨40,.g (MT.ex (Value.pointer (some ⟨b3,((orderF ([rg,ra,rb,rc].map FR.val)).getD 2 default) * (some 3 : Option Nat).getD 1,none⟩))),[9]⟩,⟨41,.g (FX n (([rg,ra,rb,rc]).getD ((orderF ([rg,ra,rb,rc].map FR.val)).getD 2 default) default)),[10]⟩,⟨42,.g (MT.ex (Value.pointer (some ⟨b6,(3) * (none : Option Nat).getD 1,none⟩))),[]⟩,⟨43,.g (NT ((orderF ([rg,ra,rb,rc].map FR.val)).getD 3 default)),[12]⟩,⟨44,.g (MT.ex (Value.pointer (some ⟨b3,((orderF ([rg,ra,rb,rc].map FR.val)).getD 3 default) * (some 3 : Option Nat).getD 1,none⟩))),[13]⟩,⟨45,.g (FX n (([rg,ra,rb,rc]).getD ((orderF ([rg,ra,rb,rc].map FR.val)).getD 3 default) default)),[14]⟩,⟨7,.al mkP 24 (some 3) (MT.ex (.agg #[.bool false,.slice none 0 0,.slice none 0 0])),[]⟩,⟨8,.al mkP 24 (some 3) (MT.ex (.agg #[.bool false,.slice none 0 0,.slice none 0 0])),[]⟩,⟨9,.al mkP 24 (some 3) (MT.ex (.agg #[.bool false,.slice none 0 0,.slice none 0 0])),[]⟩,⟨10,.al mkP 24 (some 3) (MT.ex (.agg #[.bool false,.slice none 0 0,.slice none 0 0])),[]⟩,⟨9998,.st 19 (FX n (([rg,ra,rb,rc]).getD ((orderF ([rg,ra,rb,rc].map FR.val)).getD 0 default) default)),[16,3]⟩,⟨9998,.st 20 (FX n (([rg,ra,rb,rc]).getD ((orderF ([rg,ra,rb,rc].map FR.val)).getD 1 default) default)),[17,7]⟩,⟨9998,.st 21 (FX n (([rg,ra,rb,rc]).getD ((orderF ([rg,ra,rb,rc].map FR.val)).getD 2 default) default)),[18,11]⟩,⟨9998,.st 22 (FX n (([rg,ra,rb,rc]).getD ((orderF ([rg,ra,rb,rc].map FR.val)).getD 3 default) default)),[19,15]⟩] mixedOrders (by kernel_rfl)
   ⟨⟨rfl,fun a w G S=>.of rfl (OpR.ixAr (i:=0) S.ok rfl Tryz.underlying108 tS_3 (S.e 0 rfl) (rfl : _ = nv .i64 0) rfl (by first | omega | (rw [hol];decide) | (show _ < 4;omega)) rfl)⟩,
    ⟨rfl,fun a w G S=>have S:=S.boxes (B':=[⟨b6,108,some 4,ROWS (none) ((orderF ([rg,ra,rb,rc].map FR.val)).map NT)⟩,⟨b3,106,some 12,ROWS (some 3) (([rg,ra,rb,rc]).map (FX n))⟩,⟨b1,78,some 12,PTS [(some 3,FX n rg),(some 3,FX n ra),(some 3,FX n rb),(some 3,FX n rc)]⟩]) (by kernel_rfl);OpG.of rfl (OpR.ldSM (k:=none) (T:=NT) (xs:=orderF ([rg,ra,rb,rc].map FR.val)) (i:=0) S.ok rfl (S.e 0 rfl) (S.box 0 rfl) tS_3 (by first | omega | (rw [hol];decide) | (show _ < 4;omega)))⟩,
    ⟨rfl,fun a w G S=>.of rfl (OpR.ixAr (i:=(orderF ([rg,ra,rb,rc].map FR.val)).getD 0 default) S.ok rfl Tryz.underlying106 tS_24 (S.e 5 rfl) (S.e 0 rfl) rfl (by first | omega | (rw [hol];decide) | (show _ < 4;omega)) rfl)⟩,
    ⟨rfl,fun a w G S=>have S:=S.boxes (B':=[⟨b6,108,some 4,ROWS (none) ((orderF ([rg,ra,rb,rc].map FR.val)).map NT)⟩,⟨b3,106,some 12,ROWS (some 3) (([rg,ra,rb,rc]).map (FX n))⟩,⟨b1,78,some 12,PTS [(some 3,FX n rg),(some 3,FX n ra),(some 3,FX n rb),(some 3,FX n rc)]⟩]) (by kernel_rfl);OpG.of rfl (OpR.ldSM (k:=some 3) (T:=(FX n)) (xs:=[rg,ra,rb,rc]) (i:=(orderF ([rg,ra,rb,rc].map FR.val)).getD 0 default) S.ok rfl (S.e 0 rfl) (S.box 1 rfl) tS_24 (by first | omega | (rw [hol];decide) | (show _ < 4;omega)))⟩,
    ⟨rfl,fun a w G S=>.of rfl (OpR.ixAr (i:=1) S.ok rfl Tryz.underlying108 tS_3 (S.e 0 rfl) (rfl : _ = nv .i64 1) rfl (by first | omega | (rw [hol];decide) | (show _ < 4;omega)) rfl)⟩,
    ⟨rfl,fun a w G S=>have S:=S.boxes (B':=[⟨b6,108,some 4,ROWS (none) ((orderF ([rg,ra,rb,rc].map FR.val)).map NT)⟩,⟨b3,106,some 12,ROWS (some 3) (([rg,ra,rb,rc]).map (FX n))⟩,⟨b1,78,some 12,PTS [(some 3,FX n rg),(some 3,FX n ra),(some 3,FX n rb),(some 3,FX n rc)]⟩]) (by kernel_rfl);OpG.of rfl (OpR.ldSM (k:=none) (T:=NT) (xs:=orderF ([rg,ra,rb,rc].map FR.val)) (i:=1) S.ok rfl (S.e 0 rfl) (S.box 0 rfl) tS_3 (by first | omega | (rw [hol];decide) | (show _ < 4;omega)))⟩,
    ⟨rfl,fun a w G S=>.of rfl (OpR.ixAr (i:=(orderF ([rg,ra,rb,rc].map FR.val)).getD 1 default) S.ok rfl Tryz.underlying106 tS_24 (S.e 5 rfl) (S.e 0 rfl) rfl (by first | omega | (rw [hol];decide) | (show _ < 4;omega)) rfl)⟩,
    ⟨rfl,fun a w G S=>have S:=S.boxes (B':=[⟨b6,108,some 4,ROWS (none) ((orderF ([rg,ra,rb,rc].map FR.val)).map NT)⟩,⟨b3,106,some 12,ROWS (some 3) (([rg,ra,rb,rc]).map (FX n))⟩,⟨b1,78,some 12,PTS [(some 3,FX n rg),(some 3,FX n ra),(some 3,FX n rb),(some 3,FX n rc)]⟩]) (by kernel_rfl);OpG.of rfl (OpR.ldSM (k:=some 3) (T:=(FX n)) (xs:=[rg,ra,rb,rc]) (i:=(orderF ([rg,ra,rb,rc].map FR.val)).getD 1 default) S.ok rfl (S.e 0 rfl) (S.box 1 rfl) tS_24 (by first | omega | (rw [hol];decide) | (show _ < 4;omega)))⟩,
    ⟨rfl,fun a w G S=>.of rfl (OpR.ixAr (i:=2) S.ok rfl Tryz.underlying108 tS_3 (S.e 0 rfl) (rfl : _ = nv .i64 2) rfl (by first | omega | (rw [hol];decide) | (show _ < 4;omega)) rfl)⟩,
    ⟨rfl,fun a w G S=>have S:=S.boxes (B':=[⟨b6,108,some 4,ROWS (none) ((orderF ([rg,ra,rb,rc].map FR.val)).map NT)⟩,⟨b3,106,some 12,ROWS (some 3) (([rg,ra,rb,rc]).map (FX n))⟩,⟨b1,78,some 12,PTS [(some 3,FX n rg),(some 3,FX n ra),(some 3,FX n rb),(some 3,FX n rc)]⟩]) (by kernel_rfl);OpG.of rfl (OpR.ldSM (k:=none) (T:=NT) (xs:=orderF ([rg,ra,rb,rc].map FR.val)) (i:=2) S.ok rfl (S.e 0 rfl) (S.box 0 rfl) tS_3 (by first | omega | (rw [hol];decide) | (show _ < 4;omega)))⟩,
    ⟨rfl,fun a w G S=>.of rfl (OpR.ixAr (i:=(orderF ([rg,ra,rb,rc].map FR.val)).getD 2 default) S.ok rfl Tryz.underlying106 tS_24 (S.e 5 rfl) (S.e 0 rfl) rfl (by first | omega | (rw [hol];decide) | (show _ < 4;omega)) rfl)⟩,
    ⟨rfl,fun a w G S=>have S:=S.boxes (B':=[⟨b6,108,some 4,ROWS (none) ((orderF ([rg,ra,rb,rc].map FR.val)).map NT)⟩,⟨b3,106,some 12,ROWS (some 3) (([rg,ra,rb,rc]).map (FX n))⟩,⟨b1,78,some 12,PTS [(some 3,FX n rg),(some 3,FX n ra),(some 3,FX n rb),(some 3,FX n rc)]⟩]) (by kernel_rfl);OpG.of rfl (OpR.ldSM (k:=some 3) (T:=(FX n)) (xs:=[rg,ra,rb,rc]) (i:=(orderF ([rg,ra,rb,rc].map FR.val)).getD 2 default) S.ok rfl (S.e 0 rfl) (S.box 1 rfl) tS_24 (by first | omega | (rw [hol];decide) | (show _ < 4;omega)))⟩,
    ⟨rfl,fun a w G S=>.of rfl (OpR.ixAr (i:=3) S.ok rfl Tryz.underlying108 tS_3 (S.e 0 rfl) (rfl : _ = nv .i64 3) rfl (by first | omega | (rw [hol];decide) | (show _ < 4;omega)) rfl)⟩,
    ⟨rfl,fun a w G S=>have S:=S.boxes (B':=[⟨b6,108,some 4,ROWS (none) ((orderF ([rg,ra,rb,rc].map FR.val)).map NT)⟩,⟨b3,106,some 12,ROWS (some 3) (([rg,ra,rb,rc]).map (FX n))⟩,⟨b1,78,some 12,PTS [(some 3,FX n rg),(some 3,FX n ra),(some 3,FX n rb),(some 3,FX n rc)]⟩]) (by kernel_rfl);OpG.of rfl (OpR.ldSM (k:=none) (T:=NT) (xs:=orderF ([rg,ra,rb,rc].map FR.val)) (i:=3) S.ok rfl (S.e 0 rfl) (S.box 0 rfl) tS_3 (by first | omega | (rw [hol];decide) | (show _ < 4;omega)))⟩,
    ⟨rfl,fun a w G S=>.of rfl (OpR.ixAr (i:=(orderF ([rg,ra,rb,rc].map FR.val)).getD 3 default) S.ok rfl Tryz.underlying106 tS_24 (S.e 5 rfl) (S.e 0 rfl) rfl (by first | omega | (rw [hol];decide) | (show _ < 4;omega)) rfl)⟩,
    ⟨rfl,fun a w G S=>have S:=S.boxes (B':=[⟨b6,108,some 4,ROWS (none) ((orderF ([rg,ra,rb,rc].map FR.val)).map NT)⟩,⟨b3,106,some 12,ROWS (some 3) (([rg,ra,rb,rc]).map (FX n))⟩,⟨b1,78,some 12,PTS [(some 3,FX n rg),(some 3,FX n ra),(some 3,FX n rb),(some 3,FX n rc)]⟩]) (by kernel_rfl);OpG.of rfl (OpR.ldSM (k:=some 3) (T:=(FX n)) (xs:=[rg,ra,rb,rc]) (i:=(orderF ([rg,ra,rb,rc].map FR.val)).getD 3 default) S.ok rfl (S.e 0 rfl) (S.box 1 rfl) tS_24 (by first | omega | (rw [hol];decide) | (show _ < 4;omega)))⟩,
    ⟨rfl,fun _=>rfl,rfl,fun a w G S=>OpB.alloc S.ok rfl z_24 zs_24⟩,
    ⟨rfl,fun _=>rfl,rfl,fun a w G S=>OpB.alloc S.ok rfl z_24 zs_24⟩,
    ⟨rfl,fun _=>rfl,rfl,fun a w G S=>OpB.alloc S.ok rfl z_24 zs_24⟩,
    ⟨rfl,fun _=>rfl,rfl,fun a w G S=>OpB.alloc S.ok rfl z_24 zs_24⟩,
    ⟨rfl,rfl,rfl,.inl ⟨_,_,_,_,rfl,tS_24,fun a w G S=>⟨(S.g 0 rfl),sh (τ:=FX n (([rg,ra,rb,rc]).getD ((orderF ([rg,ra,rb,rc].map FR.val)).getD 0 default) default)) (S.g 0 rfl)⟩,by rw [if_neg (by simp only [List.length_cons,List.length_nil];omega)];exact ⟨_,_,_,rfl,rfl,rfl,rfl⟩⟩⟩,
    ⟨rfl,rfl,rfl,.inl ⟨_,_,_,_,rfl,tS_24,fun a w G S=>⟨(S.g 0 rfl),sh (τ:=FX n (([rg,ra,rb,rc]).getD ((orderF ([rg,ra,rb,rc].map FR.val)).getD 1 default) default)) (S.g 0 rfl)⟩,by rw [if_neg (by simp only [List.length_cons,List.length_nil];omega)];exact ⟨_,_,_,rfl,rfl,rfl,rfl⟩⟩⟩,
    ⟨rfl,rfl,rfl,.inl ⟨_,_,_,_,rfl,tS_24,fun a w G S=>⟨(S.g 0 rfl),sh (τ:=FX n (([rg,ra,rb,rc]).getD ((orderF ([rg,ra,rb,rc].map FR.val)).getD 2 default) default)) (S.g 0 rfl)⟩,by rw [if_neg (by simp only [List.length_cons,List.length_nil];omega)];exact ⟨_,_,_,rfl,rfl,rfl,rfl⟩⟩⟩,
    ⟨rfl,rfl,rfl,.inl ⟨_,_,_,_,rfl,tS_24,fun a w G S=>⟨(S.g 0 rfl),sh (τ:=FX n (([rg,ra,rb,rc]).getD ((orderF ([rg,ra,rb,rc].map FR.val)).getD 3 default) default)) (S.g 0 rfl)⟩,by rw [if_neg (by simp only [List.length_cons,List.length_nil];omega)];exact ⟨_,_,_,rfl,rfl,rfl,rfl⟩⟩⟩,trivial⟩ fun β a w G S=>?_
  replace S : St W0 G0 65 [(10,PB (β 19)),(9,PB (β 18)),(8,PB (β 17)),(7,PB (β 16)),(6,PB b6),(17,BT (decide (i < 4))),(16,NT i),(15,ARN (some 3) (([rg,ra,rb,rc]).map (FX n))),(3,PB b3),(2,NT 0),(1,PB b1)] [⟨(β 19),24,some 3,FX n (([rg,ra,rb,rc]).getD ((orderF ([rg,ra,rb,rc].map FR.val)).getD 3 default) default)⟩,⟨(β 18),24,some 3,FX n (([rg,ra,rb,rc]).getD ((orderF ([rg,ra,rb,rc].map FR.val)).getD 2 default) default)⟩,⟨(β 17),24,some 3,FX n (([rg,ra,rb,rc]).getD ((orderF ([rg,ra,rb,rc].map FR.val)).getD 1 default) default)⟩,⟨(β 16),24,some 3,FX n (([rg,ra,rb,rc]).getD ((orderF ([rg,ra,rb,rc].map FR.val)).getD 0 default) default)⟩,⟨b6,108,some 4,ROWS (none) ((orderF ([rg,ra,rb,rc].map FR.val)).map NT)⟩,⟨b3,106,some 12,ROWS (some 3) (([rg,ra,rb,rc]).map (FX n))⟩,⟨b1,78,some 12,PTS [(some 3,FX n rg),(some 3,FX n ra),(some 3,FX n rb),(some 3,FX n rc)]⟩] a _ _:=S.keep [0,1,2,3,20,21,22,23,24,25,26]
  generalize β 16 = b7 at S
  generalize β 17 = b8 at S
  generalize β 18 = b9 at S
  generalize β 19 = b10 at S
  refine wn hK ?_;clear hK K
  refine wp_reg fun K hK=>?_
  refine S.s (τ:=QC 64 (-2)) (OpR.conv' (OpR.call1 rfl c_50 (gOf_ok S.ok (rfl : _ = Value.int .i64 (-2)) (by omega))) fun _ _ h=>(QC.eq h (by rfl))) rfl fun a w G S=>?_
  refine S.alloc rfl rfl rfl z_24 zs_24 rfl rfl fun b11 a w G S=>?_
  refine S.store (τ:=QC 64 (-2)) 0 rfl rfl rfl rfl (S.e 0 rfl) tS_24 (S.g 1 rfl) (sh (τ:=QC 64 (-2)) (S.g 1 rfl)) fun w S=>?_
  replace S:=S.n0
  refine wn hK ?_;clear hK K
  replace S:=S.d1
  refine wp_seq_k fun K hK=>?_
  refine S.drawn [⟨47,.g (FX n (([rg,ra,rb,rc]).getD ((orderF ([rg,ra,rb,rc].map FR.val)).getD 3 default) default)),[]⟩,⟨48,.g (FX n (([rg,ra,rb,rc]).getD ((orderF ([rg,ra,rb,rc].map FR.val)).getD 0 default) default)),[]⟩,⟨49,.g (QC (n + n + 1) (((([rg,ra,rb,rc]).getD ((orderF ([rg,ra,rb,rc].map FR.val)).getD 3 default) default).val) + ((([rg,ra,rb,rc]).getD ((orderF ([rg,ra,rb,rc].map FR.val)).getD 0 default) default).val))),[0,1]⟩,⟨50,.g (FX n (([rg,ra,rb,rc]).getD ((orderF ([rg,ra,rb,rc].map FR.val)).getD 1 default) default)),[]⟩,⟨51,.g (FX n (([rg,ra,rb,rc]).getD ((orderF ([rg,ra,rb,rc].map FR.val)).getD 2 default) default)),[]⟩,⟨52,.g (QC (n + n + 1) (((([rg,ra,rb,rc]).getD ((orderF ([rg,ra,rb,rc].map FR.val)).getD 1 default) default).val) + ((([rg,ra,rb,rc]).getD ((orderF ([rg,ra,rb,rc].map FR.val)).getD 2 default) default).val))),[3,4]⟩,⟨53,.g (QC ((n + n + 1) + (n + n + 1) + 1) ((((([rg,ra,rb,rc]).getD ((orderF ([rg,ra,rb,rc].map FR.val)).getD 3 default) default).val) + ((([rg,ra,rb,rc]).getD ((orderF ([rg,ra,rb,rc].map FR.val)).getD 0 default) default).val)) - (((([rg,ra,rb,rc]).getD ((orderF ([rg,ra,rb,rc].map FR.val)).getD 1 default) default).val) + ((([rg,ra,rb,rc]).getD ((orderF ([rg,ra,rb,rc].map FR.val)).getD 2 default) default).val)))),[2,5]⟩,⟨12,.al mkP 24 (some 3) (MT.ex (.agg #[.bool false,.slice none 0 0,.slice none 0 0])),[]⟩] mixedOrders (by kernel_rfl)
   ⟨fun a w G S=>.of rfl (OpR.ldBox S.ok rfl (S.e 1 rfl) (S.box 1 rfl) tS_24),
    fun a w G S=>.of rfl (OpR.ldBox S.ok rfl (S.e 4 rfl) (S.box 4 rfl) tS_24),
    fun a w G S=>.of rfl (OpR.call2 rfl c_57 (gAdd_ok S.ok (FX.toQV (S.g 0 rfl)) (FX.toQV (S.g 1 rfl)) (by omega))),
    fun a w G S=>.of rfl (OpR.ldBox S.ok rfl (S.e 3 rfl) (S.box 3 rfl) tS_24),
    fun a w G S=>.of rfl (OpR.ldBox S.ok rfl (S.e 2 rfl) (S.box 2 rfl) tS_24),
    fun a w G S=>.of rfl (OpR.call2 rfl c_57 (gAdd_ok S.ok (FX.toQV (S.g 0 rfl)) (FX.toQV (S.g 1 rfl)) (by omega))),
    fun a w G S=>.of rfl (OpR.call2 rfl c_56 (gSub_ok S.ok (QC.toQV (S.g 0 rfl)) (QC.toQV (S.g 1 rfl)) (by omega))),
    ⟨fun _=>rfl,rfl,fun a w G S=>OpB.alloc S.ok rfl z_24 zs_24⟩,trivial⟩ fun β a w G S=>?_
  replace S : St W0 G0 65 [(12,PB (β 7)),(53,QC ((n + n + 1) + (n + n + 1) + 1) ((((([rg,ra,rb,rc]).getD ((orderF ([rg,ra,rb,rc].map FR.val)).getD 3 default) default).val) + ((([rg,ra,rb,rc]).getD ((orderF ([rg,ra,rb,rc].map FR.val)).getD 0 default) default).val)) - (((([rg,ra,rb,rc]).getD ((orderF ([rg,ra,rb,rc].map FR.val)).getD 1 default) default).val) + ((([rg,ra,rb,rc]).getD ((orderF ([rg,ra,rb,rc].map FR.val)).getD 2 default) default).val)))),(11,PB b11),(10,PB b10),(9,PB b9),(8,PB b8),(7,PB b7),(6,PB b6),(17,BT (decide (i < 4))),(16,NT i),(15,ARN (some 3) (([rg,ra,rb,rc]).map (FX n))),(3,PB b3),(2,NT 0),(1,PB b1)] [⟨(β 7),24,some 3,MT.ex ((.agg #[.bool false,.slice none 0 0,.slice none 0 0] : Value))⟩,⟨b11,24,some 3,QC 64 (-2)⟩,⟨b10,24,some 3,FX n (([rg,ra,rb,rc]).getD ((orderF ([rg,ra,rb,rc].map FR.val)).getD 3 default) default)⟩,⟨b9,24,some 3,FX n (([rg,ra,rb,rc]).getD ((orderF ([rg,ra,rb,rc].map FR.val)).getD 2 default) default)⟩,⟨b8,24,some 3,FX n (([rg,ra,rb,rc]).getD ((orderF ([rg,ra,rb,rc].map FR.val)).getD 1 default) default)⟩,⟨b7,24,some 3,FX n (([rg,ra,rb,rc]).getD ((orderF ([rg,ra,rb,rc].map FR.val)).getD 0 default) default)⟩,⟨b6,108,some 4,ROWS (none) ((orderF ([rg,ra,rb,rc].map FR.val)).map NT)⟩,⟨b3,106,some 12,ROWS (some 3) (([rg,ra,rb,rc]).map (FX n))⟩,⟨b1,78,some 12,PTS [(some 3,FX n rg),(some 3,FX n ra),(some 3,FX n rb),(some 3,FX n rc)]⟩] a _ _:=S.keep [0,1,8,9,10,11,12,13,14,15,16,17,18,19]
  generalize β 7 = b12 at S
  refine S.store (τ:=QC ((n + n + 1) + (n + n + 1) + 1) ((((([rg,ra,rb,rc]).getD ((orderF ([rg,ra,rb,rc].map FR.val)).getD 3 default) default).val) + ((([rg,ra,rb,rc]).getD ((orderF ([rg,ra,rb,rc].map FR.val)).getD 0 default) default).val)) - (((([rg,ra,rb,rc]).getD ((orderF ([rg,ra,rb,rc].map FR.val)).getD 1 default) default).val) + ((([rg,ra,rb,rc]).getD ((orderF ([rg,ra,rb,rc].map FR.val)).getD 2 default) default).val)))) 0 rfl rfl rfl rfl (S.e 0 rfl) tS_24 (S.g 1 rfl) (sh (τ:=QC ((n + n + 1) + (n + n + 1) + 1) ((((([rg,ra,rb,rc]).getD ((orderF ([rg,ra,rb,rc].map FR.val)).getD 3 default) default).val) + ((([rg,ra,rb,rc]).getD ((orderF ([rg,ra,rb,rc].map FR.val)).getD 0 default) default).val)) - (((([rg,ra,rb,rc]).getD ((orderF ([rg,ra,rb,rc].map FR.val)).getD 1 default) default).val) + ((([rg,ra,rb,rc]).getD ((orderF ([rg,ra,rb,rc].map FR.val)).getD 2 default) default).val)))) (S.g 1 rfl)) fun w S=>?_
  replace S:=S.n0
  refine wn hK ?_;clear hK K
  replace S:=S.d1
  refine wp_seq_k fun K hK=>?_
  refine wp_seq_k fun K hK=>?_
  refine S.drawn [⟨54,.g (QC ((n + n + 1) + (n + n + 1) + 1) ((((([rg,ra,rb,rc]).getD ((orderF ([rg,ra,rb,rc].map FR.val)).getD 3 default) default).val) + ((([rg,ra,rb,rc]).getD ((orderF ([rg,ra,rb,rc].map FR.val)).getD 0 default) default).val)) - (((([rg,ra,rb,rc]).getD ((orderF ([rg,ra,rb,rc].map FR.val)).getD 1 default) default).val) + ((([rg,ra,rb,rc]).getD ((orderF ([rg,ra,rb,rc].map FR.val)).getD 2 default) default).val)))),[]⟩,⟨55,.g (QC 64 (-2)),[]⟩,⟨56,.g (FX n (([rg,ra,rb,rc]).getD ((orderF ([rg,ra,rb,rc].map FR.val)).getD 3 default) default)),[]⟩,⟨57,.g (FX n (([rg,ra,rb,rc]).getD ((orderF ([rg,ra,rb,rc].map FR.val)).getD 0 default) default)),[]⟩,⟨58,.g (QC (n + n) (((([rg,ra,rb,rc]).getD ((orderF ([rg,ra,rb,rc].map FR.val)).getD 3 default) default).val) * ((([rg,ra,rb,rc]).getD ((orderF ([rg,ra,rb,rc].map FR.val)).getD 0 default) default).val))),[2,3]⟩,⟨59,.g (QC 64 (-2)),[]⟩,⟨60,.g (FX n (([rg,ra,rb,rc]).getD ((orderF ([rg,ra,rb,rc].map FR.val)).getD 1 default) default)),[]⟩,⟨61,.g (FX n (([rg,ra,rb,rc]).getD ((orderF ([rg,ra,rb,rc].map FR.val)).getD 2 default) default)),[]⟩,⟨62,.g (QC (n + n) (((([rg,ra,rb,rc]).getD ((orderF ([rg,ra,rb,rc].map FR.val)).getD 1 default) default).val) * ((([rg,ra,rb,rc]).getD ((orderF ([rg,ra,rb,rc].map FR.val)).getD 2 default) default).val))),[6,7]⟩,⟨63,.g (IT (surdsF ((((([rg,ra,rb,rc]).getD ((orderF ([rg,ra,rb,rc].map FR.val)).getD 3 default) default).val) + ((([rg,ra,rb,rc]).getD ((orderF ([rg,ra,rb,rc].map FR.val)).getD 0 default) default).val)) - (((([rg,ra,rb,rc]).getD ((orderF ([rg,ra,rb,rc].map FR.val)).getD 1 default) default).val) + ((([rg,ra,rb,rc]).getD ((orderF ([rg,ra,rb,rc].map FR.val)).getD 2 default) default).val))) ((-2)) (((([rg,ra,rb,rc]).getD ((orderF ([rg,ra,rb,rc].map FR.val)).getD 3 default) default).val) * ((([rg,ra,rb,rc]).getD ((orderF ([rg,ra,rb,rc].map FR.val)).getD 0 default) default).val)) ((-2)) (((([rg,ra,rb,rc]).getD ((orderF ([rg,ra,rb,rc].map FR.val)).getD 1 default) default).val) * ((([rg,ra,rb,rc]).getD ((orderF ([rg,ra,rb,rc].map FR.val)).getD 2 default) default).val)))),[0,1,4,5,8]⟩,⟨64,.g (BT (decide (rcloseF [rg,ra,rb,rc] > 0))),[9]⟩] mixedOrders (by kernel_rfl)
   ⟨fun a w G S=>.of rfl (OpR.ldBox S.ok rfl (S.e 0 rfl) (S.box 0 rfl) tS_24),
    fun a w G S=>.of rfl (OpR.ldBox S.ok rfl (S.e 1 rfl) (S.box 1 rfl) tS_24),
    fun a w G S=>.of rfl (OpR.ldBox S.ok rfl (S.e 2 rfl) (S.box 2 rfl) tS_24),
    fun a w G S=>.of rfl (OpR.ldBox S.ok rfl (S.e 5 rfl) (S.box 5 rfl) tS_24),
    fun a w G S=>.of rfl (OpR.call2 rfl c_59 (gMul_ok S.ok (FX.toQV (S.g 0 rfl)) (FX.toQV (S.g 1 rfl)) (by omega))),
    fun a w G S=>.of rfl (OpR.ldBox S.ok rfl (S.e 1 rfl) (S.box 1 rfl) tS_24),
    fun a w G S=>.of rfl (OpR.ldBox S.ok rfl (S.e 4 rfl) (S.box 4 rfl) tS_24),
    fun a w G S=>.of rfl (OpR.ldBox S.ok rfl (S.e 3 rfl) (S.box 3 rfl) tS_24),
    fun a w G S=>.of rfl (OpR.call2 rfl c_59 (gMul_ok S.ok (FX.toQV (S.g 0 rfl)) (FX.toQV (S.g 1 rfl)) (by omega))),
    fun a w G S=>.of rfl (OpR.call5 rfl c_58 (rSurds_ok S.ok (QC.toQV (S.g 0 rfl)) (QC.toQV (S.g 1 rfl)) (QC.toQV (S.g 2 rfl)) (QC.toQV (S.g 3 rfl)) (QC.toQV (S.g 4 rfl)) (by omega))),
    fun a w G S=>.of rfl (OpR.igtr S.ok rfl (S.e 0 rfl) (rfl : _ = nv .i64 0) (bv_eq rfl)),trivial⟩ fun β a w G S=>?_
  replace S : St W0 G0 65 [(64,BT (decide (rcloseF [rg,ra,rb,rc] > 0))),(12,PB b12),(11,PB b11),(10,PB b10),(9,PB b9),(8,PB b8),(7,PB b7),(6,PB b6),(17,BT (decide (i < 4))),(16,NT i),(15,ARN (some 3) (([rg,ra,rb,rc]).map (FX n))),(3,PB b3),(2,NT 0),(1,PB b1)] [⟨b12,24,some 3,QC ((n + n + 1) + (n + n + 1) + 1) ((((([rg,ra,rb,rc]).getD ((orderF ([rg,ra,rb,rc].map FR.val)).getD 3 default) default).val) + ((([rg,ra,rb,rc]).getD ((orderF ([rg,ra,rb,rc].map FR.val)).getD 0 default) default).val)) - (((([rg,ra,rb,rc]).getD ((orderF ([rg,ra,rb,rc].map FR.val)).getD 1 default) default).val) + ((([rg,ra,rb,rc]).getD ((orderF ([rg,ra,rb,rc].map FR.val)).getD 2 default) default).val)))⟩,⟨b11,24,some 3,QC 64 (-2)⟩,⟨b10,24,some 3,FX n (([rg,ra,rb,rc]).getD ((orderF ([rg,ra,rb,rc].map FR.val)).getD 3 default) default)⟩,⟨b9,24,some 3,FX n (([rg,ra,rb,rc]).getD ((orderF ([rg,ra,rb,rc].map FR.val)).getD 2 default) default)⟩,⟨b8,24,some 3,FX n (([rg,ra,rb,rc]).getD ((orderF ([rg,ra,rb,rc].map FR.val)).getD 1 default) default)⟩,⟨b7,24,some 3,FX n (([rg,ra,rb,rc]).getD ((orderF ([rg,ra,rb,rc].map FR.val)).getD 0 default) default)⟩,⟨b6,108,some 4,ROWS (none) ((orderF ([rg,ra,rb,rc].map FR.val)).map NT)⟩,⟨b3,106,some 12,ROWS (some 3) (([rg,ra,rb,rc]).map (FX n))⟩,⟨b1,78,some 12,PTS [(some 3,FX n rg),(some 3,FX n ra),(some 3,FX n rb),(some 3,FX n rc)]⟩] a _ _:=S.keep [0,11,12,13,14,15,16,17,18,19,20,21,22,23]
  refine wn hK ?_;clear hK K
  refine S.cond 0 rfl (fun hc10=>?_) (fun hc10=>?_)
  ·
   have hp11:=of_decide_eq_true hc10
   refine wp_reg fun K hK=>?_
   replace S:=S.d12
   refine S.s (τ:=NT 16) (OpR.asn S.ok rfl (rfl : _ = nv .i64 16)) rfl fun a w G S=>?_
   refine wn hK ?_;clear hK K
   exact wp_ret (then_ret (S.retTmp rfl ((S.e 0 rfl).trans (iv_eq (by first | exact rchk16 (all_end (show ¬ i < 4 by omega) hg) ‹_› | exact rchk0 (all_end (show ¬ i < 4 by omega) hg) ‹_› | exact (chk3 (all_not (show i < 4 by omega) (by first | exact posR_not1 (not_true_of ‹_›) | exact posR_not2 ‹_›))).symm)))))
  ·
   have hp12:=of_decide_eq_false hc10
   refine wp_skip ?_
   refine hK _ _ ?_;clear hK K
   refine wp_reg fun K hK=>?_
   replace S:=S.d12
   refine S.s (τ:=NT 0) (OpR.asn S.ok rfl (rfl : _ = nv .i64 0)) rfl fun a w G S=>?_
   refine wn hK ?_;clear hK K
   exact wp_ret (S.retTmp rfl ((S.e 0 rfl).trans (iv_eq (by first | exact rchk16 (all_end (show ¬ i < 4 by omega) hg) ‹_› | exact rchk0 (all_end (show ¬ i < 4 by omega) hg) ‹_› | exact (chk3 (all_not (show i < 4 by omega) (by first | exact posR_not1 (not_true_of ‹_›) | exact posR_not2 ‹_›))).symm))))
end Go.Proofs.YtpbkcbnghhodiaaGreat
set_option linter.unusedVariables false
set_option linter.unusedSimpArgs false
set_option maxHeartbeats 1000000
set_option maxRecDepth 100000
set_option synthInstance.maxSize 100000
set_option synthInstance.maxHeartbeats 400000
namespace Go.Proofs.YtpbkcbnghhodiaaGreat
open Go.RowKit (Below)
attribute [local irreducible] barC trnC btC ciF dsc enR enL cirs exC ofC ofI dirC dirS
theorem shortR_t {r : FR} (h : (decide (((r.p.length : Nat) : Int) > 2) || decide (((r.q.length : Nat) : Int) > 2)) = true) : shortR r = false:=by
  simp only [Bool.or_eq_true,decide_eq_true_eq] at h
  exact shortR_not (by omega)
theorem shortR_f {r : FR} (h : (decide (((r.p.length : Nat) : Int) > 2) || decide (((r.q.length : Nat) : Int) > 2)) = false) : shortR r = true:=by
  simp only [Bool.or_eq_false_iff,decide_eq_false_iff_not] at h
  exact shortR_of (by omega) (by omega)
instance {z : Int} : Con Tryz.prog 11 [.ex (errV 70 (z))] (True) (IT z):=.o1 fun hok h1 hp=>bNum_ok hok h1
instance {z c : Int} : Con Tryz.prog 21 [.ex (errV 70 (z)),IT c] (True) (BT (decide (z = c))):=.o2 fun hok h1 h2 hp=>bIs_ok hok h1 h2
theorem w142 {n m : Nat} {x y : Int} : Con Tryz.prog 142 [W n x,W m y] (y ≠ 0 ∧ n ≤ BIG ∧ m ≤ BIG) (MT.tup2 (QC (max n m) (Rat.divInt x y)) (IT 0)):=.o2 fun hok h1 h2 hp=>by
  refine St.enter (N:=13) Tryz.func142 rfl rfl rfl hok (enter2 h1 h2) fun a=>?_
  repeat' (first | refine W.run ?_ fun a w G=>?_ | refine W.mv fun a w G=>?_ | refine W.asg fun a w G=>?_ | refine W.bx fun b a w G=>?_ | (refine W.nn hK ?_;clear hK K) | refine W.reg fun K hK=>?_ | refine W.reg1 ?_ | refine W.nl ?_ | refine W.sq fun K hK=>?_ | refine W.ds ?_ (fun β a w G hu=>W.fin ?_ hu) mixedOrders (by kernel_rfl) | refine W.sk ?_ | (refine W.kn hK ?_;clear hK K) | refine W.cd (fun hc=>?_) (fun hc=>?_) | refine W.cb (fun hc=>?_) (fun hc=>?_) | refine W.al fun b a w G=>?_ | refine W.st fun w=>?_ | refine W.stp fun w=>?_ | refine W.bl ?_ | refine W.bn ?_ | refine W.ex ?_ | refine W.xt ?_ | refine W.xb ?_ | refine W.xo ?_ | refine W.rt ?_ | refine W.tr ?_ | refine W.br ?_ | refine W.rt1 rfl ?_ | refine W.rt2 rfl ?_ ?_ | refine W.rt3 rfl ?_ ?_ ?_ | clear hK K | clear hu | exact True.intro | exact Nat.le_trans (by clear hp;omega) hp | exact Nat.le_trans (by clear hp;omega) hp.1 | exact Nat.le_trans (by clear hp;omega) hp.2 | (clear hp;omega) | apply And.intro | refine GI.i fun _=>?_ | with_reducible rfl | decide | (simp only [List.length_cons,List.length_nil];omega))
  all_goals first | (have:=sgn_cases y;omega) | (clear hu;omega) | rfl
instance {n m : Nat} {x y : Int} {τ1 : MT} [j1 : NQ τ1 (W n x)] {τ2 : MT} [j2 : NQ τ2 (W m y)] : Con Tryz.prog 142 [τ1,τ2] (y ≠ 0 ∧ n ≤ BIG ∧ m ≤ BIG) (MT.tup2 (QC (max n m) (Rat.divInt x y)) (IT 0)):=.o2 fun hok h1 h2 hp=>w142.c2 hok (j1.h h1) (j2.h h2) hp
theorem w138 {n m : Nat} {x y : Rat} : Con Tryz.prog 138 [QV n x,QV m y] (y ≠ 0 ∧ n + m ≤ BIG) (MT.tup2 (QC (n + m) (x / y)) (IT 0)):=.o2 fun hok h1 h2 hp=>by
  refine St.enter (N:=29) Tryz.func138 rfl rfl rfl hok (enter2 h1 h2) fun a=>?_
  repeat' (first | refine W.run ?_ fun a w G=>?_ | refine W.mv fun a w G=>?_ | refine W.asg fun a w G=>?_ | refine W.bx fun b a w G=>?_ | (refine W.nn hK ?_;clear hK K) | refine W.reg fun K hK=>?_ | refine W.reg1 ?_ | refine W.nl ?_ | refine W.sq fun K hK=>?_ | refine W.ds ?_ (fun β a w G hu=>W.fin ?_ hu) mixedOrders (by kernel_rfl) | refine W.sk ?_ | (refine W.kn hK ?_;clear hK K) | refine W.cd (fun hc=>?_) (fun hc=>?_) | refine W.cb (fun hc=>?_) (fun hc=>?_) | refine W.al fun b a w G=>?_ | refine W.st fun w=>?_ | refine W.stp fun w=>?_ | refine W.bl ?_ | refine W.bn ?_ | refine W.ex ?_ | refine W.xt ?_ | refine W.xb ?_ | refine W.xo ?_ | refine W.rt ?_ | refine W.tr ?_ | refine W.br ?_ | refine W.rt1 rfl ?_ | refine W.rt2 rfl ?_ ?_ | refine W.rt3 rfl ?_ ?_ ?_ | clear hK K | clear hu | exact True.intro | exact Nat.le_trans (by clear hp;omega) hp | exact Nat.le_trans (by clear hp;omega) hp.1 | exact Nat.le_trans (by clear hp;omega) hp.2 | (clear hp;omega) | apply And.intro | refine GI.i fun _=>?_ | with_reducible rfl | decide | (simp only [List.length_cons,List.length_nil];omega))
  all_goals first | exact div_frac hp.1 | exact Int.mul_ne_zero (den_ne x) (fun e=>hp.1 (Rat.num_eq_zero.1 e)) | exact ⟨Int.mul_ne_zero (den_ne x) (fun e=>hp.1 (Rat.num_eq_zero.1 e)),by omega,by omega⟩ | skip
instance {n m : Nat} {x y : Rat} {τ1 : MT} [j1 : NQ τ1 (QV n x)] {τ2 : MT} [j2 : NQ τ2 (QV m y)] : Con Tryz.prog 138 [τ1,τ2] (y ≠ 0 ∧ n + m ≤ BIG) (MT.tup2 (QC (n + m) (x / y)) (IT 0)):=.o2 fun hok h1 h2 hp=>w138.c2 hok (j1.h h1) (j2.h h2) hp
theorem w36 {n : Nat} {x : Rat} : Con Tryz.prog 36 [QV n x] (n ≤ BIG) (BT (decide (x.num.sign = 0))):=.o1 fun hok h1 hp=>by
  refine St.enter (N:=6) Tryz.func36 rfl rfl rfl hok (enter1 h1) fun a=>?_
  repeat' (first | refine W.run ?_ fun a w G=>?_ | refine W.mv fun a w G=>?_ | refine W.asg fun a w G=>?_ | refine W.bx fun b a w G=>?_ | (refine W.nn hK ?_;clear hK K) | refine W.reg fun K hK=>?_ | refine W.reg1 ?_ | refine W.nl ?_ | refine W.sq fun K hK=>?_ | refine W.ds ?_ (fun β a w G hu=>W.fin ?_ hu) mixedOrders (by kernel_rfl) | refine W.sk ?_ | (refine W.kn hK ?_;clear hK K) | refine W.cd (fun hc=>?_) (fun hc=>?_) | refine W.cb (fun hc=>?_) (fun hc=>?_) | refine W.al fun b a w G=>?_ | refine W.st fun w=>?_ | refine W.stp fun w=>?_ | refine W.bl ?_ | refine W.bn ?_ | refine W.ex ?_ | refine W.xt ?_ | refine W.xb ?_ | refine W.xo ?_ | refine W.rt ?_ | refine W.tr ?_ | refine W.br ?_ | refine W.rt1 rfl ?_ | refine W.rt2 rfl ?_ ?_ | refine W.rt3 rfl ?_ ?_ ?_ | clear hK K | clear hu | exact True.intro | exact Nat.le_trans (by clear hp;omega) hp | exact Nat.le_trans (by clear hp;omega) hp.1 | exact Nat.le_trans (by clear hp;omega) hp.2 | (clear hp;omega) | apply And.intro | refine GI.i fun _=>?_ | with_reducible rfl | decide | (simp only [List.length_cons,List.length_nil];omega))
instance {n : Nat} {x : Rat} {τ1 : MT} [j1 : NQ τ1 (QV n x)] : Con Tryz.prog 36 [τ1] (n ≤ BIG) (BT (decide (x.num.sign = 0))):=.o1 fun hok h1 hp=>w36.c1 hok (j1.h h1) hp
theorem w19 {m : Nat} {t : FR} {h : Bool} : Con Tryz.prog 19 [TRN m t h] (10000 * m + 100000 ≤ BIG) (BT (trnF h t)):=.o1 fun hok h1 hp=>by
  refine St.enter (N:=16) Tryz.func19 rfl rfl rfl hok (enter1 h1) fun a=>?_
  repeat' (first | refine W.run ?_ fun a w G=>?_ | refine W.mv fun a w G=>?_ | refine W.asg fun a w G=>?_ | refine W.bx fun b a w G=>?_ | (refine W.nn hK ?_;clear hK K) | refine W.reg fun K hK=>?_ | refine W.reg1 ?_ | refine W.nl ?_ | refine W.sq fun K hK=>?_ | refine W.ds ?_ (fun β a w G hu=>W.fin ?_ hu) mixedOrders (by kernel_rfl) | refine W.sk ?_ | (refine W.kn hK ?_;clear hK K) | refine W.cd (fun hc=>?_) (fun hc=>?_) | refine W.cb (fun hc=>?_) (fun hc=>?_) | refine W.al fun b a w G=>?_ | refine W.st fun w=>?_ | refine W.stp fun w=>?_ | refine W.bl ?_ | refine W.bn ?_ | refine W.ex ?_ | refine W.xt ?_ | refine W.xb ?_ | refine W.xo ?_ | refine W.rt ?_ | refine W.tr ?_ | refine W.br ?_ | refine W.rt1 rfl ?_ | refine W.rt2 rfl ?_ ?_ | refine W.rt3 rfl ?_ ?_ ?_ | clear hK K | clear hu | exact True.intro | exact Nat.le_trans (by clear hp;omega) hp | exact Nat.le_trans (by clear hp;omega) hp.1 | exact Nat.le_trans (by clear hp;omega) hp.2 | (clear hp;omega) | apply And.intro | refine GI.i fun _=>?_ | with_reducible rfl | decide | (simp only [List.length_cons,List.length_nil];omega))
  all_goals (unfold trnF;grind)
instance {m : Nat} {t : FR} {h : Bool} {τ1 : MT} [j1 : NF τ1 (TRN m t h)] : Con Tryz.prog 19 [τ1] (10000 * m + 100000 ≤ BIG) (BT (trnF h t)):=.o1 fun hok h1 hp=>w19.c1 hok (j1.h h1) hp
theorem w122 {n m : Nat} {x y : Rat} : Con Tryz.prog 122 [QV n x,QV m y] (y ≠ 0 ∧ n + m ≤ BIG) (QC (n + m) (x / y)):=.o2 fun hok h1 h2 hp=>by
  refine St.enter (N:=14) Tryz.func122 rfl rfl rfl hok (enter2 h1 h2) fun a=>?_
  repeat' (first | refine W.run ?_ fun a w G=>?_ | refine W.mv fun a w G=>?_ | refine W.asg fun a w G=>?_ | refine W.bx fun b a w G=>?_ | (refine W.nn hK ?_;clear hK K) | refine W.reg fun K hK=>?_ | refine W.reg1 ?_ | refine W.nl ?_ | refine W.sq fun K hK=>?_ | refine W.ds ?_ (fun β a w G hu=>W.fin ?_ hu) mixedOrders (by kernel_rfl) | refine W.sk ?_ | (refine W.kn hK ?_;clear hK K) | refine W.cd (fun hc=>?_) (fun hc=>?_) | refine W.cb (fun hc=>?_) (fun hc=>?_) | refine W.al fun b a w G=>?_ | refine W.st fun w=>?_ | refine W.stp fun w=>?_ | refine W.bl ?_ | refine W.bn ?_ | refine W.ex ?_ | refine W.xt ?_ | refine W.xb ?_ | refine W.xo ?_ | refine W.rt ?_ | refine W.tr ?_ | refine W.br ?_ | refine W.rt1 rfl ?_ | refine W.rt2 rfl ?_ ?_ | refine W.rt3 rfl ?_ ?_ ?_ | clear hK K | clear hu | exact True.intro | exact Nat.le_trans (by clear hp;omega) hp | exact Nat.le_trans (by clear hp;omega) hp.1 | exact Nat.le_trans (by clear hp;omega) hp.2 | (clear hp;omega) | apply And.intro | refine GI.i fun _=>?_ | with_reducible rfl | decide | (simp only [List.length_cons,List.length_nil];omega))
  all_goals exact hp.1
instance {n m : Nat} {x y : Rat} {τ1 : MT} [j1 : NQ τ1 (QV n x)] {τ2 : MT} [j2 : NQ τ2 (QV m y)] : Con Tryz.prog 122 [τ1,τ2] (y ≠ 0 ∧ n + m ≤ BIG) (QC (n + m) (x / y)):=.o2 fun hok h1 h2 hp=>w122.c2 hok (j1.h h1) (j2.h h2) hp
theorem w99 {m : Nat} {t : FR} {h : Bool} : Con Tryz.prog 99 [TRN m t h] (10000 * m + 100000 ≤ BIG) (MT.tup2 (QV (4 * m + 130) (dirC h t.val)) (QV (4 * m + 130) (dirS h t.val))):=.o1 fun hok h1 hp=>by
  refine St.enter (N:=32) Tryz.func99 rfl rfl rfl hok (enter1 h1) fun a=>?_
  repeat' (first | refine W.run ?_ fun a w G=>?_ | refine W.mv fun a w G=>?_ | refine W.asg fun a w G=>?_ | refine W.bx fun b a w G=>?_ | (refine W.nn hK ?_;clear hK K) | refine W.reg fun K hK=>?_ | refine W.reg1 ?_ | refine W.nl ?_ | refine W.sq fun K hK=>?_ | refine W.ds ?_ (fun β a w G hu=>W.fin ?_ hu) mixedOrders (by kernel_rfl) | refine W.sk ?_ | (refine W.kn hK ?_;clear hK K) | refine W.cd (fun hc=>?_) (fun hc=>?_) | refine W.cb (fun hc=>?_) (fun hc=>?_) | refine W.al fun b a w G=>?_ | refine W.st fun w=>?_ | refine W.stp fun w=>?_ | refine W.bl ?_ | refine W.bn ?_ | refine W.ex ?_ | refine W.xt ?_ | refine W.xb ?_ | refine W.xo ?_ | refine W.rt ?_ | refine W.tr ?_ | refine W.br ?_ | refine W.rt1 rfl ?_ | refine W.rt2 rfl ?_ ?_ | refine W.rt3 rfl ?_ ?_ ?_ | clear hK K | clear hu | exact True.intro | exact Nat.le_trans (by clear hp;omega) hp | exact Nat.le_trans (by clear hp;omega) hp.1 | exact Nat.le_trans (by clear hp;omega) hp.2 | (clear hp;omega) | apply And.intro | refine GI.i fun _=>?_ | with_reducible rfl | decide | (simp only [List.length_cons,List.length_nil];omega))
  all_goals first | exact one_sq _ | simp_all [dirC,dirS,zv0]
instance {m : Nat} {t : FR} {h : Bool} {τ1 : MT} [j1 : NF τ1 (TRN m t h)] : Con Tryz.prog 99 [τ1] (10000 * m + 100000 ≤ BIG) (MT.tup2 (QV (4 * m + 130) (dirC h t.val)) (QV (4 * m + 130) (dirS h t.val))):=.o1 fun hok h1 hp=>w99.c1 hok (j1.h h1) hp
theorem w26 {n : Nat} {rg ra rb rc : FR} : Con Tryz.prog 26 [QUD n rg ra rb rc] (10000 * n + 100000 ≤ BIG) (IT (barC [rg,ra,rb,rc])):=.o1 fun hok h1 hp=>by
  refine St.enter (N:=28) Tryz.func26 rfl rfl rfl hok (enter1 h1) fun a=>?_
  repeat' (first | refine W.run ?_ fun a w G=>?_ | refine W.mv fun a w G=>?_ | refine W.asg fun a w G=>?_ | refine W.bx fun b a w G=>?_ | (refine W.nn hK ?_;clear hK K) | refine W.reg fun K hK=>?_ | refine W.reg1 ?_ | refine W.nl ?_ | refine W.sq fun K hK=>?_ | refine W.ds ?_ (fun β a w G hu=>W.fin ?_ hu) mixedOrders (by kernel_rfl) | refine W.sk ?_ | (refine W.kn hK ?_;clear hK K) | refine W.cd (fun hc=>?_) (fun hc=>?_) | refine W.cb (fun hc=>?_) (fun hc=>?_) | refine W.al fun b a w G=>?_ | refine W.st fun w=>?_ | refine W.stp fun w=>?_ | refine W.bl ?_ | refine W.bn ?_ | refine W.ex ?_ | refine W.xt ?_ | refine W.xb ?_ | refine W.xo ?_ | refine W.rt ?_ | refine W.tr ?_ | refine W.br ?_ | refine W.rt1 rfl ?_ | refine W.rt2 rfl ?_ ?_ | refine W.rt3 rfl ?_ ?_ ?_ | refine W.lp (α:=Nat) (fun j=>4 - j) (fun j=>j ≤ 4 ∧ ([rg,ra,rb,rc].take j).all posR = true) [2,4,13,14,15,16,17,18,19,20,21,22,23,24,25,26,27] (fun j=>[(15,NT j),(14,NT 4),(13,LS (some 3) ([rg,ra,rb,rc].map (FX n)))]) (fun j=>[]) (0) ?_ ?_ ?_ fun j hj a w G=>?_ | refine W.ag (j+1) ?_ ?_ ?_ ?_ | clear hK K | clear hu | exact True.intro | exact Nat.le_trans (by clear hp;omega) hp | exact Nat.le_trans (by clear hp;omega) hp.1 | exact Nat.le_trans (by clear hp;omega) hp.2 | (clear hp;omega) | apply And.intro | refine GI.i fun _=>?_ | with_reducible rfl | decide | (simp only [List.length_cons,List.length_nil];omega))
  all_goals first | rfl | exact (bar_3 (all_not (show j < 4 by omega) (posR_t hc))).symm | exact all_snoc (show j < 4 by omega) hj.2 (posR_f hc) | exact (bar_0 (all_end (show ¬ j < 4 by omega) hj.2)).symm
instance {n : Nat} {rg ra rb rc : FR} {τ1 : MT} [j1 : NF τ1 (QUD n rg ra rb rc)] : Con Tryz.prog 26 [τ1] (10000 * n + 100000 ≤ BIG) (IT (barC [rg,ra,rb,rc])):=.o1 fun hok h1 hp=>w26.c1 hok (j1.h h1) hp
theorem w23 {rg ra rb rc : FR} : Con Tryz.prog 23 [PTS [(some 3,RX rg),(some 3,RX ra),(some 3,RX rb),(some 3,RX rc)]] (True) (BT ([rg,ra,rb,rc].all shortR)):=.o1 fun hok h1 hp=>by
  refine St.enter (N:=30) Tryz.func23 rfl rfl rfl hok (enter1 h1) fun a=>?_
  repeat' (first | refine W.run ?_ fun a w G=>?_ | refine W.mv fun a w G=>?_ | refine W.asg fun a w G=>?_ | refine W.bx fun b a w G=>?_ | (refine W.nn hK ?_;clear hK K) | refine W.reg fun K hK=>?_ | refine W.reg1 ?_ | refine W.nl ?_ | refine W.sq fun K hK=>?_ | refine W.ds ?_ (fun β a w G hu=>W.fin ?_ hu) mixedOrders (by kernel_rfl) | refine W.sk ?_ | (refine W.kn hK ?_;clear hK K) | refine W.cd (fun hc=>?_) (fun hc=>?_) | refine W.cb (fun hc=>?_) (fun hc=>?_) | refine W.al fun b a w G=>?_ | refine W.st fun w=>?_ | refine W.stp fun w=>?_ | refine W.bl ?_ | refine W.bn ?_ | refine W.ex ?_ | refine W.xt ?_ | refine W.xb ?_ | refine W.xo ?_ | refine W.rt ?_ | refine W.tr ?_ | refine W.br ?_ | refine W.rt1 rfl ?_ | refine W.rt2 rfl ?_ ?_ | refine W.rt3 rfl ?_ ?_ ?_ | refine W.lp (α:=Nat) (fun j=>4 - j) (fun j=>j ≤ 4 ∧ ([rg,ra,rb,rc].take j).all shortR = true) [2,4,13,14,15,16,17,18,19,20,21,22,23,24,25,26,27,28,29] (fun j=>[(15,NT j),(14,NT 4),(13,LS (some 3) ([rg,ra,rb,rc].map RX))]) (fun j=>[]) (0) ?_ ?_ ?_ fun j hj a w G=>?_ | refine W.ag (j+1) ?_ ?_ ?_ ?_ | clear hK K | clear hu | exact True.intro | exact Nat.le_trans (by clear hp;omega) hp | exact Nat.le_trans (by clear hp;omega) hp.1 | exact Nat.le_trans (by clear hp;omega) hp.2 | (clear hp;omega) | apply And.intro | refine GI.i fun _=>?_ | with_reducible rfl | decide | (simp only [List.length_cons,List.length_nil];omega))
  all_goals first | rfl | exact (all_not (show j < 4 by omega) (shortR_t hc)).symm | exact all_snoc (show j < 4 by omega) hj.2 (shortR_f hc) | exact (all_end (show ¬ j < 4 by omega) hj.2).symm
instance {rg ra rb rc : FR} {τ1 : MT} [j1 : NR τ1 (PTS [(some 3,RX rg),(some 3,RX ra),(some 3,RX rb),(some 3,RX rc)])] : Con Tryz.prog 23 [τ1] (True) (BT ([rg,ra,rb,rc].all shortR)):=.o1 fun hok h1 hp=>w23.c1 hok (j1.h h1) hp
theorem w28 {n : Nat} {rg ra rb rc : FR} : Con Tryz.prog 28 [QUD n rg ra rb rc] (10 * n ≤ BIG) (PTS [(some 3,QC (n + n) (rg.val * rg.val)),(some 3,QC (n + n) (ra.val * ra.val)),(some 3,FX (n + n) rb),(some 3,FX (n + n) rc)]):=.o1 fun hok h1 hp=>by
  refine St.enter (N:=18) Tryz.func28 rfl rfl rfl hok (enter1 h1) fun a=>?_
  repeat' (first | refine W.run ?_ fun a w G=>?_ | refine W.mv fun a w G=>?_ | refine W.asg fun a w G=>?_ | refine W.bx fun b a w G=>?_ | (refine W.nn hK ?_;clear hK K) | refine W.reg fun K hK=>?_ | refine W.reg1 ?_ | refine W.nl ?_ | refine W.sq fun K hK=>?_ | refine W.ds ?_ (fun β a w G hu=>W.fin ?_ hu) mixedOrders (by kernel_rfl) | refine W.sk ?_ | (refine W.kn hK ?_;clear hK K) | refine W.cd (fun hc=>?_) (fun hc=>?_) | refine W.cb (fun hc=>?_) (fun hc=>?_) | refine W.al fun b a w G=>?_ | refine W.st fun w=>?_ | refine W.stp fun w=>?_ | refine W.bl ?_ | refine W.bn ?_ | refine W.ex ?_ | refine W.xt ?_ | refine W.xb ?_ | refine W.xo ?_ | refine W.rt ?_ | refine W.tr ?_ | refine W.br ?_ | refine W.rt1 rfl ?_ | refine W.rt2 rfl ?_ ?_ | refine W.rt3 rfl ?_ ?_ ?_ | clear hK K | clear hu | exact True.intro | exact Nat.le_trans (by clear hp;omega) hp | exact Nat.le_trans (by clear hp;omega) hp.1 | exact Nat.le_trans (by clear hp;omega) hp.2 | (clear hp;omega) | apply And.intro | refine GI.i fun _=>?_ | with_reducible rfl | decide | (simp only [List.length_cons,List.length_nil];omega))
instance {n : Nat} {rg ra rb rc : FR} {τ1 : MT} [j1 : NF τ1 (QUD n rg ra rb rc)] : Con Tryz.prog 28 [τ1] (10 * n ≤ BIG) (PTS [(some 3,QC (n + n) (rg.val * rg.val)),(some 3,QC (n + n) (ra.val * ra.val)),(some 3,FX (n + n) rb),(some 3,FX (n + n) rc)]):=.o1 fun hok h1 hp=>w28.c1 hok (j1.h h1) hp
theorem w100 {n m l : Nat} {k x y : Rat} : Con Tryz.prog 100 [QV n k,PTS [(some 3,QV (m) (x)),(some 3,QV (l) (y))]] (n + m + l ≤ BIG) (PTS [(some 3,QC (n + m) (k * x)),(some 3,QC (n + l) (k * y))]):=.o2 fun hok h1 h2 hp=>by
  refine St.enter (N:=14) Tryz.func100 rfl rfl rfl hok (enter2 h1 h2) fun a=>?_
  repeat' (first | refine W.run ?_ fun a w G=>?_ | refine W.mv fun a w G=>?_ | refine W.asg fun a w G=>?_ | refine W.bx fun b a w G=>?_ | (refine W.nn hK ?_;clear hK K) | refine W.reg fun K hK=>?_ | refine W.reg1 ?_ | refine W.nl ?_ | refine W.sq fun K hK=>?_ | refine W.ds ?_ (fun β a w G hu=>W.fin ?_ hu) mixedOrders (by kernel_rfl) | refine W.sk ?_ | (refine W.kn hK ?_;clear hK K) | refine W.cd (fun hc=>?_) (fun hc=>?_) | refine W.cb (fun hc=>?_) (fun hc=>?_) | refine W.al fun b a w G=>?_ | refine W.st fun w=>?_ | refine W.stp fun w=>?_ | refine W.bl ?_ | refine W.bn ?_ | refine W.ex ?_ | refine W.xt ?_ | refine W.xb ?_ | refine W.xo ?_ | refine W.rt ?_ | refine W.tr ?_ | refine W.br ?_ | refine W.rt1 rfl ?_ | refine W.rt2 rfl ?_ ?_ | refine W.rt3 rfl ?_ ?_ ?_ | clear hK K | clear hu | exact True.intro | exact Nat.le_trans (by clear hp;omega) hp | exact Nat.le_trans (by clear hp;omega) hp.1 | exact Nat.le_trans (by clear hp;omega) hp.2 | (clear hp;omega) | apply And.intro | refine GI.i fun _=>?_ | with_reducible rfl | decide | (simp only [List.length_cons,List.length_nil];omega))
instance {n m l : Nat} {k x y : Rat} {τ1 : MT} [j1 : NQ τ1 (QV n k)] {τ2 : MT} [j2 : NQ τ2 (PTS [(some 3,QV (m) (x)),(some 3,QV (l) (y))])] : Con Tryz.prog 100 [τ1,τ2] (n + m + l ≤ BIG) (PTS [(some 3,QC (n + m) (k * x)),(some 3,QC (n + l) (k * y))]):=.o2 fun hok h1 h2 hp=>w100.c2 hok (j1.h h1) (j2.h h2) hp
theorem w68 {n m : Nat} {rg ra rb rc t : FR} {h : Bool} : Con Tryz.prog 68 [QUD n rg ra rb rc,TRN m t h] (10000 * n + 10000 * m + 100000 ≤ BIG) (PLQ (n + 4 * m + 130) (ra.val * dirC h t.val) (ra.val * dirS h t.val)):=.o2 fun hok h1 h2 hp=>by
  refine St.enter (N:=18) Tryz.func68 rfl rfl rfl hok (enter2 h1 h2) fun a=>?_
  repeat' (first | refine W.run ?_ fun a w G=>?_ | refine W.mv fun a w G=>?_ | refine W.asg fun a w G=>?_ | refine W.bx fun b a w G=>?_ | (refine W.nn hK ?_;clear hK K) | refine W.reg fun K hK=>?_ | refine W.reg1 ?_ | refine W.nl ?_ | refine W.sq fun K hK=>?_ | refine W.ds ?_ (fun β a w G hu=>W.fin ?_ hu) mixedOrders (by kernel_rfl) | refine W.sk ?_ | (refine W.kn hK ?_;clear hK K) | refine W.cd (fun hc=>?_) (fun hc=>?_) | refine W.cb (fun hc=>?_) (fun hc=>?_) | refine W.al fun b a w G=>?_ | refine W.st fun w=>?_ | refine W.stp fun w=>?_ | refine W.bl ?_ | refine W.bn ?_ | refine W.ex ?_ | refine W.xt ?_ | refine W.xb ?_ | refine W.xo ?_ | refine W.rt ?_ | refine W.tr ?_ | refine W.br ?_ | refine W.rt1 rfl ?_ | refine W.rt2 rfl ?_ ?_ | refine W.rt3 rfl ?_ ?_ ?_ | clear hK K | clear hu | exact True.intro | exact Nat.le_trans (by clear hp;omega) hp | exact Nat.le_trans (by clear hp;omega) hp.1 | exact Nat.le_trans (by clear hp;omega) hp.2 | (clear hp;omega) | apply And.intro | refine GI.i fun _=>?_ | with_reducible rfl | decide | (simp only [List.length_cons,List.length_nil];omega))
instance {n m : Nat} {rg ra rb rc t : FR} {h : Bool} {τ1 : MT} [j1 : NF τ1 (QUD n rg ra rb rc)] {τ2 : MT} [j2 : NF τ2 (TRN m t h)] : Con Tryz.prog 68 [τ1,τ2] (10000 * n + 10000 * m + 100000 ≤ BIG) (PLQ (n + 4 * m + 130) (ra.val * dirC h t.val) (ra.val * dirS h t.val)):=.o2 fun hok h1 h2 hp=>w68.c2 hok (j1.h h1) (j2.h h2) hp
theorem w67 {n m k l : Nat} {x y z u : Rat} : Con Tryz.prog 67 [PTS [(some 3,QV (n) (x)),(some 3,QV (m) (y))],PTS [(some 3,QV (k) (z)),(some 3,QV (l) (u))]] (n + m + k + l + 1 ≤ BIG) (PTS [(some 3,QC (n + k + 1) (x - z)),(some 3,QC (m + l + 1) (y - u))]):=.o2 fun hok h1 h2 hp=>by
  refine St.enter (N:=16) Tryz.func67 rfl rfl rfl hok (enter2 h1 h2) fun a=>?_
  repeat' (first | refine W.run ?_ fun a w G=>?_ | refine W.mv fun a w G=>?_ | refine W.asg fun a w G=>?_ | refine W.bx fun b a w G=>?_ | (refine W.nn hK ?_;clear hK K) | refine W.reg fun K hK=>?_ | refine W.reg1 ?_ | refine W.nl ?_ | refine W.sq fun K hK=>?_ | refine W.ds ?_ (fun β a w G hu=>W.fin ?_ hu) mixedOrders (by kernel_rfl) | refine W.sk ?_ | (refine W.kn hK ?_;clear hK K) | refine W.cd (fun hc=>?_) (fun hc=>?_) | refine W.cb (fun hc=>?_) (fun hc=>?_) | refine W.al fun b a w G=>?_ | refine W.st fun w=>?_ | refine W.stp fun w=>?_ | refine W.bl ?_ | refine W.bn ?_ | refine W.ex ?_ | refine W.xt ?_ | refine W.xb ?_ | refine W.xo ?_ | refine W.rt ?_ | refine W.tr ?_ | refine W.br ?_ | refine W.rt1 rfl ?_ | refine W.rt2 rfl ?_ ?_ | refine W.rt3 rfl ?_ ?_ ?_ | clear hK K | clear hu | exact True.intro | exact Nat.le_trans (by clear hp;omega) hp | exact Nat.le_trans (by clear hp;omega) hp.1 | exact Nat.le_trans (by clear hp;omega) hp.2 | (clear hp;omega) | apply And.intro | refine GI.i fun _=>?_ | with_reducible rfl | decide | (simp only [List.length_cons,List.length_nil];omega))
instance {n m k l : Nat} {x y z u : Rat} {τ1 : MT} [j1 : NQ τ1 (PTS [(some 3,QV (n) (x)),(some 3,QV (m) (y))])] {τ2 : MT} [j2 : NQ τ2 (PTS [(some 3,QV (k) (z)),(some 3,QV (l) (u))])] : Con Tryz.prog 67 [τ1,τ2] (n + m + k + l + 1 ≤ BIG) (PTS [(some 3,QC (n + k + 1) (x - z)),(some 3,QC (m + l + 1) (y - u))]):=.o2 fun hok h1 h2 hp=>w67.c2 hok (j1.h h1) (j2.h h2) hp
theorem w37 {n m : Nat} {x y : Rat} : Con Tryz.prog 37 [PTS [(some 3,QV (n) (x)),(some 3,QV (m) (y))]] (4 * n + 4 * m + 1 ≤ BIG) (QC (2 * n + 2 * m + 1) (d2F x y)):=.o1 fun hok h1 hp=>by
  refine St.enter (N:=14) Tryz.func37 rfl rfl rfl hok (enter1 h1) fun a=>?_
  repeat' (first | refine W.run ?_ fun a w G=>?_ | refine W.mv fun a w G=>?_ | refine W.asg fun a w G=>?_ | refine W.bx fun b a w G=>?_ | (refine W.nn hK ?_;clear hK K) | refine W.reg fun K hK=>?_ | refine W.reg1 ?_ | refine W.nl ?_ | refine W.sq fun K hK=>?_ | refine W.ds ?_ (fun β a w G hu=>W.fin ?_ hu) mixedOrders (by kernel_rfl) | refine W.sk ?_ | (refine W.kn hK ?_;clear hK K) | refine W.cd (fun hc=>?_) (fun hc=>?_) | refine W.cb (fun hc=>?_) (fun hc=>?_) | refine W.al fun b a w G=>?_ | refine W.st fun w=>?_ | refine W.stp fun w=>?_ | refine W.bl ?_ | refine W.bn ?_ | refine W.ex ?_ | refine W.xt ?_ | refine W.xb ?_ | refine W.xo ?_ | refine W.rt ?_ | refine W.tr ?_ | refine W.br ?_ | refine W.rt1 rfl ?_ | refine W.rt2 rfl ?_ ?_ | refine W.rt3 rfl ?_ ?_ ?_ | clear hK K | clear hu | exact True.intro | exact Nat.le_trans (by clear hp;omega) hp | exact Nat.le_trans (by clear hp;omega) hp.1 | exact Nat.le_trans (by clear hp;omega) hp.2 | (clear hp;omega) | apply And.intro | refine GI.i fun _=>?_ | with_reducible rfl | decide | (simp only [List.length_cons,List.length_nil];omega))
  all_goals rfl
instance {n m : Nat} {x y : Rat} {τ1 : MT} [j1 : NQ τ1 (PTS [(some 3,QV (n) (x)),(some 3,QV (m) (y))])] : Con Tryz.prog 37 [τ1] (4 * n + 4 * m + 1 ≤ BIG) (QC (2 * n + 2 * m + 1) (d2F x y)):=.o1 fun hok h1 hp=>w37.c1 hok (j1.h h1) hp
theorem w38 {n m : Nat} {rg ra rb rc t : FR} {h : Bool} : Con Tryz.prog 38 [QUD n rg ra rb rc,TRN m t h] (10000 * n + 10000 * m + 100000 ≤ BIG) (PLQ (2 * n + 4 * m + 132) (wayX rg.val ra.val h t.val) (wayY ra.val h t.val)):=.o2 fun hok h1 h2 hp=>by
  refine St.enter (N:=12) Tryz.func38 rfl rfl rfl hok (enter2 h1 h2) fun a=>?_
  repeat' (first | refine W.run ?_ fun a w G=>?_ | refine W.mv fun a w G=>?_ | refine W.asg fun a w G=>?_ | refine W.bx fun b a w G=>?_ | (refine W.nn hK ?_;clear hK K) | refine W.reg fun K hK=>?_ | refine W.reg1 ?_ | refine W.nl ?_ | refine W.sq fun K hK=>?_ | refine W.ds ?_ (fun β a w G hu=>W.fin ?_ hu) mixedOrders (by kernel_rfl) | refine W.sk ?_ | (refine W.kn hK ?_;clear hK K) | refine W.cd (fun hc=>?_) (fun hc=>?_) | refine W.cb (fun hc=>?_) (fun hc=>?_) | refine W.al fun b a w G=>?_ | refine W.st fun w=>?_ | refine W.stp fun w=>?_ | refine W.bl ?_ | refine W.bn ?_ | refine W.ex ?_ | refine W.xt ?_ | refine W.xb ?_ | refine W.xo ?_ | refine W.rt ?_ | refine W.tr ?_ | refine W.br ?_ | refine W.rt1 rfl ?_ | refine W.rt2 rfl ?_ ?_ | refine W.rt3 rfl ?_ ?_ ?_ | clear hK K | clear hu | exact True.intro | exact Nat.le_trans (by clear hp;omega) hp | exact Nat.le_trans (by clear hp;omega) hp.1 | exact Nat.le_trans (by clear hp;omega) hp.2 | (clear hp;omega) | apply And.intro | refine GI.i fun _=>?_ | with_reducible rfl | decide | (simp only [List.length_cons,List.length_nil];omega))
  all_goals grind [wayX,wayY,zv0]
instance {n m : Nat} {rg ra rb rc t : FR} {h : Bool} {τ1 : MT} [j1 : NF τ1 (QUD n rg ra rb rc)] {τ2 : MT} [j2 : NF τ2 (TRN m t h)] : Con Tryz.prog 38 [τ1,τ2] (10000 * n + 10000 * m + 100000 ≤ BIG) (PLQ (2 * n + 4 * m + 132) (wayX rg.val ra.val h t.val) (wayY ra.val h t.val)):=.o2 fun hok h1 h2 hp=>w38.c2 hok (j1.h h1) (j2.h h2) hp
theorem w62 {n m k : Nat} {x y z : Rat} : Con Tryz.prog 62 [QV n x,QV m y,QV k z] (100 * n + 100 * m + 100 * k + 1000 ≤ BIG) (QC (3 * n + 3 * m + 2 * k + 71) (discF x y z)):=.o3 fun hok h1 h2 h3 hp=>by
  refine St.enter (N:=24) Tryz.func62 rfl rfl rfl hok (enter3 h1 h2 h3) fun a=>?_
  repeat' (first | refine W.run ?_ fun a w G=>?_ | refine W.mv fun a w G=>?_ | refine W.asg fun a w G=>?_ | refine W.bx fun b a w G=>?_ | (refine W.nn hK ?_;clear hK K) | refine W.reg fun K hK=>?_ | refine W.reg1 ?_ | refine W.nl ?_ | refine W.sq fun K hK=>?_ | refine W.ds ?_ (fun β a w G hu=>W.fin ?_ hu) mixedOrders (by kernel_rfl) | refine W.sk ?_ | (refine W.kn hK ?_;clear hK K) | refine W.cd (fun hc=>?_) (fun hc=>?_) | refine W.cb (fun hc=>?_) (fun hc=>?_) | refine W.al fun b a w G=>?_ | refine W.st fun w=>?_ | refine W.stp fun w=>?_ | refine W.bl ?_ | refine W.bn ?_ | refine W.ex ?_ | refine W.xt ?_ | refine W.xb ?_ | refine W.xo ?_ | refine W.rt ?_ | refine W.tr ?_ | refine W.br ?_ | refine W.rt1 rfl ?_ | refine W.rt2 rfl ?_ ?_ | refine W.rt3 rfl ?_ ?_ ?_ | clear hK K | clear hu | exact True.intro | exact Nat.le_trans (by clear hp;omega) hp | exact Nat.le_trans (by clear hp;omega) hp.1 | exact Nat.le_trans (by clear hp;omega) hp.2 | (clear hp;omega) | apply And.intro | refine GI.i fun _=>?_ | with_reducible rfl | decide | (simp only [List.length_cons,List.length_nil];omega))
  all_goals rfl
instance {n m k : Nat} {x y z : Rat} {τ1 : MT} [j1 : NQ τ1 (QV n x)] {τ2 : MT} [j2 : NQ τ2 (QV m y)] {τ3 : MT} [j3 : NQ τ3 (QV k z)] : Con Tryz.prog 62 [τ1,τ2,τ3] (100 * n + 100 * m + 100 * k + 1000 ≤ BIG) (QC (3 * n + 3 * m + 2 * k + 71) (discF x y z)):=.o3 fun hok h1 h2 h3 hp=>w62.c3 hok (j1.h h1) (j2.h h2) (j3.h h3) hp
theorem w31 {n m : Nat} {rg ra rb rc t : FR} {h : Bool} : Con Tryz.prog 31 [QUD n rg ra rb rc,TRN m t h] (10000 * n + 10000 * m + 100000 ≤ BIG) (QC (22 * n + 32 * m + 1200) (dsc rg ra rb rc h t.val)):=.o2 fun hok h1 h2 hp=>by
  refine St.enter (N:=14) Tryz.func31 rfl rfl rfl hok (enter2 h1 h2) fun a=>?_
  repeat' (first | refine W.run ?_ fun a w G=>?_ | refine W.mv fun a w G=>?_ | refine W.asg fun a w G=>?_ | refine W.bx fun b a w G=>?_ | (refine W.nn hK ?_;clear hK K) | refine W.reg fun K hK=>?_ | refine W.reg1 ?_ | refine W.nl ?_ | refine W.sq fun K hK=>?_ | refine W.ds ?_ (fun β a w G hu=>W.fin ?_ hu) mixedOrders (by kernel_rfl) | refine W.sk ?_ | (refine W.kn hK ?_;clear hK K) | refine W.cd (fun hc=>?_) (fun hc=>?_) | refine W.cb (fun hc=>?_) (fun hc=>?_) | refine W.al fun b a w G=>?_ | refine W.st fun w=>?_ | refine W.stp fun w=>?_ | refine W.bl ?_ | refine W.bn ?_ | refine W.ex ?_ | refine W.xt ?_ | refine W.xb ?_ | refine W.xo ?_ | refine W.rt ?_ | refine W.tr ?_ | refine W.br ?_ | refine W.rt1 rfl ?_ | refine W.rt2 rfl ?_ ?_ | refine W.rt3 rfl ?_ ?_ ?_ | clear hK K | clear hu | exact True.intro | exact Nat.le_trans (by clear hp;omega) hp | exact Nat.le_trans (by clear hp;omega) hp.1 | exact Nat.le_trans (by clear hp;omega) hp.2 | (clear hp;omega) | apply And.intro | refine GI.i fun _=>?_ | with_reducible rfl | decide | (simp only [List.length_cons,List.length_nil];omega))
  all_goals (unfold dsc;rfl)
instance {n m : Nat} {rg ra rb rc t : FR} {h : Bool} {τ1 : MT} [j1 : NF τ1 (QUD n rg ra rb rc)] {τ2 : MT} [j2 : NF τ2 (TRN m t h)] : Con Tryz.prog 31 [τ1,τ2] (10000 * n + 10000 * m + 100000 ≤ BIG) (QC (22 * n + 32 * m + 1200) (dsc rg ra rb rc h t.val)):=.o2 fun hok h1 h2 hp=>w31.c2 hok (j1.h h1) (j2.h h2) hp
instance {n : Nat} {rg ra rb rc : FR} {τ1 : MT} [j1 : NF τ1 (QUD n rg ra rb rc)] : Con Tryz.prog 27 [τ1] (1000 * n + 10000 ≤ BIG) (IT (chkF [rg,ra,rb,rc])):=.o1 fun hok h1 hp=>rCheck_ok hok (j1.h h1) hp (qud_pos (j1.h h1))
theorem chk_val {l m : List FR} (hl : l.all posR = true) (hm : m.all posR = true) (h : l.map FR.val = m.map FR.val) : chkF l = chkF m:=by
  have hk : ∀ (l : List FR) j,lk l j = (l.map FR.val).getD ((orderF (l.map FR.val)).getD j default) 0:=fun l j=>by
    unfold lk
    rw [List.getD_eq_getElem?_getD,List.getD_eq_getElem?_getD (l:=l.map FR.val),List.getElem?_map]
    cases l[(orderF (l.map FR.val)).getD j default]? <;> rfl
  unfold chkF
  rw [hl,hm]
  simp only [hk,h]
theorem chk_sqb {g a b c : FR} (hb : barC [g,a,b,c] = 0) : chkF [FR.of (g.val * g.val),FR.of (a.val * a.val),b,c] = chkF (sqF g a b c):=by
  have hp:=sq_pos hb
  have h:=bar_pos hb
  refine chk_val ?_ hp (by simp [sqF,FR.of_val])
  simp only [sqF,List.all_cons,List.all_nil,Bool.and_true,Bool.and_eq_true] at hp h ⊢
  exact ⟨hp.1,hp.2.1,h.2.2⟩
theorem ci16 {g a b c : FR} (hb : barC [g,a,b,c] = 0) (h : chkF [FR.of (g.val * g.val),FR.of (a.val * a.val),b,c] ≠ 0) : 16 = ciF g a b c:=by rw [chk_sqb hb] at h;unfold ciF;rw [if_pos hb,if_neg h]
theorem ci15 {g a b c : FR} (hb : barC [g,a,b,c] = 0) (h : chkF [FR.of (g.val * g.val),FR.of (a.val * a.val),b,c] = 0) (h2 : (decide (cmpQ g.val a.val = 0) && decide (cmpQ b.val c.val = 0)) = true) : 15 = ciF g a b c:=by
  simp only [Bool.and_eq_true,decide_eq_true_eq] at h2
  rw [chk_sqb hb] at h;exact (ci_15 hb h h2.1 h2.2).symm
theorem ci0 {g a b c : FR} (hb : barC [g,a,b,c] = 0) (h : chkF [FR.of (g.val * g.val),FR.of (a.val * a.val),b,c] = 0) (h2 : (decide (cmpQ g.val a.val = 0) && decide (cmpQ b.val c.val = 0)) = false) : 0 = ciF g a b c:=by
  rw [chk_sqb hb] at h;exact (ci_0 hb h (by simpa using h2)).symm
theorem d2_zero {x y : Rat} : (d2F x y).num.sign = 0 ↔ x = 0 ∧ y = 0:=by
  rw [Int.sign_eq_zero_iff_zero,Rat.num_eq_zero]
  unfold d2F
  have sq : ∀ z : Rat,0 ≤ z * z:=fun z=>by
    rcases (Rat.le_total : 0 ≤ z ∨ z ≤ 0) with h | h
    · exact Rat.mul_nonneg h h
    · have:=Rat.mul_nonneg (show 0 ≤ -z by grind) (show 0 ≤ -z by grind);grind
  have sx:=sq x;have sy:=sq y
  constructor
  · intro h
    have h1 : x * x = 0:=by grind
    have h2 : y * y = 0:=by grind
    exact ⟨by rcases Rat.mul_eq_zero.1 h1 with h | h <;> exact h,by rcases Rat.mul_eq_zero.1 h2 with h | h <;> exact h⟩
  · rintro ⟨rfl,rfl⟩;grind
theorem way_zero {g a t : Rat} {h : Bool} : (d2F (wayX g a h t) (wayY a h t)).num.sign = 0 ↔ cmpQ (a * dirC h t) g = 0 ∧ (a * dirS h t).num.sign = 0:=by
  rw [d2_zero,cmpQ_eq0,Int.sign_eq_zero_iff_zero,Rat.num_eq_zero]
  unfold wayX wayY
  constructor <;> rintro ⟨h1,h2⟩ <;> constructor <;> grind
theorem w10 {n : Nat} {rg ra rb rc : FR} : Con Tryz.prog 10 [QUD n rg ra rb rc] (100000 * n + 10000000 ≤ BIG) (IT (ciF rg ra rb rc)):=.o1 fun hok h1 hp=>by
  refine St.enter (N:=27) Tryz.func10 rfl rfl rfl hok (enter1 h1) fun a=>?_
  repeat' (first | refine W.run ?_ fun a w G=>?_ | refine W.mv fun a w G=>?_ | refine W.asg fun a w G=>?_ | refine W.bx fun b a w G=>?_ | (refine W.nn hK ?_;clear hK K) | refine W.reg fun K hK=>?_ | refine W.reg1 ?_ | refine W.nl ?_ | refine W.sq fun K hK=>?_ | refine W.ds ?_ (fun β a w G hu=>W.fin ?_ hu) mixedOrders (by kernel_rfl) | refine W.sk ?_ | (refine W.kn hK ?_;clear hK K) | refine W.cd (fun hc=>?_) (fun hc=>?_) | refine W.cb (fun hc=>?_) (fun hc=>?_) | refine W.al fun b a w G=>?_ | refine W.st fun w=>?_ | refine W.stp fun w=>?_ | refine W.bl ?_ | refine W.bn ?_ | refine W.ex ?_ | refine W.xt ?_ | refine W.xb ?_ | refine W.xo ?_ | refine W.rt ?_ | refine W.tr ?_ | refine W.br ?_ | refine W.rt1 rfl ?_ | refine W.rt2 rfl ?_ ?_ | refine W.rt3 rfl ?_ ?_ ?_ | clear hK K | clear hu | exact True.intro | exact Nat.le_trans (by clear hp;omega) hp | exact Nat.le_trans (by clear hp;omega) hp.1 | exact Nat.le_trans (by clear hp;omega) hp.2 | (clear hp;omega) | apply And.intro | refine GI.i fun _=>?_ | with_reducible rfl | decide | (simp only [List.length_cons,List.length_nil];omega))
  all_goals first | exact ci_b hc | exact ci16 (by omega) hc | exact ci15 (by omega) (by omega) hc | exact ci0 (by omega) (by omega) hc
instance {n : Nat} {rg ra rb rc : FR} {τ1 : MT} [j1 : NF τ1 (QUD n rg ra rb rc)] : Con Tryz.prog 10 [τ1] (100000 * n + 10000000 ≤ BIG) (IT (ciF rg ra rb rc)):=.o1 fun hok h1 hp=>w10.c1 hok (j1.h h1) hp
theorem w12 {n : Nat} {rg ra rb rc : FR} : Con Tryz.prog 12 [QUD n rg ra rb rc] (100000 * n + 10000000 ≤ BIG) (MT.tup2 (IT (dsc rg ra rb rc false zFR.val).num.sign) (IT (dsc rg ra rb rc true zFR.val).num.sign)):=.o1 fun hok h1 hp=>by
  refine St.enter (N:=12) Tryz.func12 rfl rfl rfl hok (enter1 h1) fun a=>?_
  repeat' (first | refine W.run ?_ fun a w G=>?_ | refine W.mv fun a w G=>?_ | refine W.asg fun a w G=>?_ | refine W.bx fun b a w G=>?_ | (refine W.nn hK ?_;clear hK K) | refine W.reg fun K hK=>?_ | refine W.reg1 ?_ | refine W.nl ?_ | refine W.sq fun K hK=>?_ | refine W.ds ?_ (fun β a w G hu=>W.fin ?_ hu) mixedOrders (by kernel_rfl) | refine W.sk ?_ | (refine W.kn hK ?_;clear hK K) | refine W.cd (fun hc=>?_) (fun hc=>?_) | refine W.cb (fun hc=>?_) (fun hc=>?_) | refine W.al fun b a w G=>?_ | refine W.st fun w=>?_ | refine W.stp fun w=>?_ | refine W.bl ?_ | refine W.bn ?_ | refine W.ex ?_ | refine W.xt ?_ | refine W.xb ?_ | refine W.xo ?_ | refine W.rt ?_ | refine W.tr ?_ | refine W.br ?_ | refine W.rt1 rfl ?_ | refine W.rt2 rfl ?_ ?_ | refine W.rt3 rfl ?_ ?_ ?_ | clear hK K | clear hu | exact True.intro | exact Nat.le_trans (by clear hp;omega) hp | exact Nat.le_trans (by clear hp;omega) hp.1 | exact Nat.le_trans (by clear hp;omega) hp.2 | (clear hp;omega) | apply And.intro | refine GI.i fun _=>?_ | with_reducible rfl | decide | (simp only [List.length_cons,List.length_nil];omega))
instance {n : Nat} {rg ra rb rc : FR} {τ1 : MT} [j1 : NF τ1 (QUD n rg ra rb rc)] : Con Tryz.prog 12 [τ1] (100000 * n + 10000000 ≤ BIG) (MT.tup2 (IT (dsc rg ra rb rc false zFR.val).num.sign) (IT (dsc rg ra rb rc true zFR.val).num.sign)):=.o1 fun hok h1 hp=>w12.c1 hok (j1.h h1) hp
theorem w13 {n : Nat} {rg ra rb rc : FR} : Con Tryz.prog 13 [QUD n rg ra rb rc] (100000 * n + 10000000 ≤ BIG) (LS (some 3) ((cirF (dsc rg ra rb rc false zFR.val).num.sign (dsc rg ra rb rc true zFR.val).num.sign).map CIR)):=.o1 fun hok h1 hp=>by
  refine St.enter (N:=41) Tryz.func13 rfl rfl rfl hok (enter1 h1) fun a=>?_
  repeat' (first | refine W.run ?_ fun a w G=>?_ | refine W.mv fun a w G=>?_ | refine W.asg fun a w G=>?_ | refine W.bx fun b a w G=>?_ | (refine W.nn hK ?_;clear hK K) | refine W.reg fun K hK=>?_ | refine W.reg1 ?_ | refine W.nl ?_ | refine W.sq fun K hK=>?_ | refine W.ds ?_ (fun β a w G hu=>W.fin ?_ hu) mixedOrders (by kernel_rfl) | refine W.sk ?_ | (refine W.kn hK ?_;clear hK K) | refine W.cd (fun hc=>?_) (fun hc=>?_) | refine W.cb (fun hc=>?_) (fun hc=>?_) | refine W.al fun b a w G=>?_ | refine W.st fun w=>?_ | refine W.stp fun w=>?_ | refine W.bl ?_ | refine W.bn ?_ | refine W.ex ?_ | refine W.xt ?_ | refine W.xb ?_ | refine W.xo ?_ | refine W.rt ?_ | refine W.tr ?_ | refine W.br ?_ | refine W.rt1 rfl ?_ | refine W.rt2 rfl ?_ ?_ | refine W.rt3 rfl ?_ ?_ ?_ | clear hK K | clear hu | exact True.intro | exact Nat.le_trans (by clear hp;omega) hp | exact Nat.le_trans (by clear hp;omega) hp.1 | exact Nat.le_trans (by clear hp;omega) hp.2 | (clear hp;omega) | apply And.intro | refine GI.i fun _=>?_ | with_reducible rfl | decide | (simp only [List.length_cons,List.length_nil];omega))
  all_goals (have h1:=sgn_cases (dsc rg ra rb rc false zFR.val).num;have h2:=sgn_cases (dsc rg ra rb rc true zFR.val).num;unfold cirF;grind)
instance {n : Nat} {rg ra rb rc : FR} {τ1 : MT} [j1 : NF τ1 (QUD n rg ra rb rc)] : Con Tryz.prog 13 [τ1] (100000 * n + 10000000 ≤ BIG) (LS (some 3) ((cirF (dsc rg ra rb rc false zFR.val).num.sign (dsc rg ra rb rc true zFR.val).num.sign).map CIR)):=.o1 fun hok h1 hp=>w13.c1 hok (j1.h h1) hp
theorem exC_r {g a b c : FR} {h : Bool} {t : FR} {m : Int} : exC g a b c h t m = if ((decide ((dsc g a b c h t.val).num.sign < 0) || (decide ((dsc g a b c h t.val).num.sign = 0) != decide (m = 0))) || decide ((d2F (wayX g.val a.val h t.val) (wayY a.val h t.val)).num.sign = 0)) = true then 16 else 0:=by
  have e : decide ((d2F (wayX g.val a.val h t.val) (wayY a.val h t.val)).num.sign = 0) = (decide (cmpQ (a.val * dirC h t.val) g.val = 0) && decide ((a.val * dirS h t.val).num.sign = 0)):=by rw [Bool.eq_iff_iff];simp only [decide_eq_true_eq,Bool.and_eq_true,way_zero]
  unfold exC exK
  rw [e]
  generalize decide (cmpQ (a.val * dirC h t.val) g.val = 0) = A
  generalize decide ((a.val * dirS h t.val).num.sign = 0) = B
  generalize decide ((dsc g a b c h t.val).num.sign < 0) = C
  generalize decide ((dsc g a b c h t.val).num.sign = 0) = D
  generalize decide (m = 0) = E
  cases A <;> cases B <;> cases C <;> cases D <;> cases E <;> rfl
theorem cirs_r {g a b c : FR} (h : ciF g a b c = 0) : cirs g a b c = cirF (dsc g a b c false zFR.val).num.sign (dsc g a b c true zFR.val).num.sign:=by rw [cirs_ok h,enR_ok h,enL_ok h]
theorem w17 {n m : Nat} {rg ra rb rc t : FR} {h : Bool} {md : Int} : Con Tryz.prog 17 [QUD n rg ra rb rc,BST m t h md] (100000 * n + 100000 * m + 10000000 ≤ BIG ∧ ciF rg ra rb rc = 0) (MT.tup2 (IT (ofI rg ra rb rc h t md)) (IT (ofC rg ra rb rc h t md))):=.o2 fun hok h1 h2 hp=>by
  refine St.enter (N:=63) Tryz.func17 rfl rfl rfl hok (enter2 h1 h2) fun a=>?_
  repeat' (first | refine W.run ?_ fun a w G=>?_ | refine W.mv fun a w G=>?_ | refine W.asg fun a w G=>?_ | refine W.bx fun b a w G=>?_ | (refine W.nn hK ?_;clear hK K) | refine W.reg fun K hK=>?_ | refine W.reg1 ?_ | refine W.nl ?_ | refine W.sq fun K hK=>?_ | refine W.ds ?_ (fun β a w G hu=>W.fin ?_ hu) mixedOrders (by kernel_rfl) | refine W.sk ?_ | (refine W.kn hK ?_;clear hK K) | refine W.cd (fun hc=>?_) (fun hc=>?_) | refine W.cb (fun hc=>?_) (fun hc=>?_) | refine W.al fun b a w G=>?_ | refine W.st fun w=>?_ | refine W.stp fun w=>?_ | refine W.bl ?_ | refine W.bn ?_ | refine W.ex ?_ | refine W.xt ?_ | refine W.xb ?_ | refine W.xo ?_ | refine W.rt ?_ | refine W.tr ?_ | refine W.br ?_ | refine W.rt1 rfl ?_ | refine W.rt2 rfl ?_ ?_ | refine W.rt3 rfl ?_ ?_ ?_ | clear hK K | clear hu | exact True.intro | exact Nat.le_trans (by clear hp;omega) hp | exact Nat.le_trans (by clear hp;omega) hp.1 | exact Nat.le_trans (by clear hp;omega) hp.2 | (clear hp;omega) | apply And.intro | refine GI.i fun _=>?_ | with_reducible rfl | decide | (simp only [List.length_cons,List.length_nil];omega))
  all_goals (have hx:=@exC_r rg ra rb rc h t md;have hl:=cirs_r hp.2;have h0:=cir_len ((dsc rg ra rb rc false zFR.val).num.sign) ((dsc rg ra rb rc true zFR.val).num.sign);(try unfold ofI);(try unfold ofC);(try unfold ofK);grind)
instance {n m : Nat} {rg ra rb rc t : FR} {h : Bool} {md : Int} {τ1 : MT} [j1 : NF τ1 (QUD n rg ra rb rc)] {τ2 : MT} [j2 : NF τ2 (BST m t h md)] : Con Tryz.prog 17 [τ1,τ2] (100000 * n + 100000 * m + 10000000 ≤ BIG ∧ ciF rg ra rb rc = 0) (MT.tup2 (IT (ofI rg ra rb rc h t md)) (IT (ofC rg ra rb rc h t md))):=.o2 fun hok h1 h2 hp=>w17.c2 hok (j1.h h1) (j2.h h2) hp
theorem w18 {n m m2 : Nat} {rg ra rb rc t t2 : FR} {h h2 : Bool} {md md2 : Int} : Con Tryz.prog 18 [QUD n rg ra rb rc,BST m t h md,BST m2 t2 h2 md2] (100000 * n + 100000 * m + 100000 * m2 + 10000000 ≤ BIG ∧ ciF rg ra rb rc = 0) (MT.tup2 (BT (decide (boC rg ra rb rc h t md h2 t2 md2 = 0) && decide (boI rg ra rb rc h t md h2 t2 md2 = boK rg ra rb rc h t md h2 t2 md2))) (IT (boC rg ra rb rc h t md h2 t2 md2))):=.o3 fun hok h1 h2 h3 hp=>by
  refine St.enter (N:=34) Tryz.func18 rfl rfl rfl hok (enter3 h1 h2 h3) fun a=>?_
  repeat' (first | refine W.run ?_ fun a w G=>?_ | refine W.mv fun a w G=>?_ | refine W.asg fun a w G=>?_ | refine W.bx fun b a w G=>?_ | (refine W.nn hK ?_;clear hK K) | refine W.reg fun K hK=>?_ | refine W.reg1 ?_ | refine W.nl ?_ | refine W.sq fun K hK=>?_ | refine W.ds ?_ (fun β a w G hu=>W.fin ?_ hu) mixedOrders (by kernel_rfl) | refine W.sk ?_ | (refine W.kn hK ?_;clear hK K) | refine W.cd (fun hc=>?_) (fun hc=>?_) | refine W.cb (fun hc=>?_) (fun hc=>?_) | refine W.al fun b a w G=>?_ | refine W.st fun w=>?_ | refine W.stp fun w=>?_ | refine W.bl ?_ | refine W.bn ?_ | refine W.ex ?_ | refine W.xt ?_ | refine W.xb ?_ | refine W.xo ?_ | refine W.rt ?_ | refine W.tr ?_ | refine W.br ?_ | refine W.rt1 rfl ?_ | refine W.rt2 rfl ?_ ?_ | refine W.rt3 rfl ?_ ?_ ?_ | clear hK K | clear hu | exact True.intro | exact Nat.le_trans (by clear hp;omega) hp | exact Nat.le_trans (by clear hp;omega) hp.1 | exact Nat.le_trans (by clear hp;omega) hp.2 | (clear hp;omega) | apply And.intro | refine GI.i fun _=>?_ | with_reducible rfl | decide | (simp only [List.length_cons,List.length_nil];omega))
  all_goals grind [boC,boI,boK]
instance {n m m2 : Nat} {rg ra rb rc t t2 : FR} {h h2 : Bool} {md md2 : Int} {τ1 : MT} [j1 : NF τ1 (QUD n rg ra rb rc)] {τ2 : MT} [j2 : NF τ2 (BST m t h md)] {τ3 : MT} [j3 : NF τ3 (BST m2 t2 h2 md2)] : Con Tryz.prog 18 [τ1,τ2,τ3] (100000 * n + 100000 * m + 100000 * m2 + 10000000 ≤ BIG ∧ ciF rg ra rb rc = 0) (MT.tup2 (BT (decide (boC rg ra rb rc h t md h2 t2 md2 = 0) && decide (boI rg ra rb rc h t md h2 t2 md2 = boK rg ra rb rc h t md h2 t2 md2))) (IT (boC rg ra rb rc h t md h2 t2 md2))):=.o3 fun hok h1 h2 h3 hp=>w18.c3 hok (j1.h h1) (j2.h h2) (j3.h h3) hp
end Go.Proofs.YtpbkcbnghhodiaaGreat
set_option linter.unusedVariables false
set_option linter.unusedSimpArgs false
set_option maxHeartbeats 1000000
set_option maxRecDepth 100000
set_option synthInstance.maxSize 100000
set_option synthInstance.maxHeartbeats 400000
namespace Go.Proofs.YtpbkcbnghhodiaaGreat
open Go.RowKit (Below)
attribute [local irreducible] barC trnC btC ciF dsc enR enL cirs exC ofC ofI boC boI boK dirC dirS cirF
theorem ex_bar : barC [FR.of 4,FR.of 1,FR.of 9,FR.of 9] = 0:=by
  unfold barC;simp only [List.all_cons,List.all_nil,posR_of4];decide +kernel
theorem ex_ci : ciF (FR.of 4) (FR.of 1) (FR.of 9) (FR.of 9) = 0:=by
  have h : chkF (sqF (FR.of 4) (FR.of 1) (FR.of 9) (FR.of 9)) = 0:=by
    unfold sqF;simp only [FR.of_val];rw [show (4 : Rat) * 4 = 16 by decide +kernel,show (1 : Rat) * 1 = 1 by decide +kernel];exact ex_chk
  unfold ciF;rw [if_pos ex_bar,if_pos h];simp only [FR.of_val];decide +kernel
theorem ex_dR : dsc (FR.of 4) (FR.of 1) (FR.of 9) (FR.of 9) false zFR.val = 243:=by unfold dsc;simp only [FR.of_val,zv0];decide +kernel
theorem ex_dL : dsc (FR.of 4) (FR.of 1) (FR.of 9) (FR.of 9) true zFR.val = 275:=by unfold dsc;simp only [FR.of_val,zv0];decide +kernel
theorem ex_enR : enR (FR.of 4) (FR.of 1) (FR.of 9) (FR.of 9) = 1:=by rw [← enR_ok ex_ci,ex_dR];decide +kernel
theorem ex_enL : enL (FR.of 4) (FR.of 1) (FR.of 9) (FR.of 9) = 1:=by rw [← enL_ok ex_ci,ex_dL];decide +kernel
theorem ex_cirs : cirs (FR.of 4) (FR.of 1) (FR.of 9) (FR.of 9) = [(true,false,1),(true,false,-1)]:=by rw [cirs_ok ex_ci,ex_enR,ex_enL];decide +kernel
theorem ex_ofC : ofC (FR.of 4) (FR.of 1) (FR.of 9) (FR.of 9) true zFR (-1) = 0:=by
  have h : exC (FR.of 4) (FR.of 1) (FR.of 9) (FR.of 9) true zFR (-1) = 0:=by rw [exC_r,ex_dL];simp only [FR.of_val,zv0];decide +kernel
  unfold ofC;rw [if_pos ex_ci,if_pos trn_zero,h];decide
theorem ex_ofI : ofI (FR.of 4) (FR.of 1) (FR.of 9) (FR.of 9) true zFR (-1) = 1:=by unfold ofI;rw [ex_ofC,ex_cirs];decide +kernel
instance  : Con Tryz.prog 22 [] (True) (QUD 64 (FR.of 4) (FR.of 1) (FR.of 9) (FR.of 9)):=.o0 fun hok  hp=>by
  refine St.enter (N:=6) Tryz.func22 rfl rfl rfl hok enter0 fun a=>?_
  repeat' (first | refine W.run ?_ fun a w G=>?_ | refine W.mv fun a w G=>?_ | refine W.asg fun a w G=>?_ | refine W.bx fun b a w G=>?_ | (refine W.nn hK ?_;clear hK K) | refine W.reg fun K hK=>?_ | refine W.reg1 ?_ | refine W.nl ?_ | refine W.sq fun K hK=>?_ | refine W.ds ?_ (fun β a w G hu=>W.fin ?_ hu) mixedOrders (by kernel_rfl) | refine W.sk ?_ | (refine W.kn hK ?_;clear hK K) | refine W.cd (fun hc=>?_) (fun hc=>?_) | refine W.cb (fun hc=>?_) (fun hc=>?_) | refine W.al fun b a w G=>?_ | refine W.st fun w=>?_ | refine W.stp fun w=>?_ | refine W.bl ?_ | refine W.bn ?_ | refine W.ex ?_ | refine W.xt ?_ | refine W.xb ?_ | refine W.xo ?_ | refine W.rt ?_ | refine W.tr ?_ | refine W.br ?_ | refine W.rt1 rfl ?_ | refine W.rt2 rfl ?_ ?_ | refine W.rt3 rfl ?_ ?_ ?_ | clear hK K | clear hu | exact True.intro | exact Nat.le_trans (by clear hp;omega) hp | exact Nat.le_trans (by clear hp;omega) hp.1 | exact Nat.le_trans (by clear hp;omega) hp.2 | (clear hp;omega) | apply And.intro | refine GI.i fun _=>?_ | with_reducible rfl | decide | (simp only [List.length_cons,List.length_nil];omega))
instance  : Con Tryz.prog 6 [] (True) (BT true):=.o0 fun hok  hp=>by
  refine St.enter (N:=66) Tryz.func6 rfl rfl rfl hok enter0 fun a=>?_
  repeat' (first | refine W.run ?_ fun a w G=>?_ | refine W.mv fun a w G=>?_ | refine W.asg fun a w G=>?_ | refine W.bx fun b a w G=>?_ | (refine W.nn hK ?_;clear hK K) | refine W.reg fun K hK=>?_ | refine W.reg1 ?_ | refine W.nl ?_ | refine W.sq fun K hK=>?_ | refine W.ds ?_ (fun β a w G hu=>W.fin ?_ hu) mixedOrders (by kernel_rfl) | refine W.sk ?_ | (refine W.kn hK ?_;clear hK K) | refine W.cd (fun hc=>?_) (fun hc=>?_) | refine W.cb (fun hc=>?_) (fun hc=>?_) | refine W.al fun b a w G=>?_ | refine W.st fun w=>?_ | refine W.stp fun w=>?_ | refine W.bl ?_ | refine W.bn ?_ | refine W.ex ?_ | refine W.xt ?_ | refine W.xb ?_ | refine W.xo ?_ | refine W.rt ?_ | refine W.tr ?_ | refine W.br ?_ | refine W.rt1 rfl ?_ | refine W.rt2 rfl ?_ ?_ | refine W.rt3 rfl ?_ ?_ ?_ | clear hK K | clear hu | exact True.intro | exact Nat.le_trans (by clear hp;omega) hp | exact Nat.le_trans (by clear hp;omega) hp.1 | exact Nat.le_trans (by clear hp;omega) hp.2 | (clear hp;omega) | apply And.intro | refine GI.i fun _=>?_ | with_reducible rfl | decide | (simp only [List.length_cons,List.length_nil];omega))
  all_goals first | (rw [ex_cirs];decide) | (rw [ex_ci,ex_ofC,ex_cirs,ex_enR,ex_enL,ex_ofI];decide) | skip
end Go.Proofs.YtpbkcbnghhodiaaGreat
set_option linter.unusedVariables false
set_option linter.unusedSimpArgs false
set_option maxHeartbeats 1000000
set_option maxRecDepth 100000
set_option synthInstance.maxSize 100000
set_option synthInstance.maxHeartbeats 400000
namespace Go.Proofs.YtpbkcbnghhodiaaGreat
open Go.RowKit (Below)
attribute [local irreducible] barC trnC btC ciF dsc enR enL cirs exC ofC ofI boC boI boK dirC dirS cirF
def BSX (x : FR × Bool × Int) : MT:=PTS [(some 4,PTS [(some 3,RX x.1),(none,BT x.2.1)]),(none,IT x.2.2)]
instance {x : FR × Bool × Int} : Shp (BSX x) (some 5):=⟨fun h=>PTS.shaped rfl h⟩
instance (priority:=800) Prt.bsx {x : FR × Bool × Int} {i : Nat} {kt : Option Nat} {τ : MT} [h : PrtL [(some 4,PTS [(some 3,RX x.1),(none,BT x.2.1)]),(none,IT x.2.2)] i kt τ] : Prt (BSX x) i kt τ:=(inferInstance : Prt (PTS [(some 4,PTS [(some 3,RX x.1),(none,BT x.2.1)]),(none,IT x.2.2)]) i kt τ)
instance {r : FR} {h : Bool} {m : Int} : AsT (PTS [(some 4,PTS [(some 3,RX r),(none,BT h)]),(none,IT m)]) BSX (r,h,m):=⟨fun h=>h⟩
instance {n : Nat} {r : FR} {h : Bool} {m : Int} : AsT (PTS [(some 4,PTS [(some 3,FX n r),(none,BT h)]),(none,IT m)]) BSX (r,h,m):=⟨fun h=>NR.h h⟩
instance NR.bs {τs : List MT} {xs : List (FR × Bool × Int)} [h : AsTL τs BSX xs] : NR (LSC (some 5) τs) (LS (some 5) (xs.map BSX)):=⟨fun hv=>h.ls hv.1⟩
instance NR.bn : NR (.ex (.slice none 0 0)) (LS (some 5) (([] : List (FR × Bool × Int)).map BSX)):=⟨fun h=>by cases h;exact LS.nil⟩
def shT (x : FR × Bool × Int) : Bool:=shortR x.1
instance : CirT Tryz.prog 42:=⟨_,_,_,Tryz.underlying42,by kernel_rfl,by kernel_rfl,rfl,⟨rfl,rfl,rfl⟩,by kernel_rfl,by kernel_rfl,by kernel_rfl,by kernel_rfl,by kernel_rfl,by kernel_rfl⟩
theorem w7 {rg ra rb rc : FR} {l : List (FR × Bool × Int)} : Con Tryz.prog 7 [PTS [(some 3,RX rg),(some 3,RX ra),(some 3,RX rb),(some 3,RX rc)],LS (some 5) (l.map BSX)] (True) (BT (l.all shT && [rg,ra,rb,rc].all shortR)):=.o2 fun hok h1 h2 hp=>by
  refine St.enter (N:=30) Tryz.func7 rfl rfl rfl hok (enter2 h1 h2) fun a=>?_
  have hlim:=LS.lenM h2
  simp only [LIM] at hlim
  repeat' (first | refine W.run ?_ fun a w G=>?_ | refine W.mv fun a w G=>?_ | refine W.asg fun a w G=>?_ | refine W.bx fun b a w G=>?_ | (refine W.nn hK ?_;clear hK K) | refine W.reg fun K hK=>?_ | refine W.reg1 ?_ | refine W.nl ?_ | refine W.sq fun K hK=>?_ | refine W.ds ?_ (fun β a w G hu=>W.fin ?_ hu) mixedOrders (by kernel_rfl) | refine W.sk ?_ | (refine W.kn hK ?_;clear hK K) | refine W.cd (fun hc=>?_) (fun hc=>?_) | refine W.cb (fun hc=>?_) (fun hc=>?_) | refine W.al fun b a w G=>?_ | refine W.st fun w=>?_ | refine W.stp fun w=>?_ | refine W.bl ?_ | refine W.bn ?_ | refine W.ex ?_ | refine W.xt ?_ | refine W.xb ?_ | refine W.xo ?_ | refine W.rt ?_ | refine W.tr ?_ | refine W.br ?_ | refine W.rt1 rfl ?_ | refine W.rt2 rfl ?_ ?_ | refine W.rt3 rfl ?_ ?_ ?_ | refine W.lp (α:=Nat) (fun j=>l.length - j) (fun j=>j ≤ l.length ∧ (l.take j).all shT = true) [4,6,9,10,11,12,13,14,15,16,17,18,19,20,21,22,23,24,25,26,27] (fun j=>[(9,NT j)]) (fun j=>[]) (0) ?_ ?_ ?_ fun j hj a w G=>?_ | refine W.ag (j+1) ?_ ?_ ?_ ?_ | clear hK K | clear hu | exact True.intro | exact Nat.le_trans (by clear hp;omega) hp | exact Nat.le_trans (by clear hp;omega) hp.1 | exact Nat.le_trans (by clear hp;omega) hp.2 | (clear hp;omega) | apply And.intro | refine GI.i fun _=>?_ | with_reducible rfl | decide | (simp only [List.length_cons,List.length_nil];omega))
  all_goals first
    | rfl
    | (rw [all_not (show j < l.length by omega) (shortR_t hc)];rfl)
    | exact all_snoc (show j < l.length by omega) hj.2 (shortR_f hc)
    | (rw [all_end (show ¬ j < l.length by omega) hj.2,Bool.true_and])
instance {rg ra rb rc : FR} {l : List (FR × Bool × Int)} {τ1 : MT} [j1 : NR τ1 (PTS [(some 3,RX rg),(some 3,RX ra),(some 3,RX rb),(some 3,RX rc)])] {τ2 : MT} [j2 : NR τ2 (LS (some 5) (l.map BSX))] : Con Tryz.prog 7 [τ1,τ2] (True) (BT (l.all shT && [rg,ra,rb,rc].all shortR)):=.o2 fun hok h1 h2 hp=>w7.c2 hok (j1.h h1) (j2.h h2) hp
theorem short0 {l : List FR} (h : l.all shortR = true) : (!true || !(([] : List (FR × Bool × Int)).all shT && l.all shortR)) = false:=by rw [h];rfl
theorem long0 {l : List FR} (h : l.all shortR = false) : (!true || !(([] : List (FR × Bool × Int)).all shT && l.all shortR)) = true:=by rw [h];rfl
theorem cirF_2 (r l : Int) : (cirF r l).length ≤ 2:=by
  unfold cirF
  split
  · decide
  · split
    · decide
    · split <;> decide
theorem cirs_2 (a b c d : FR) : (cirs a b c d).length ≤ 2:=by
  unfold cirs
  split
  · exact cirF_2 _ _
  · decide
theorem longCircuitsLists {rg ra rb rc : FR} : Con Tryz.prog 3 [PTS [(some 3,RX rg),(some 3,RX ra),(some 3,RX rb),(some 3,RX rc)]] ([rg,ra,rb,rc].all shortR = false) (BT true):=.o1 fun hok h1 hp=>by
  refine St.enter (N:=104) Tryz.func3 rfl rfl rfl hok (enter1 h1) fun a=>?_
  repeat' (first | refine W.cbt (long0 hp) ?_ | refine W.run ?_ fun a w G=>?_ | refine W.mv fun a w G=>?_ | refine W.asg fun a w G=>?_ | refine W.bx fun b a w G=>?_ | (refine W.nn hK ?_;clear hK K) | refine W.reg fun K hK=>?_ | refine W.reg1 ?_ | refine W.nl ?_ | refine W.sq fun K hK=>?_ | refine W.ds ?_ (fun β a w G hu=>W.fin ?_ hu) mixedOrders (by kernel_rfl) | refine W.sk ?_ | (refine W.kn hK ?_;clear hK K) | refine W.cd (fun hc=>?_) (fun hc=>?_) | refine W.cb (fun hc=>?_) (fun hc=>?_) | refine W.al fun b a w G=>?_ | refine W.st fun w=>?_ | refine W.stp fun w=>?_ | refine W.bl ?_ | refine W.bn ?_ | refine W.ex ?_ | refine W.xt ?_ | refine W.xb ?_ | refine W.xo ?_ | refine W.rt ?_ | refine W.tr ?_ | refine W.br ?_ | refine W.rt1 rfl ?_ | refine W.rt2 rfl ?_ ?_ | refine W.rt3 rfl ?_ ?_ ?_ | clear hK K | clear hu | exact True.intro | exact Nat.le_trans (by clear hp;omega) hp | exact Nat.le_trans (by clear hp;omega) hp.1 | exact Nat.le_trans (by clear hp;omega) hp.2 | (clear hp;omega) | apply And.intro | refine GI.i fun _=>?_ | with_reducible rfl | decide | (simp only [List.length_cons,List.length_nil];omega))
theorem shortCircuitsLists {rg ra rb rc : FR} : Con Tryz.prog 3 [QUD 64 rg ra rb rc] ([rg,ra,rb,rc].all shortR = true) (BT true):=.o1 fun hok h1 hp=>by
  refine St.enter (N:=104) Tryz.func3 rfl rfl rfl hok (enter1 h1) fun a=>?_
  have hl2:=cirs_2 rg ra rb rc
  repeat' (first | refine W.cbf (short0 hp) ?_ | refine W.run ?_ fun a w G=>?_ | refine W.mv fun a w G=>?_ | refine W.asg fun a w G=>?_ | refine W.bx fun b a w G=>?_ | (refine W.nn hK ?_;clear hK K) | refine W.reg fun K hK=>?_ | refine W.reg1 ?_ | refine W.nl ?_ | refine W.sq fun K hK=>?_ | refine W.ds ?_ (fun β a w G hu=>W.fin ?_ hu) mixedOrders (by kernel_rfl) | refine W.sk ?_ | (refine W.kn hK ?_;clear hK K) | refine W.cd (fun hc=>?_) (fun hc=>?_) | refine W.cb (fun hc=>?_) (fun hc=>?_) | refine W.al fun b a w G=>?_ | refine W.st fun w=>?_ | refine W.stp fun w=>?_ | refine W.bl ?_ | refine W.bn ?_ | refine W.ex ?_ | refine W.xt ?_ | refine W.xb ?_ | refine W.xo ?_ | refine W.rt ?_ | refine W.tr ?_ | refine W.br ?_ | refine W.rt1 rfl ?_ | refine W.rt2 rfl ?_ ?_ | refine W.rt3 rfl ?_ ?_ ?_ | refine W.lp (α:=Nat) (fun j=>(cirs rg ra rb rc).length - j) (fun j=>j ≤ (cirs rg ra rb rc).length) [2,12,91,92,93,94,95,96,97,98,99,100,101,102,103] (fun j=>[(91,NT j)]) (fun j=>[]) (0) ?_ ?_ ?_ fun j hj a w G=>?_ | refine W.ag (j+1) ?_ ?_ ?_ ?_ | clear hK K | clear hu | exact True.intro | exact Nat.le_trans (by clear hp;omega) hp | exact Nat.le_trans (by clear hp;omega) hp.1 | exact Nat.le_trans (by clear hp;omega) hp.2 | (clear hp;omega) | apply And.intro | refine GI.i fun _=>?_ | with_reducible rfl | decide | (simp only [List.length_cons,List.length_nil];omega))
  all_goals first
    | (rw [← enR_bad hc,← enL_bad hc,← cirs_bad hc];simp)
    | (have hz : ciF rg ra rb rc = 0 := by omega
       have e1:=enR_ok hz;have e2:=enL_ok hz;have e3:=cirs_r hz
       generalize (dsc rg ra rb rc false zFR.val).num.sign = sR at *
       generalize (dsc rg ra rb rc true zFR.val).num.sign = sL at *
       first | grind | (rw [e3] at *;grind) | (rw [e3] at hc;simp at hc))
theorem lawCircuitsLists {rg ra rb rc : FR} {w : World} {G : Gh} {v1 : Value} (hok : Gok w G) (h1 : (PTS [(some 3,RX rg),(some 3,RX ra),(some 3,RX rb),(some 3,RX rc)]).t v1 G) : Calls Tryz.prog 3 #[v1] w (Ret w G (BT true)):=by
  cases hs : [rg,ra,rb,rc].all shortR with
  | true =>
    have hq:=hs
    simp only [List.all_cons,List.all_nil,Bool.and_true,Bool.and_eq_true,shT] at hq
    exact shortCircuitsLists.c1 hok (NS.h (τ':=QUD 64 rg ra rb rc) (by simp only [and_true];grind) h1) hs
  | false=>exact longCircuitsLists.c1 hok h1 hs
end Go.Proofs.YtpbkcbnghhodiaaGreat
namespace Go.Proofs.YtpbkcbnghhodiaaGreat
open Go.RowKit (Below)
def G0of (W : World) : Gh:=fun b=>W.heap[b]?
theorem G0of_ok (W : World) : Gok W (G0of W):=fun _ _ h=>h
theorem Gc_G0 {W : World} {b i : Nat} : Gc (G0of W) b i = W.cell? ⟨b,i,none⟩:=by
  unfold Gc G0of World.cell?;cases W.heap[b]? with
  | none=>rfl
  | some o=>cases o <;> rfl
def RdA (P : Program) (W : World) (t : TypeId) (k : Option Nat) (A : MT → Prop) : Prop:=∀ (H : Type) (enc : TypeId × Value → H) (fuel : Nat) (cs : List Value) (x : DataW H × List MemPlace),
  DataW.trod enc P W 0 (fun _=>true) true fuel t cs = some x → (x.1.weights P t).all (· ≤ reachBytes) = true → ∃ (v : Value) (τ : MT),A τ ∧ v.cells.toList = cs ∧ Shaped k v ∧ τ.t v (G0of W)
section
variable {P : Program} {W : World} {t e : TypeId} {k : Option Nat} {A A' : MT → Prop}
theorem RdA.mono (h : RdA P W t k A) (hA : ∀ τ v,A τ → τ.t v (G0of W) → ∃ σ,A' σ ∧ σ.t v (G0of W)) : RdA P W t k A':=fun H enc fuel cs x hx hw=>by
  obtain ⟨v,τ,h1,h2,h3,h4⟩:=h H enc fuel cs x hx hw
  obtain ⟨σ,h5,h6⟩:=hA τ v h1 h4
  exact ⟨v,σ,h5,h2,h3,h6⟩
theorem rd_bool (ht : P.underlying t = some .bool) : RdA P W t none (fun τ=>∃ b,τ = .ex (.bool b)):=fun H enc fuel cs x hx hw=>by
  obtain ⟨b,rfl,rfl⟩:=DataW.trod_bool ht hx
  exact ⟨.bool b,_,⟨b,rfl⟩,rfl,⟨rfl,rfl⟩,rfl⟩
theorem rd_int {kk : IntKind} (ht : P.underlying t = some (.int kk)) : RdA P W t none (fun τ=>∃ z,(Lit.int kk z).wf = true ∧ τ = .ex (.int kk z)):=fun H enc fuel cs x hx hw=>by
  obtain ⟨z,rfl,rfl,h⟩:=DataW.trod_int ht hx
  exact ⟨.int kk z,_,⟨z,h,rfl⟩,rfl,⟨rfl,rfl⟩,rfl⟩
theorem cells_get {a : Addr} {n : Nat} {L : List Value} (h : W.cells? 0 a n = some L) : L.length = n ∧ ∀ j,j < n → W.cell? (a.add j) = L[j]?:=by
  unfold World.cells? at h
  rw [if_pos (Nat.zero_le _)] at h
  exact ⟨by simpa using mapM_some_length h,fun j hj=>mapM_some_get h j j (by simp [hj])⟩
theorem weightsAll_mem {H : Type} {es : List (DataW H)} {d : DataW H} {i : Nat} (hi : es[i]? = some d) : ∀ n ∈ d.weights P e,n ∈ DataW.weightsAll P e es:=by
  induction es generalizing i with
  | nil=>simp at hi
  | cons x r ih =>
    intro n hn
    rw [DataW.weightsAll,List.mem_append]
    cases i with
    | zero=>simp at hi;subst hi;exact .inl hn
    | succ j=>exact .inr (ih (by simpa using hi) n hn)
theorem rd_slice (ht : P.underlying t = some (.slice e)) (hc : P.cellsOf e = k.getD 1) (hc0 : 0 < k.getD 1) (hb : 4 ≤ P.bytesOf e) (h : RdA P W e k A) : RdA P W t none (fun τ=>∃ τs,(∀ σ ∈ τs,A σ) ∧ τ = LS k τs):=fun H enc fuel cs x hx hw=>by
  rcases DataW.trod_slice ht hx with ⟨rfl,rfl⟩ | ⟨a,len,cap,elems,rest,n,rfl,rfl,rfl,hb0,hlc,hcm,hel,hE,_,_⟩
  · exact ⟨.slice none 0 0,LS k [],⟨[],by simp,rfl⟩,rfl,⟨rfl,rfl⟩,LS.nil⟩
  · simp only [DataW.weights,ht,List.all_cons,List.all_append,Bool.and_eq_true,decide_eq_true_eq] at hw
    obtain ⟨hw1,hw2,_⟩:=hw
    have hlim : len ≤ LIM:=by
      have h1 : len * 4 ≤ ((elems.map (·.1)).length + (rest.map (·.1)).length) * P.bytesOf e:=Nat.mul_le_mul (by simp;omega) hb
      have h2 : reachBytes = 140737488351232:=rfl
      simp only [LIM];omega
    have each : ∀ i,∃ (v : Value) (τ : MT),i < len → W.cells? 0 (a.add (i * k.getD 1)) (k.getD 1) = some v.cells.toList ∧ A τ ∧ Shaped k v ∧ τ.t v (G0of W):=fun i=>by
      by_cases hi : i < len
      · have h1:=hE i hi
        rw [List.getElem?_eq_getElem (by omega),Option.bind_eq_some_iff,hc] at h1
        obtain ⟨cs',h2,h3⟩:=h1
        obtain ⟨v,τ,h4,h5,h6,h7⟩:=h H enc n cs' _ h3 (List.all_eq_true.2 fun m hm=>List.all_eq_true.1 hw2 m (weightsAll_mem (i:=i) (by rw [List.getElem?_map,List.getElem?_eq_getElem (by omega)];rfl) m hm))
        exact ⟨v,τ,fun _=>⟨by rw [h5];exact h2,h4,h6,h7⟩⟩
      · exact ⟨undef,.ex undef,fun h=>absurd h hi⟩
    obtain ⟨f,g,hfg⟩ : ∃ (f : Nat → Value) (g : Nat → MT),∀ i,i < len → W.cells? 0 (a.add (i * k.getD 1)) (k.getD 1) = some (f i).cells.toList ∧ A (g i) ∧ Shaped k (f i) ∧ (g i).t (f i) (G0of W):=⟨fun i=>(each i).choose,fun i=>(each i).choose_spec.choose,fun i=>(each i).choose_spec.choose_spec⟩
    refine ⟨.slice (some a) len cap,LS k ((List.range len).map g),⟨_,fun σ hσ=>?_,rfl⟩,rfl,⟨rfl,rfl⟩,LS.of_vals (us:=(List.range len).map f) (A:=some a) (c:=cap) (by simp) (by simpa using hlc) (by simpa using hlim) ⟨by simp,fun i τ u hi hu=>?_⟩ fun i u hu=>?_⟩
    · obtain ⟨i,hi,rfl⟩:=List.mem_map.1 hσ
      exact (hfg i (by simpa using hi)).2.1
    · have hlt : i < len:=by have:=(List.getElem?_eq_some_iff.1 hi).1;simpa using this
      simp [List.getElem?_range hlt] at hi hu
      subst hi;subst hu
      exact (hfg i hlt).2.2
    · have hlt : i < len:=by have:=(List.getElem?_eq_some_iff.1 hu).1;simpa using this
      simp [List.getElem?_range hlt] at hu
      subst hu
      obtain ⟨h1,h2,h3,h4⟩:=hfg i hlt
      obtain ⟨h5,h6⟩:=cells_get h1
      obtain ⟨g5,g6⟩:=cells_get (hfg 0 (by omega)).1
      obtain ⟨b,off,spot⟩:=a
      have h7:=g6 0 hc0
      rw [List.getElem?_eq_getElem (by omega)] at h7
      have hs : spot = none:=by simpa [Addr.add] using World.cell?_spot h7
      subst hs
      refine ⟨b,off,rfl,fun j x hj=>?_⟩
      have hjl : j < k.getD 1:=by have:=(Array.getElem?_eq_some_iff.1 hj).1;rw [← h5,Array.length_toList];exact this
      have h8:=h6 j hjl
      rw [Gc_G0]
      rw [addr_add,addr_add,Array.getElem?_toList,hj] at h8
      exact h8
theorem forall_map' {α : Type} {T : α → MT} {p : α → Prop} {τs : List MT} (h : ∀ σ ∈ τs,∃ x,p x ∧ σ = T x) : ∃ xs : List α,τs = xs.map T ∧ ∀ x ∈ xs,p x:=by
  induction τs with
  | nil=>exact ⟨[],rfl,by simp⟩
  | cons a r ih =>
    obtain ⟨l,rfl,hl⟩:=ih fun σ h'=>h σ (List.mem_cons_of_mem _ h')
    obtain ⟨x,hx,rfl⟩:=h a (List.mem_cons_self ..)
    exact ⟨x :: l,rfl,by simpa using ⟨hx,hl⟩⟩
theorem rd_words (ht : P.underlying t = some (.slice e)) (hu : P.underlying e = some (.int .u32)) (hc : P.cellsOf e = 1) (hb : 4 ≤ P.bytesOf e) : RdA P W t none (fun τ=>∃ l,τ = SL l):=by
  have h1 : RdA P W e none (fun τ=>∃ x : Nat,x < 4294967296 ∧ τ = .ex (u32 x)):=(rd_int hu).mono fun τ v ⟨z,hz,hτ⟩ hv=>by
    subst hτ
    have hm : IntKind.u32.min = 0:=by decide
    have hM : IntKind.u32.max = 4294967295:=by decide
    simp [Lit.wf,hm,hM] at hz
    exact ⟨_,⟨z.toNat,by omega,rfl⟩,by
      have : (z.toNat : Int) = z:=by omega
      show v = .int .u32 (z.toNat : Int);rw [this];exact hv⟩
  refine (rd_slice (k:=none) ht hc (by decide) hb h1).mono fun τ v ⟨τs,hσ,hτ⟩ hv=>?_
  subst hτ
  obtain ⟨l,hl,hlt⟩:=forall_map' hσ
  subst hl
  obtain ⟨A,c,us,h2,h3,h4,h5,h6⟩:=LS.vals hv
  rw [List.length_map] at h2 h3 h4
  refine ⟨_,⟨l,rfl⟩,A,c,h2,h3,h4,hlt,fun i x hi=>?_⟩
  have hil:=(List.getElem?_eq_some_iff.1 hi).1
  have hul : i < us.length:=by rw [h5.1,List.length_map];exact hil
  have hui : us[i]? = some us[i]:=by rw [List.getElem?_eq_getElem hul]
  have h7:=(h5.2 i (.ex (u32 x)) us[i] (by rw [List.getElem?_map,hi];rfl) hui).2
  obtain ⟨b,off,e1,h8⟩:=h6 i us[i] hui
  refine ⟨b,off,e1,?_⟩
  have h9 : us[i] = u32 x:=h7
  rw [h9] at h8
  simpa using h8 0 (u32 x) rfl
def FldOk (P : Program) (W : World) : Nat → List Field → List (Option Nat × (MT → Prop)) → Prop
  | _,[],[]=>True
  | off,f :: fs,a :: As=>f.offset = off ∧ P.cellsOf f.type = a.1.getD 1 ∧ RdA P W f.type a.1 a.2 ∧ FldOk P W (off + a.1.getD 1) fs As
  | _,_,_=>False
def Mt : List (Option Nat × (MT → Prop)) → List (Option Nat × MT) → Prop
  | [],[]=>True
  | a :: As,f :: F=>f.1 = a.1 ∧ a.2 f.2 ∧ Mt As F
  | _,_=>False
def tot (As : List (Option Nat × (MT → Prop))) : Nat:=(As.map fun a=>a.1.getD 1).sum
theorem Mt.tot : ∀ {As : List (Option Nat × (MT → Prop))} {F : List (Option Nat × MT)},Mt As F → (F.map fun f=>f.1.getD 1).sum = Go.Proofs.YtpbkcbnghhodiaaGreat.tot As
  | [],[],_=>rfl
  | a :: As,f :: F,h=>by
    have:=Mt.tot h.2.2
    simp only [Go.Proofs.YtpbkcbnghhodiaaGreat.tot,List.map_cons,List.sum_cons,h.1] at this ⊢
    rw [this]
  | [],_ :: _,h=>h.elim
  | _ :: _,[],h=>h.elim
theorem rd_fields {H : Type} {enc : TypeId × Value → H} {n : Nat} {cs : List Value} : ∀ (fs : List Field) (As : List (Option Nat × (MT → Prop))) (xs : List (DataW H × List MemPlace)) (off : Nat), FldOk P W off fs As → xs.length = fs.length →
    (∀ (i : Nat) (f : Field),fs[i]? = some f → DataW.trod enc P W 0 (fun _=>true) true n f.type ((cs.drop f.offset).take (P.cellsOf f.type)) = xs[i]?) → (DataW.weightsEach P (fs.map (·.type)) (xs.map (·.1))).all (· ≤ reachBytes) = true → cs.length = off + tot As →
    ∃ us F,Mt As F ∧ flat us = cs.drop off ∧ us.length = F.length ∧ ∀ (i : Nat) (f : Option Nat × MT) (u : Value),F[i]? = some f → us[i]? = some u → Shaped f.1 u ∧ f.2.t u (G0of W)
  | [],[],xs,off,_,_,_,_,hl=>⟨[],[],trivial,by rw [List.drop_eq_nil_of_le (by rw [hl];simp [tot])];rfl,rfl,fun i f u h=>by simp at h⟩
  | f :: fs,a :: As,[],off,_,hx,_,_,_=>by simp at hx
  | f :: fs,a :: As,x :: xs,off,hF,hx,hT,hw,hl=>by
    obtain ⟨h1,h2,h3,h4⟩:=hF
    simp only [List.map_cons,DataW.weightsEach,List.all_append,Bool.and_eq_true] at hw
    obtain ⟨v,τ,h5,h6,h7,h8⟩:=h3 H enc n _ x (hT 0 f rfl) hw.1
    obtain ⟨us,F,g1,g2,g3,g4⟩:=rd_fields fs As xs (off + a.1.getD 1) h4 (by simpa using hx) (fun i g hg=>by simpa using hT (i + 1) g (by simpa using hg)) hw.2 (by rw [hl];simp [tot];omega)
    refine ⟨v :: us,(a.1,τ) :: F,⟨rfl,h5,g1⟩,?_,by simp [g3],fun i f' u hf hu=>?_⟩
    · rw [flat_cons,h6,g2,h1,h2,← List.drop_drop,List.take_append_drop]
    · cases i with
      | zero=>simp at hf hu;subst hf;subst hu;exact ⟨h7,h8⟩
      | succ i=>exact g4 i f' u (by simpa using hf) (by simpa using hu)
  | [],_ :: _,_,_,h,_,_,_,_=>h.elim
  | _ :: _,[],_,_,h,_,_,_,_=>h.elim
theorem rd_struct {fs : Array Field} {As : List (Option Nat × (MT → Prop))} {n : Nat} (ht : P.underlying t = some (.struct fs)) (hn : P.cellsOf t = n) (hnA : tot As = n) (hF : FldOk P W 0 fs.toList As) : RdA P W t (some n) (fun τ=>∃ F,Mt As F ∧ τ = PTS F):=fun H enc fuel cs x hx hw=>by
  obtain ⟨xs,m,rfl,rfl,hl,hxl,hT⟩:=DataW.trod_struct ht hx
  simp only [DataW.weights,ht] at hw
  obtain ⟨us,F,h1,h2,h3,h4⟩:=rd_fields fs.toList As xs 0 hF (by simpa using hxl) (fun i f hf=>hT i f (by simpa using hf)) hw (by omega)
  have hP : (PTS F).t (.agg (flat us).toArray) (G0of W):=⟨us,rfl,h3,h4⟩
  refine ⟨.agg (flat us).toArray,PTS F,⟨F,h1,rfl⟩,by rw [h2];rfl,PTS.shaped (by unfold offs;rw [List.take_length,h1.tot,hnA]) hP,hP⟩
theorem shaped1 {u : Value} (h : Shaped none u) : u.cells = #[u]:=h.1
theorem PTS.toQR {s : Bool} {p q : List Nat} {v : Value} {G : Gh} (h : (PTS [(none,.ex (.bool s)),(none,SL p),(none,SL q)]).t v G) : (QR s p q).t v G:=by
  obtain ⟨us,rfl,hl,h⟩:=h
  match us,hl,h with
  | [u0,u1,u2],_,h =>
    obtain ⟨a0,b0⟩:=h 0 _ u0 rfl rfl
    obtain ⟨a1,b1⟩:=h 1 _ u1 rfl rfl
    obtain ⟨a2,b2⟩:=h 2 _ u2 rfl rfl
    refine ⟨u1,u2,?_,b1,b2⟩
    have e0 : u0 = .bool s:=b0
    simp only [flat,List.flatMap_cons,List.flatMap_nil,shaped1 a0,shaped1 a1,shaped1 a2]
    rw [e0];rfl
theorem rd_frac {fs : Array Field} {f0 f1 f2 : Field} {tw : TypeId} (ht : P.underlying t = some (.struct fs)) (hf : fs.toList = [f0, f1, f2]) (hn : P.cellsOf t = 3) (h0 : f0.offset = 0 ∧ P.cellsOf f0.type = 1 ∧ P.underlying f0.type = some .bool) (h1 : f1.offset = 1 ∧ f1.type = tw) (h2 : f2.offset = 2 ∧ f2.type = tw)
    (hw : P.underlying tw = some (.slice e) ∧ P.cellsOf tw = 1) (he : P.underlying e = some (.int .u32) ∧ P.cellsOf e = 1 ∧ 4 ≤ P.bytesOf e) : RdA P W t (some 3) (fun τ=>∃ r : FR,τ = QR r.s r.p r.q):=by
  have hW : RdA P W tw none (fun τ=>∃ l,τ = SL l):=rd_words hw.1 he.1 he.2.1 he.2.2
  refine (rd_struct (As:=[(none,fun τ=>∃ b,τ = .ex (.bool b)),(none,fun τ=>∃ l,τ = SL l),(none,fun τ=>∃ l,τ = SL l)]) ht hn rfl (by
    rw [hf];exact ⟨h0.1,h0.2.1,rd_bool h0.2.2,h1.1,by rw [h1.2];exact hw.2,by rw [h1.2];exact hW,h2.1,by rw [h2.2];exact hw.2,by rw [h2.2];exact hW,trivial⟩)).mono fun τ v ⟨F,hM,hτ⟩ hv=>?_
  subst hτ
  match F,hM with
  | [a,b,c],⟨a1,⟨s,a2⟩,b1,⟨p,b2⟩,c1,⟨q,c2⟩,_⟩ =>
    obtain ⟨a0,a'⟩:=a;obtain ⟨b0,b'⟩:=b;obtain ⟨c0,c'⟩:=c
    simp only at a1 a2 b1 b2 c1 c2
    subst a1;subst a2;subst b1;subst b2;subst c1;subst c2
    exact ⟨_,⟨⟨s,p,q⟩,rfl⟩,PTS.toQR hv⟩
theorem rd_arg {H : Type} {enc : TypeId × Value → H} {v : Value} {d : DataW H} {ps : List MemPlace} (h : RdA P W t k A) (hd : DataW.Trod enc P W 0 (fun _ => true) true t v d ps) (hw : (d.weights P t).all (· ≤ reachBytes) = true)
    (hv : match k with | none=>v.cells = #[v] | some _=>∃ cs,v = .agg cs) : ∃ τ,A τ ∧ Shaped k v ∧ τ.t v (G0of W):=by
  obtain ⟨fuel,hf⟩:=hd
  obtain ⟨u,τ,h1,h2,h3,h4⟩:=h H enc fuel _ _ hf hw
  have : u = v:=by
    cases k with
    | none =>
      have h5 : u.cells = #[u]:=h3.1
      rw [h5,hv] at h2
      simpa using h2
    | some n =>
      obtain ⟨cs,rfl⟩:=hv
      obtain ⟨cs',rfl,_⟩:=h3
      have : cs'.toList = cs.toList:=h2
      rw [Array.toList_inj.1 this]
  subst this
  exact ⟨τ,h1,h3,h4⟩
end
end Go.Proofs.YtpbkcbnghhodiaaGreat
