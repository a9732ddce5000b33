import Derived.Test.YtdeihehaheelmaaGreatQd
set_option linter.unusedVariables false
set_option linter.unusedSimpArgs false
namespace Go.Proofs.YtdeihehaheelmaaGreat
set_option maxHeartbeats 1000000
set_option maxRecDepth 100000
open Go.RowKit (Below)
private theorem bt_24_ : Tryz.prog.built 24 [] = some #[.bool false,.slice none 0 0,.slice none 0 0]:=by kernel_rfl
private theorem c_10 : callable Tryz.prog 10 = true:=by kernel_rfl
private theorem c_36 : callable Tryz.prog 36 = true:=by kernel_rfl
private theorem c_42 : callable Tryz.prog 42 = true:=by kernel_rfl
private theorem c_48 : callable Tryz.prog 48 = true:=by kernel_rfl
private theorem c_64 : callable Tryz.prog 64 = true:=by kernel_rfl
private theorem c_65 : callable Tryz.prog 65 = true:=by kernel_rfl
private theorem c_66 : callable Tryz.prog 66 = true:=by kernel_rfl
private theorem c_67 : callable Tryz.prog 67 = true:=by kernel_rfl
private theorem c_69 : callable Tryz.prog 69 = true:=by kernel_rfl
private theorem c_70 : callable Tryz.prog 70 = true:=by kernel_rfl
private theorem c_71 : callable Tryz.prog 71 = true:=by kernel_rfl
private theorem el_24 : elS Tryz.prog 24 3 56 (.agg #[.bool false,.slice none 0 0,.slice none 0 0]):=by unfold elS;kernel_rfl
private theorem if_30 : ifaceT Tryz.prog 30:=by unfold ifaceT;kernel_rfl
private theorem mixedOrders : Tryz.prog.follows .mixedOrders = true:=by kernel_rfl
private theorem tS_24 : tyS Tryz.prog 24 (some 3) = true:=by kernel_rfl
private theorem z_24 : (Tryz.prog.info? 24).bind (·.zero) = some (.agg #[.bool false,.slice none 0 0,.slice none 0 0]):=by kernel_rfl
private theorem zs_24 : Shaped (some 3) (.agg #[.bool false,.slice none 0 0,.slice none 0 0]):=⟨_,rfl,rfl,by simp [Value.oneCell']⟩
theorem fValidX_ok {n : Nat} {r : FR} {v1 : Value} {W0 : World} {G0 : Gh} (hok : Gok W0 G0) (h1 : (FX n r).t v1 G0) (hn : n ≤ BIG) : Calls Tryz.prog 35 #[v1] W0 (Ret W0 G0 (BT r.ok)):=by
 exact fValid_ok hok (FX.qr h1) h1.2.1 h1.2.2.1 hn
theorem gValidX_ok {n : Nat} {r : FR} {v1 : Value} {W0 : World} {G0 : Gh} (hok : Gok W0 G0) (h1 : (FX n r).t v1 G0) (hn : n ≤ BIG) : Calls Tryz.prog 28 #[v1] W0 (Ret W0 G0 (BT r.ok)):=by
 exact gValid_ok hok (FX.qr h1) h1.2.1 h1.2.2.1 hn
theorem bNum_ok {z : Int} {v1 : Value} {W0 : World} {G0 : Gh} (hok : Gok W0 G0) (h1 : (MT.ex (errV 43 (z))).t v1 G0)  : Calls Tryz.prog 10 #[v1] W0 (Ret W0 G0 (IT z)):=by
 refine St.enter (N:=15) (L:=[(0,MT.ex (errV 43 (z)))]) (args:=[v1]) Tryz.func10 rfl rfl rfl hok (enter1 h1) fun a S=>?_
 refine wp_reg fun K hK=>?_
 refine S.s (τ:=NT 0) (OpR.asn S.ok rfl (rfl : _ = nv .i64 0)) rfl fun a w G S=>?_
 refine wn hK ?_;clear hK K
 refine wp_seq_k fun K hK=>?_
 refine wp_reg fun K hK=>?_
 refine S.m rfl (S.g 1 rfl) rfl fun a w G S=>?_
 refine S.s (τ:=BT (decide ((z) = 0))) (OpR.isB errV_eql (OpR.errEqNil S.ok rfl if_30 (S.e 0 rfl) (by first | exact .inl rfl | exact .inr ⟨_,_,rfl⟩ | exact errV_or _) rfl)) rfl fun a w G S=>?_
 refine wn hK ?_;clear hK K
 replace S:=S.d1
 refine S.cond 0 rfl (fun hc1=>?_) (fun hc1=>?_)
 ·
  have hp2:=of_decide_eq_true hc1
  refine wp_reg fun K hK=>?_
  replace S:=S.d1
  refine S.s (τ:=NT 0) (OpR.asn S.ok rfl (rfl : _ = nv .i64 0)) rfl fun a w G S=>?_
  refine wn hK ?_;clear hK K
  exact wp_ret (then_ret (S.retTmp rfl ((S.e 0 rfl).trans (iv_eq (by first | rfl | omega | (simp only [Nat.zero_add,Nat.add_zero];done) | (simp;done) | (push_cast;omega))))))
 ·
  have hp3:=of_decide_eq_false hc1
  refine wp_skip ?_
  refine hK _ _ ?_;clear hK K
  refine wp_reg fun K hK=>?_
  refine S.m rfl (S.g 2 rfl) rfl fun a w G S=>?_
  refine S.s (τ:=MT.tup2 (IT z) (BT true)) (OpR.tass S.ok rfl (S.e 0 rfl) (by omega) Tryz.underlying43 ⟨_,_,rfl,rfl,rfl⟩) rfl fun a w G S=>?_
  refine S.m rfl (S.g 0 rfl) rfl fun a w G S=>?_
  refine S.s (OpR.ext2a S.ok rfl (S.g 0 rfl)) rfl fun a w G S=>?_
  refine S.s (OpR.ext2b S.ok rfl (S.g 1 rfl)) rfl fun a w G S=>?_
  refine S.q rfl (S.g 1 rfl) rfl fun a w G S=>?_
  refine S.q rfl (S.g 1 rfl) rfl fun a w G S=>?_
  refine wn hK ?_;clear hK K
  replace S:=S.d6.d5.d4.d3.d2
  refine wp_seq_k fun K hK=>?_
  refine wp_reg fun K hK=>?_
  refine S.m rfl (S.g 0 rfl) rfl fun a w G S=>?_
  refine S.s (τ:=BT false) (OpR.bnot S.ok rfl (S.e 0 rfl) rfl) rfl fun a w G S=>?_
  refine wn hK ?_;clear hK K
  replace S:=S.d2.d1
  refine wp_cond_false (S.e 0 rfl) ?_
  refine wp_skip ?_
  refine hK _ _ ?_;clear hK K
  refine wp_reg fun K hK=>?_
  refine S.m rfl (S.g 1 rfl) rfl fun a w G S=>?_
  replace S:=S.d4
  refine S.q rfl (S.g 0 rfl) rfl fun a w G S=>?_
  refine wn hK ?_;clear hK K
  replace S:=S.d3.d1
  exact wp_ret (S.retTmp rfl (S.g 0 rfl))
theorem bIs_ok {z c : Int} {v1 v2 : Value} {W0 : World} {G0 : Gh} (hok : Gok W0 G0) (h1 : (MT.ex (errV 43 (z))).t v1 G0) (h2 : (IT c).t v2 G0)  : Calls Tryz.prog 18 #[v1,v2] W0 (Ret W0 G0 (BT (decide (z = c)))):=by
 refine St.enter (N:=9) (L:=[(1,IT c),(0,MT.ex (errV 43 (z)))]) (args:=[v1,v2]) Tryz.func18 rfl rfl rfl hok (enter2 h1 h2) fun a S=>?_
 refine wp_reg fun K hK=>?_
 refine S.s (τ:=BT false) (OpR.asn S.ok rfl rfl) rfl fun a w G S=>?_
 refine wn hK ?_;clear hK K
 refine wp_reg fun K hK=>?_
 refine S.m rfl (S.g 2 rfl) rfl fun a w G S=>?_
 refine S.s (τ:=IT (?z)) (OpR.call1 rfl c_10 (bNum_ok S.ok ((S.e 0 rfl).trans (by first | rfl | omega | (simp only [Nat.zero_add,Nat.add_zero];done) | (simp;done) | (push_cast;omega))))) rfl fun a w G S=>?_
 refine S.m rfl (S.g 3 rfl) rfl fun a w G S=>?_
 refine S.s (OpR.zeql S.ok rfl (S.e 1 rfl) (S.e 0 rfl) MT.self) rfl fun a w G S=>?_
 replace S:=S.d4
 refine S.q rfl (S.g 0 rfl) rfl fun a w G S=>?_
 refine wn hK ?_;clear hK K
 replace S:=S.d6.d5.d4.d3.d2.d1
 exact wp_ret (S.retTmp rfl ((S.e 0 rfl).trans (bv_eq (by first | rfl | omega | (simp only [Nat.zero_add,Nat.add_zero];done) | (simp;done) | (push_cast;omega)))))
theorem xmixed_ok {n m k : Nat} {x y d : Rat} {v1 v2 v3 : Value} {W0 : World} {G0 : Gh} (hok : Gok W0 G0) (h1 : (QV n x).t v1 G0) (h2 : (QV m y).t v2 G0) (h3 : (QV k d).t v3 G0) (hn : n + n + (m + m + k) ≤ BIG) : Calls Tryz.prog 66 #[v1,v2,v3] W0 (Ret W0 G0 (IT (mixedF x y d))):=by
 refine St.enter (N:=38) (L:=[(2,QV k d),(1,QV m y),(0,QV n x)]) (args:=[v1,v2,v3]) Tryz.func66 rfl rfl rfl hok (enter3 h1 h2 h3) fun a S=>?_
 refine wp_reg fun K hK=>?_
 refine S.boxop (x:=.tmp 0) (τ:=QV n x) (S.g 2 rfl) (sh (τ:=QV n x) (S.g 2 rfl)) rfl rfl rfl rfl rfl fun b3 a w G S=>?_
 refine S.boxop (x:=.tmp 1) (τ:=QV m y) (S.g 2 rfl) (sh (τ:=QV m y) (S.g 2 rfl)) rfl rfl rfl rfl rfl fun b4 a w G S=>?_
 refine S.boxop (x:=.tmp 2) (τ:=QV k d) (S.g 2 rfl) (sh (τ:=QV k d) (S.g 2 rfl)) rfl rfl rfl rfl rfl fun b5 a w G S=>?_
 refine S.s (τ:=NT 0) (OpR.asn S.ok rfl (rfl : _ = nv .i64 0)) rfl fun a w G S=>?_
 refine wn hK ?_;clear hK K
 replace S:=S.d6.d5.d4
 refine wp_seq_k fun K hK=>?_
 refine S.drawn [⟨9,.g (QV n x),[]⟩,⟨10,.g (IT x.num.sign),[0]⟩,⟨11,.g (QV m y),[]⟩,⟨12,.g (IT y.num.sign),[2]⟩,⟨13,.g (QV k d),[]⟩,⟨14,.g (IT d.num.sign),[4]⟩,⟨15,.g (IT (y.num.sign * d.num.sign)),[3,5]⟩,⟨7,.g (IT x.num.sign),[1]⟩,⟨8,.g (IT (y.num.sign * d.num.sign)),[6]⟩] mixedOrders (by kernel_rfl)
  ⟨fun a w G S=>.of rfl (OpR.ldBox S.ok rfl (S.e 3 rfl) (S.box 2 rfl) tS_24),
   fun a w G S=>.of rfl (OpR.call1 rfl c_36 (fSign_ok S.ok (S.g 0 rfl) (by omega))),
   fun a w G S=>.of rfl (OpR.ldBox S.ok rfl (S.e 2 rfl) (S.box 1 rfl) tS_24),
   fun a w G S=>.of rfl (OpR.call1 rfl c_36 (fSign_ok S.ok (S.g 0 rfl) (by omega))),
   fun a w G S=>.of rfl (OpR.ldBox S.ok rfl (S.e 1 rfl) (S.box 0 rfl) tS_24),
   fun a w G S=>.of rfl (OpR.call1 rfl c_36 (fSign_ok S.ok (S.g 0 rfl) (by omega))),
   fun a w G S=>.of rfl (OpR.imul S.ok rfl (S.e 0 rfl) (S.e 1 rfl) (iw_i64 rfl (sg_mul_bd _ _))),
   fun a w G S=>.of rfl (OpR.asn S.ok rfl (S.g 0 rfl)),
   fun a w G S=>.of rfl (OpR.asn S.ok rfl (S.g 0 rfl)),trivial⟩ fun β a w G S=>?_
 replace S : St W0 G0 38 [(8,IT (y.num.sign * d.num.sign)),(7,IT x.num.sign),(6,NT 0),(5,PB b5),(4,PB b4),(3,PB b3)] [⟨b5,24,some 3,QV k d⟩,⟨b4,24,some 3,QV m y⟩,⟨b3,24,some 3,QV n x⟩] a _ _:=S.keep [0,1,9,10,11,12]
 refine wn hK ?_;clear hK K
 refine wp_seq_k fun K hK=>?_
 refine wp_reg fun K hK=>?_
 refine S.m rfl (S.g 1 rfl) rfl fun a w G S=>?_
 refine S.s (OpR.zeql S.ok rfl (S.e 0 rfl) (rfl : _ = nv .i64 0) MT.self) rfl fun a w G S=>?_
 refine S.m rfl (S.g 0 rfl) rfl fun a w G S=>?_
 rcases Bool.eq_false_or_eq_true (decide (x.num.sign = 0)) with hc1 | hc1
 ·
  have hp2:=of_decide_eq_true hc1
  replace S:=S.boolIs 0 rfl hc1
  refine S.skipG 0 rfl rfl rfl rfl rfl rfl fun a w G S=>?_
  refine S.skipG 1 rfl rfl rfl rfl rfl rfl fun a w G S=>?_
  refine S.skipG 2 rfl rfl rfl rfl rfl rfl fun a w G S=>?_
  refine S.s (τ:=BT true) (OpR.pick S.ok rfl (S.e 3 rfl) rfl) rfl fun a w G S=>?_
  refine wn hK ?_;clear hK K
  replace S:=S.d7.d6.d5.d4.d3.d2.d1
  refine wp_cond_true (S.e 0 rfl) ?_
  refine wp_reg fun K hK=>?_
  refine S.m rfl (S.g 1 rfl) rfl fun a w G S=>?_
  replace S:=S.d4
  refine S.q rfl (S.g 0 rfl) rfl fun a w G S=>?_
  refine wn hK ?_;clear hK K
  replace S:=S.d1
  exact wp_ret (then_ret (S.retTmp rfl ((S.e 0 rfl).trans (iv_eq (by unfold mixedF;first | rw [if_pos (by omega)] | rw [if_neg (by omega),if_pos (by omega)] | rw [if_neg (by omega),if_neg (by omega)])))))
 ·
  have hp3:=of_decide_eq_false hc1
  replace S:=S.boolIs 0 rfl hc1
  refine S.stepG 0 (OpR.mv S.ok rfl (S.g 5 rfl)) rfl rfl rfl rfl rfl rfl fun a w G S=>?_
  refine S.stepG 1 (OpR.mv S.ok rfl (S.g 5 rfl)) rfl rfl rfl rfl rfl rfl fun a w G S=>?_
  refine S.stepG 2 (OpR.zeql S.ok rfl (S.e 1 rfl) (S.e 0 rfl) MT.self) rfl rfl rfl rfl rfl rfl fun a w G S=>?_
  refine S.s (τ:=BT (decide (x.num.sign = (y.num.sign * d.num.sign)))) (OpR.pick S.ok rfl (S.e 3 rfl) (S.g 0 rfl)) rfl fun a w G S=>?_
  refine wn hK ?_;clear hK K
  replace S:=S.d7.d6.d5.d4.d3.d2.d1
  refine S.cond 0 rfl (fun hc4=>?_) (fun hc4=>?_)
  ·
   have hp5:=of_decide_eq_true hc4
   refine wp_reg fun K hK=>?_
   refine S.m rfl (S.g 1 rfl) rfl fun a w G S=>?_
   replace S:=S.d4
   refine S.q rfl (S.g 0 rfl) rfl fun a w G S=>?_
   refine wn hK ?_;clear hK K
   replace S:=S.d1
   exact wp_ret (then_ret (S.retTmp rfl ((S.e 0 rfl).trans (iv_eq (by unfold mixedF;first | rw [if_pos (by omega)] | rw [if_neg (by omega),if_pos (by omega)] | rw [if_neg (by omega),if_neg (by omega)])))))
  ·
   have hp6:=of_decide_eq_false hc4
   refine wp_skip ?_
   refine hK _ _ ?_;clear hK K
   refine wp_seq_k fun K hK=>?_
   refine wp_reg fun K hK=>?_
   refine S.m rfl (S.g 1 rfl) rfl fun a w G S=>?_
   refine S.s (OpR.zeql S.ok rfl (S.e 0 rfl) (rfl : _ = nv .i64 0) MT.self) rfl fun a w G S=>?_
   refine wn hK ?_;clear hK K
   replace S:=S.d1
   refine S.cond 0 rfl (fun hc7=>?_) (fun hc7=>?_)
   ·
    have hp8:=of_decide_eq_true hc7
    refine wp_reg fun K hK=>?_
    refine S.m rfl (S.g 3 rfl) rfl fun a w G S=>?_
    replace S:=S.d5
    refine S.q rfl (S.g 0 rfl) rfl fun a w G S=>?_
    refine wn hK ?_;clear hK K
    replace S:=S.d1
    exact wp_ret (then_ret (S.retTmp rfl ((S.e 0 rfl).trans (iv_eq (by unfold mixedF;first | rw [if_pos (by omega)] | rw [if_neg (by omega),if_pos (by omega)] | rw [if_neg (by omega),if_neg (by omega)])))))
   ·
    have hp9:=of_decide_eq_false hc7
    refine wp_skip ?_
    refine hK _ _ ?_;clear hK K
    refine wp_seq_k fun K hK=>?_
    replace S:=S.d4
    refine S.drawn [⟨27,.g (IT x.num.sign),[]⟩,⟨28,.g (QV n x),[]⟩,⟨29,.g (QV n x),[]⟩,⟨30,.g (QC (n + n) (x * x)),[1,2]⟩,⟨31,.g (QV m y),[]⟩,⟨32,.g (QV m y),[]⟩,⟨33,.g (QC (m + m) (y * y)),[4,5]⟩,⟨34,.g (QV k d),[]⟩,⟨35,.g (QC ((m + m) + k) ((y * y) * d)),[6,7]⟩,⟨36,.g (IT (cmpQ (x * x) ((y * y) * d))),[3,8]⟩,⟨37,.g (IT (x.num.sign * cmpQ (x * x) (y * y * d))),[0,9]⟩,⟨6,.g (IT (x.num.sign * cmpQ (x * x) (y * y * d))),[10]⟩] mixedOrders (by kernel_rfl)
     ⟨fun a w G S=>.of rfl (OpR.mv S.ok rfl (S.g 3 rfl)),
      fun a w G S=>.of rfl (OpR.ldBox S.ok rfl (S.e 6 rfl) (S.box 2 rfl) tS_24),
      fun a w G S=>.of rfl (OpR.ldBox S.ok rfl (S.e 6 rfl) (S.box 2 rfl) tS_24),
      fun a w G S=>.of rfl (OpR.call2 rfl c_67 (fMul_ok S.ok (S.g 0 rfl) (S.g 1 rfl) (by omega))),
      fun a w G S=>.of rfl (OpR.ldBox S.ok rfl (S.e 5 rfl) (S.box 1 rfl) tS_24),
      fun a w G S=>.of rfl (OpR.ldBox S.ok rfl (S.e 5 rfl) (S.box 1 rfl) tS_24),
      fun a w G S=>.of rfl (OpR.call2 rfl c_67 (fMul_ok S.ok (S.g 0 rfl) (S.g 1 rfl) (by omega))),
      fun a w G S=>.of rfl (OpR.ldBox S.ok rfl (S.e 4 rfl) (S.box 0 rfl) tS_24),
      fun a w G S=>.of rfl (OpR.call2 rfl c_67 (fMul_ok S.ok (QC.toQV (S.g 0 rfl)) (S.g 1 rfl) (by omega))),
      fun a w G S=>.of rfl (OpR.call2 rfl c_48 (fCmp_ok S.ok (QC.toQV (S.g 0 rfl)) (QC.toQV (S.g 1 rfl)) (by omega))),
      fun a w G S=>.of rfl (OpR.imul S.ok rfl (S.e 0 rfl) (S.e 1 rfl) (iw_i64 rfl (sg_cmp_bd _ _ _))),
      fun a w G S=>.of rfl (OpR.asn S.ok rfl (S.g 0 rfl)),trivial⟩ fun β a w G S=>?_
    replace S : St W0 G0 38 [(6,IT (x.num.sign * cmpQ (x * x) (y * y * d))),(25,BT (decide ((y.num.sign * d.num.sign) = 0))),(22,BT (decide (x.num.sign = (y.num.sign * d.num.sign)))),(8,IT (y.num.sign * d.num.sign)),(7,IT x.num.sign),(5,PB b5),(4,PB b4),(3,PB b3)] [⟨b5,24,some 3,QV k d⟩,⟨b4,24,some 3,QV m y⟩,⟨b3,24,some 3,QV n x⟩] a _ _:=S.keep [0,12,13,14,15,16,17,18]
    refine wn hK ?_;clear hK K
    exact wp_ret (S.retTmp rfl ((S.e 0 rfl).trans (iv_eq (by unfold mixedF;first | rw [if_pos (by omega)] | rw [if_neg (by omega),if_pos (by omega)] | rw [if_neg (by omega),if_neg (by omega)]))))
theorem xroots_ok {n m k : Nat} {x d f : Rat} {v1 v2 v3 : Value} {W0 : World} {G0 : Gh} (hok : Gok W0 G0) (h1 : (QV n x).t v1 G0) (h2 : (QV m d).t v2 G0) (h3 : (QV k f).t v3 G0) (hn : 8 * n + 8 * m + 8 * k + 1000 ≤ BIG) : Calls Tryz.prog 71 #[v1,v2,v3] W0 (Ret W0 G0 (IT (rootsF x d f))):=by
 refine St.enter (N:=36) (L:=[(2,QV k f),(1,QV m d),(0,QV n x)]) (args:=[v1,v2,v3]) Tryz.func71 rfl rfl rfl hok (enter3 h1 h2 h3) fun a S=>?_
 refine wp_reg fun K hK=>?_
 refine S.boxop (x:=.tmp 0) (τ:=QV n x) (S.g 2 rfl) (sh (τ:=QV n x) (S.g 2 rfl)) rfl rfl rfl rfl rfl fun b3 a w G S=>?_
 refine S.boxop (x:=.tmp 1) (τ:=QV m d) (S.g 2 rfl) (sh (τ:=QV m d) (S.g 2 rfl)) rfl rfl rfl rfl rfl fun b4 a w G S=>?_
 refine S.boxop (x:=.tmp 2) (τ:=QV k f) (S.g 2 rfl) (sh (τ:=QV k f) (S.g 2 rfl)) rfl rfl rfl rfl rfl fun b5 a w G S=>?_
 refine S.s (τ:=NT 0) (OpR.asn S.ok rfl (rfl : _ = nv .i64 0)) rfl fun a w G S=>?_
 refine wn hK ?_;clear hK K
 replace S:=S.d6.d5.d4
 refine wp_reg fun K hK=>?_
 refine S.s (τ:=QC 64 2) (OpR.conv' (OpR.call1 rfl c_65 (fOf_ok S.ok ((rfl : _ = nv .i64 2).trans (iv_eq (by first | rfl | omega | (simp only [Nat.zero_add,Nat.add_zero];done) | (simp;done) | (push_cast;omega)))) (by omega))) fun _ _ h=>(QC.eq h (by rfl))) rfl fun a w G S=>?_
 refine S.alloc rfl rfl rfl z_24 zs_24 rfl rfl fun b7 a w G S=>?_
 refine S.store (τ:=QC 64 2) 0 rfl rfl rfl rfl (S.e 0 rfl) tS_24 (S.g 1 rfl) (sh (τ:=QC 64 2) (S.g 1 rfl)) fun w S=>?_
 replace S:=S.n0
 refine wn hK ?_;clear hK K
 replace S:=S.d1
 refine wp_reg fun K hK=>?_
 refine S.s (OpR.ldBox S.ok rfl (S.e 4 rfl) (S.box 3 rfl) tS_24) rfl fun a w G S=>?_
 refine S.s (OpR.ldBox S.ok rfl (S.e 1 rfl) (S.box 0 rfl) tS_24) rfl fun a w G S=>?_
 refine S.s (OpR.ldBox S.ok rfl (S.e 5 rfl) (S.box 2 rfl) tS_24) rfl fun a w G S=>?_
 refine S.s (τ:=IT (mixedF x 2 d)) (OpR.call3 rfl c_66 (xmixed_ok S.ok (S.g 2 rfl) (QC.toQV (S.g 1 rfl)) (S.g 0 rfl) (by omega))) rfl fun a w G S=>?_
 refine S.q rfl (S.g 0 rfl) rfl fun a w G S=>?_
 refine wn hK ?_;clear hK K
 replace S:=S.d4.d3.d2.d1
 refine wp_seq_k fun K hK=>?_
 refine wp_reg fun K hK=>?_
 refine S.m rfl (S.g 0 rfl) rfl fun a w G S=>?_
 refine S.s (OpR.ilss S.ok rfl (S.e 0 rfl) (rfl : _ = nv .i64 0) MT.self) rfl fun a w G S=>?_
 refine wn hK ?_;clear hK K
 replace S:=S.d2.d1
 refine S.cond 0 rfl (fun hc1=>?_) (fun hc1=>?_)
 ·
  have hp2:=of_decide_eq_true hc1
  refine wp_reg fun K hK=>?_
  replace S:=S.d2
  refine S.s (τ:=IT (-1)) (OpR.asn S.ok rfl (rfl : _ = Value.int .i64 (-1))) rfl fun a w G S=>?_
  refine wn hK ?_;clear hK K
  exact wp_ret (then_ret (S.retTmp rfl ((S.e 0 rfl).trans (iv_eq (if_pos ‹_›).symm))))
 ·
  have hp3:=of_decide_eq_false hc1
  refine wp_skip ?_
  refine hK _ _ ?_;clear hK K
  refine wp_reg fun K hK=>?_
  refine S.s (τ:=QC 64 4) (OpR.conv' (OpR.call1 rfl c_65 (fOf_ok S.ok ((rfl : _ = nv .i64 4).trans (iv_eq (by first | rfl | omega | (simp only [Nat.zero_add,Nat.add_zero];done) | (simp;done) | (push_cast;omega)))) (by omega))) fun _ _ h=>(QC.eq h (by rfl))) rfl fun a w G S=>?_
  refine S.alloc rfl rfl rfl z_24 zs_24 rfl rfl fun b9 a w G S=>?_
  refine S.store (τ:=QC 64 4) 0 rfl rfl rfl rfl (S.e 0 rfl) tS_24 (S.g 1 rfl) (sh (τ:=QC 64 4) (S.g 1 rfl)) fun w S=>?_
  replace S:=S.n0
  refine wn hK ?_;clear hK K
  replace S:=S.d1
  refine wp_seq_k fun K hK=>?_
  refine S.drawn [⟨19,.g (QV n x),[]⟩,⟨20,.g (QV n x),[]⟩,⟨21,.g (QC (n + n) (x * x)),[0,1]⟩,⟨22,.g (QC 64 4),[]⟩,⟨23,.g (QV m d),[]⟩,⟨24,.g (QC (64 + m) (4 * d)),[3,4]⟩,⟨25,.g (QC ((n + n) + (64 + m) + 1) ((x * x) + (4 * d))),[2,5]⟩,⟨26,.g (QC 64 4),[]⟩,⟨27,.g (QV k f),[]⟩,⟨28,.g (QC (64 + k) (4 * f)),[7,8]⟩,⟨29,.g (QC (((n + n) + (64 + m) + 1) + (64 + k) + 1) (((x * x) + (4 * d)) - (4 * f))),[6,9]⟩,⟨10,.al mkP 24 (some 3) (MT.ex (.agg #[.bool false,.slice none 0 0,.slice none 0 0])),[]⟩] mixedOrders (by kernel_rfl)
   ⟨fun a w G S=>.of rfl (OpR.ldBox S.ok rfl (S.e 6 rfl) (S.box 4 rfl) tS_24),
    fun a w G S=>.of rfl (OpR.ldBox S.ok rfl (S.e 6 rfl) (S.box 4 rfl) tS_24),
    fun a w G S=>.of rfl (OpR.call2 rfl c_67 (fMul_ok S.ok (S.g 0 rfl) (S.g 1 rfl) (by omega))),
    fun a w G S=>.of rfl (OpR.ldBox S.ok rfl (S.e 0 rfl) (S.box 0 rfl) tS_24),
    fun a w G S=>.of rfl (OpR.ldBox S.ok rfl (S.e 5 rfl) (S.box 3 rfl) tS_24),
    fun a w G S=>.of rfl (OpR.call2 rfl c_67 (fMul_ok S.ok (QC.toQV (S.g 0 rfl)) (S.g 1 rfl) (by omega))),
    fun a w G S=>.of rfl (OpR.call2 rfl c_42 (fAdd_ok S.ok (QC.toQV (S.g 0 rfl)) (QC.toQV (S.g 1 rfl)) (by omega))),
    fun a w G S=>.of rfl (OpR.ldBox S.ok rfl (S.e 0 rfl) (S.box 0 rfl) tS_24),
    fun a w G S=>.of rfl (OpR.ldBox S.ok rfl (S.e 4 rfl) (S.box 2 rfl) tS_24),
    fun a w G S=>.of rfl (OpR.call2 rfl c_67 (fMul_ok S.ok (QC.toQV (S.g 0 rfl)) (S.g 1 rfl) (by omega))),
    fun a w G S=>.of rfl (OpR.call2 rfl c_64 (fSub_ok S.ok (QC.toQV (S.g 0 rfl)) (QC.toQV (S.g 1 rfl)) (by omega))),
    ⟨fun _=>rfl,rfl,fun a w G S=>OpB.alloc S.ok rfl z_24 zs_24⟩,trivial⟩ fun β a w G S=>?_
  replace S : St W0 G0 36 [(10,PB (β 11)),(29,QC (((n + n) + (64 + m) + 1) + (64 + k) + 1) (((x * x) + (4 * d)) - (4 * f))),(9,PB b9),(17,BT (decide ((mixedF x 2 d) < 0))),(7,PB b7),(6,NT 0),(4,PB b4),(3,PB b3)] [⟨(β 11),24,some 3,MT.ex ((.agg #[.bool false,.slice none 0 0,.slice none 0 0] : Value))⟩,⟨b9,24,some 3,QC 64 4⟩,⟨b7,24,some 3,QC 64 2⟩,⟨b5,24,some 3,QV k f⟩,⟨b4,24,some 3,QV m d⟩,⟨b3,24,some 3,QV n x⟩] a _ _:=S.keep [0,1,12,13,14,15,17,18]
  generalize β 11 = b10 at S
  refine S.store (τ:=QC (((n + n) + (64 + m) + 1) + (64 + k) + 1) (((x * x) + (4 * d)) - (4 * f))) 0 rfl rfl rfl rfl (S.e 0 rfl) tS_24 (S.g 1 rfl) (sh (τ:=QC (((n + n) + (64 + m) + 1) + (64 + k) + 1) (((x * x) + (4 * d)) - (4 * f))) (S.g 1 rfl)) fun w S=>?_
  replace S:=S.n0
  refine wn hK ?_;clear hK K
  replace S:=S.d1
  refine wp_seq_k fun K hK=>?_
  replace S:=S.d4
  refine S.drawn [⟨30,.g (QC (((n + n) + (64 + m) + 1) + (64 + k) + 1) (((x * x) + (4 * d)) - (4 * f))),[]⟩,⟨31,.g (QC 64 4),[]⟩,⟨32,.g (QV n x),[]⟩,⟨33,.g (QC (64 + n) (4 * x)),[1,2]⟩,⟨34,.g (QV m d),[]⟩,⟨35,.g (IT (mixedF (((x * x) + (4 * d)) - (4 * f)) (4 * x) d)),[0,3,4]⟩,⟨6,.g (IT (mixedF (((x * x) + (4 * d)) - (4 * f)) (4 * x) d)),[5]⟩] mixedOrders (by kernel_rfl)
   ⟨fun a w G S=>.of rfl (OpR.ldBox S.ok rfl (S.e 0 rfl) (S.box 0 rfl) tS_24),
    fun a w G S=>.of rfl (OpR.ldBox S.ok rfl (S.e 1 rfl) (S.box 1 rfl) tS_24),
    fun a w G S=>.of rfl (OpR.ldBox S.ok rfl (S.e 5 rfl) (S.box 5 rfl) tS_24),
    fun a w G S=>.of rfl (OpR.call2 rfl c_67 (fMul_ok S.ok (QC.toQV (S.g 0 rfl)) (S.g 1 rfl) (by omega))),
    fun a w G S=>.of rfl (OpR.ldBox S.ok rfl (S.e 4 rfl) (S.box 4 rfl) tS_24),
    fun a w G S=>.of rfl (OpR.call3 rfl c_66 (xmixed_ok S.ok (QC.toQV (S.g 0 rfl)) (QC.toQV (S.g 1 rfl)) (S.g 2 rfl) (by omega))),
    fun a w G S=>.of rfl (OpR.asn S.ok rfl (S.g 0 rfl)),trivial⟩ fun β a w G S=>?_
  replace S : St W0 G0 36 [(6,IT (mixedF (((x * x) + (4 * d)) - (4 * f)) (4 * x) d)),(10,PB b10),(9,PB b9),(17,BT (decide ((mixedF x 2 d) < 0))),(7,PB b7),(4,PB b4),(3,PB b3)] [⟨b10,24,some 3,QC (((n + n) + (64 + m) + 1) + (64 + k) + 1) (((x * x) + (4 * d)) - (4 * f))⟩,⟨b9,24,some 3,QC 64 4⟩,⟨b7,24,some 3,QC 64 2⟩,⟨b5,24,some 3,QV k f⟩,⟨b4,24,some 3,QV m d⟩,⟨b3,24,some 3,QV n x⟩] a _ _:=S.keep [0,7,8,9,10,11,12]
  refine wn hK ?_;clear hK K
  exact wp_ret (S.retTmp rfl ((S.e 0 rfl).trans (iv_eq (if_neg ‹_›).symm)))
theorem xsquare_ok {n : Nat} {xs : List Rat} {v1 : Value} {W0 : World} {G0 : Gh} (hok : Gok W0 G0) (h1 : (LS (some 3) ((xs).map (QV n))).t v1 G0) (hl : 2 ≤ xs.length) (hn : n + n + 1 ≤ BIG) : Calls Tryz.prog 69 #[v1] W0 (Ret W0 G0 (MT.tup2 (QC (n + n + 1) (xs.getD 0 default + xs.getD 1 default)) (QC (n + n) (xs.getD 0 default * xs.getD 1 default)))):=by
 refine St.enter (N:=18) (L:=[(0,LS (some 3) ((xs).map (QV n)))]) (args:=[v1]) Tryz.func69 rfl rfl rfl hok (enter1 h1) fun a S=>?_
 refine wp_reg fun K hK=>?_
 refine S.alloc rfl rfl rfl z_24 zs_24 rfl rfl fun b2 a w G S=>?_
 refine S.alloc rfl rfl rfl z_24 zs_24 rfl rfl fun b3 a w G S=>?_
 refine wn hK ?_;clear hK K
 refine wp_seq_k fun K hK=>?_
 refine S.drawn [⟨4,.g (LS (some 3) ((xs).map (QV n))),[]⟩,⟨5,.g (PE (some 3) (QV n (xs.getD 0 default))),[0]⟩,⟨6,.g (QV n (xs.getD 0 default)),[1]⟩,⟨7,.g (LS (some 3) ((xs).map (QV n))),[]⟩,⟨8,.g (PE (some 3) (QV n (xs.getD 1 default))),[3]⟩,⟨9,.g (QV n (xs.getD 1 default)),[4]⟩,⟨10,.g (QC (n + n + 1) ((xs.getD 0 default) + (xs.getD 1 default))),[2,5]⟩,⟨11,.g (LS (some 3) ((xs).map (QV n))),[]⟩,⟨12,.g (PE (some 3) (QV n (xs.getD 0 default))),[7]⟩,⟨13,.g (QV n (xs.getD 0 default)),[8]⟩,⟨14,.g (LS (some 3) ((xs).map (QV n))),[]⟩,⟨15,.g (PE (some 3) (QV n (xs.getD 1 default))),[10]⟩,⟨16,.g (QV n (xs.getD 1 default)),[11]⟩,⟨17,.g (QC (n + n) ((xs.getD 0 default) * (xs.getD 1 default))),[9,12]⟩] mixedOrders (by kernel_rfl)
  ⟨fun a w G S=>.of rfl (OpR.mv S.ok rfl (S.g 2 rfl)),
   fun a w G S=>.of rfl (OpR.ixM (T:=(QV n)) (xs:=xs) (i:=0) S.ok rfl Tryz.underlying48 tS_24 (S.g 0 rfl) (rfl : _ = nv .i64 0) rfl (by first | omega | (simp;omega))),
   fun a w G S=>.of rfl (OpR.ldE S.ok rfl tS_24 (S.g 0 rfl)),
   fun a w G S=>.of rfl (OpR.mv S.ok rfl (S.g 2 rfl)),
   fun a w G S=>.of rfl (OpR.ixM (T:=(QV n)) (xs:=xs) (i:=1) S.ok rfl Tryz.underlying48 tS_24 (S.g 0 rfl) (rfl : _ = nv .i64 1) rfl (by first | omega | (simp;omega))),
   fun a w G S=>.of rfl (OpR.ldE S.ok rfl tS_24 (S.g 0 rfl)),
   fun a w G S=>.of rfl (OpR.call2 rfl c_42 (fAdd_ok S.ok (S.g 0 rfl) (S.g 1 rfl) (by omega))),
   fun a w G S=>.of rfl (OpR.mv S.ok rfl (S.g 2 rfl)),
   fun a w G S=>.of rfl (OpR.ixM (T:=(QV n)) (xs:=xs) (i:=0) S.ok rfl Tryz.underlying48 tS_24 (S.g 0 rfl) (rfl : _ = nv .i64 0) rfl (by first | omega | (simp;omega))),
   fun a w G S=>.of rfl (OpR.ldE S.ok rfl tS_24 (S.g 0 rfl)),
   fun a w G S=>.of rfl (OpR.mv S.ok rfl (S.g 2 rfl)),
   fun a w G S=>.of rfl (OpR.ixM (T:=(QV n)) (xs:=xs) (i:=1) S.ok rfl Tryz.underlying48 tS_24 (S.g 0 rfl) (rfl : _ = nv .i64 1) rfl (by first | omega | (simp;omega))),
   fun a w G S=>.of rfl (OpR.ldE S.ok rfl tS_24 (S.g 0 rfl)),
   fun a w G S=>.of rfl (OpR.call2 rfl c_67 (fMul_ok S.ok (S.g 0 rfl) (S.g 1 rfl) (by omega))),trivial⟩ fun β a w G S=>?_
 replace S : St W0 G0 18 [(17,QC (n + n) ((xs.getD 0 default) * (xs.getD 1 default))),(10,QC (n + n + 1) ((xs.getD 0 default) + (xs.getD 1 default))),(3,PB b3),(2,PB b2)] [⟨b3,24,some 3,MT.ex ((.agg #[.bool false,.slice none 0 0,.slice none 0 0] : Value))⟩,⟨b2,24,some 3,MT.ex ((.agg #[.bool false,.slice none 0 0,.slice none 0 0] : Value))⟩] a _ _:=S.keep [0,7,14,15]
 refine S.store (τ:=QC (n + n + 1) ((xs.getD 0 default) + (xs.getD 1 default))) 1 rfl rfl rfl rfl (S.e 3 rfl) tS_24 (S.g 1 rfl) (sh (τ:=QC (n + n + 1) ((xs.getD 0 default) + (xs.getD 1 default))) (S.g 1 rfl)) fun w S=>?_
 replace S:=S.n1
 refine S.store (τ:=QC (n + n) ((xs.getD 0 default) * (xs.getD 1 default))) 0 rfl rfl rfl rfl (S.e 2 rfl) tS_24 (S.g 0 rfl) (sh (τ:=QC (n + n) ((xs.getD 0 default) * (xs.getD 1 default))) (S.g 0 rfl)) fun w S=>?_
 replace S:=S.n0
 refine wn hK ?_;clear hK K
 replace S:=S.d1.d0
 exact wp_ret (S.retCell2 (i:=1) (i2:=0) rfl (S.e 1 rfl) rfl tS_24 (S.e 0 rfl) rfl tS_24 (fun _ h=>(QC.eq h (by first | rfl | omega | (simp only [Nat.zero_add,Nat.add_zero];done) | (simp;done) | (push_cast;omega)))) (fun _ h=>(QC.eq h (by first | rfl | omega | (simp only [Nat.zero_add,Nat.add_zero];done) | (simp;done) | (push_cast;omega)))))
theorem xpair_ok {n : Nat} {xs : List Rat} {v1 : Value} {W0 : World} {G0 : Gh} (hok : Gok W0 G0) (h1 : (LS (some 3) ((xs).map (QV n))).t v1 G0) (hn : 1 ≤ n) : Calls Tryz.prog 70 #[v1] W0 (Ret W0 G0 (LS (some 3) ((pairF xs).map (QV n)))):=by
 refine St.enter (N:=11) (L:=[(0,LS (some 3) ((xs).map (QV n)))]) (args:=[v1]) Tryz.func70 rfl rfl rfl hok (enter1 h1) fun a S=>?_
 refine wp_reg fun K hK=>?_
 refine S.s (τ:=MT.ex (Value.slice none 0 0)) (OpR.asn S.ok rfl rfl) rfl fun a w G S=>?_
 refine wn hK ?_;clear hK K
 refine wp_reg fun K hK=>?_
 refine S.s (τ:=QR false ([]) ([])) (OpR.bQ0 S.ok rfl bt_24_) rfl fun a w G S=>?_
 refine S.s (τ:=QR false ([]) ([])) (OpR.bQ0 S.ok rfl bt_24_) rfl fun a w G S=>?_
 refine S.buildO (k:=some 3) (τs:=[0,0].map (QV n)) (us:=[a.eval (.tmp 4),a.eval (.tmp 5)]) rfl rfl rfl Tryz.underlying48 el_24 rfl (by decide) (by decide) (by simp [Act.eval]) rfl (Els.cons (sh (τ:=QV n 0) (QR.zQV (n:=n) (S.g 1 rfl) (by omega))) (QR.zQV (n:=n) (S.g 1 rfl) (by omega)) (Els.cons (sh (τ:=QV n 0) (QR.zQV (n:=n) (S.g 0 rfl) (by omega))) (QR.zQV (n:=n) (S.g 0 rfl) (by omega)) Els.nil)) rfl rfl fun b6 a w G S=>?_
 refine S.q rfl (S.g 0 rfl) rfl fun a w G S=>?_
 refine wn hK ?_;clear hK K
 replace S:=S.d3.d2.d1
 refine wp_reg fun K hK=>?_
 refine S.m rfl (S.g 0 rfl) rfl fun a w G S=>?_
 refine S.m rfl (S.g 3 rfl) rfl fun a w G S=>?_
 refine S.copySM (k:=some 3) (T:=(QV n)) (ys:=xs) 0 rfl rfl rfl Tryz.underlying48 el_24 rfl (S.e 1 rfl) (by simp) (S.g 0 rfl) rfl rfl fun a w G S=>?_
 refine wn hK ?_;clear hK K
 replace S : St W0 G0 11 [(3,MT.ex (Value.slice (some ⟨b6,0,none⟩) (2) (2))),(2,MT.ex (Value.slice none 0 0))] [⟨b6,24,some (2 * (some 3 : Option Nat).getD 1),ROWS (some 3) ((xs.take (2) ++ ([0,0]).drop xs.length).map (QV n))⟩] a _ _:=S.keep [3,4]
 refine wp_reg fun K hK=>?_
 obtain ⟨vz1,Gz1,hz1,hs1,hg1,hle1,S⟩:=S.freeze 0 rfl
 have hsl1:=ROWS.slM hz1 hg1 (by simp;omega) (Nat.le_refl _) (by decide) (rfl : _ = Value.slice (some ⟨b6,0,none⟩) (2) (2))
 replace S:=S.also (t:=3) (τ:=LS (some 3) ((xs.take (2) ++ ([0,0]).drop xs.length).map (QV n))) ((S.e 0 rfl).symm ▸ hsl1)
 replace S : St W0 G0 11 [(3,LS (some 3) ((xs.take (2) ++ ([0,0]).drop xs.length).map (QV n))),(2,MT.ex (Value.slice none 0 0))] [] a _ _:=S.keep [0,2]
 refine S.m rfl (S.g 0 rfl) rfl fun a w G S=>?_
 replace S:=S.d2
 refine S.q rfl (S.g 0 rfl) rfl fun a w G S=>?_
 refine wn hK ?_;clear hK K
 replace S:=S.d1
 exact wp_ret (S.retTmp rfl (LS.eqM (S.g 0 rfl) rfl))
theorem xcompare_ok {n m : Nat} {xs ys : List Rat} {v1 v2 : Value} {W0 : World} {G0 : Gh} (hok : Gok W0 G0) (h1 : (LS (some 3) ((xs).map (QV n))).t v1 G0) (h2 : (LS (some 3) ((ys).map (QV m))).t v2 G0) (hn1 : 1 ≤ n) (hm1 : 1 ≤ m) (hl : 100 * n + 100 * m + 1000 ≤ BIG) : Calls Tryz.prog 41 #[v1,v2] W0 (Ret W0 G0 (IT (compareF xs ys))):=by
 refine St.enter (N:=27) (L:=[(1,LS (some 3) ((ys).map (QV m))),(0,LS (some 3) ((xs).map (QV n)))]) (args:=[v1,v2]) Tryz.func41 rfl rfl rfl hok (enter2 h1 h2) fun a S=>?_
 refine wp_reg fun K hK=>?_
 refine S.s (τ:=NT 0) (OpR.asn S.ok rfl (rfl : _ = nv .i64 0)) rfl fun a w G S=>?_
 refine wn hK ?_;clear hK K
 refine wp_reg fun K hK=>?_
 refine S.m rfl (S.g 2 rfl) rfl fun a w G S=>?_
 refine S.s (τ:=LS (some 3) ((pairF xs).map (QV n))) (OpR.call1 rfl c_70 (xpair_ok S.ok (S.g 0 rfl) (by omega))) rfl fun a w G S=>?_
 refine S.s (τ:=MT.tup2 (QC (n + n + 1) ((pairF xs).getD 0 default + (pairF xs).getD 1 default)) (QC (n + n) ((pairF xs).getD 0 default * (pairF xs).getD 1 default))) (OpR.call1 rfl c_69 (xsquare_ok S.ok (LS.eqM (S.g 0 rfl) (by first | rfl | omega | (simp only [Nat.zero_add,Nat.add_zero];done) | (simp;done) | (push_cast;omega))) pairF_len (by omega))) rfl fun a w G S=>?_
 refine S.m rfl (S.g 0 rfl) rfl fun a w G S=>?_
 refine S.s (OpR.ext2a S.ok rfl (S.g 0 rfl)) rfl fun a w G S=>?_
 refine S.s (OpR.ext2b S.ok rfl (S.g 1 rfl)) rfl fun a w G S=>?_
 refine S.alloc rfl rfl rfl z_24 zs_24 rfl rfl fun b5 a w G S=>?_
 refine S.alloc rfl rfl rfl z_24 zs_24 rfl rfl fun b6 a w G S=>?_
 refine S.store (τ:=QC (n + n + 1) ((pairF xs).getD 0 default + (pairF xs).getD 1 default)) 1 rfl rfl rfl rfl (S.e 1 rfl) tS_24 (S.g 3 rfl) (sh (τ:=QC (n + n + 1) ((pairF xs).getD 0 default + (pairF xs).getD 1 default)) (S.g 3 rfl)) fun w S=>?_
 replace S:=S.n1
 refine S.store (τ:=QC (n + n) ((pairF xs).getD 0 default * (pairF xs).getD 1 default)) 0 rfl rfl rfl rfl (S.e 0 rfl) tS_24 (S.g 2 rfl) (sh (τ:=QC (n + n) ((pairF xs).getD 0 default * (pairF xs).getD 1 default)) (S.g 2 rfl)) fun w S=>?_
 replace S:=S.n0
 refine wn hK ?_;clear hK K
 replace S:=S.d10.d7.d6.d5.d4.d3.d2
 refine wp_reg fun K hK=>?_
 refine S.m rfl (S.g 3 rfl) rfl fun a w G S=>?_
 refine S.s (τ:=LS (some 3) ((pairF ys).map (QV m))) (OpR.call1 rfl c_70 (xpair_ok S.ok (S.g 0 rfl) (by omega))) rfl fun a w G S=>?_
 refine S.s (τ:=MT.tup2 (QC (m + m + 1) ((pairF ys).getD 0 default + (pairF ys).getD 1 default)) (QC (m + m) ((pairF ys).getD 0 default * (pairF ys).getD 1 default))) (OpR.call1 rfl c_69 (xsquare_ok S.ok (LS.eqM (S.g 0 rfl) (by first | rfl | omega | (simp only [Nat.zero_add,Nat.add_zero];done) | (simp;done) | (push_cast;omega))) pairF_len (by omega))) rfl fun a w G S=>?_
 refine S.m rfl (S.g 0 rfl) rfl fun a w G S=>?_
 refine S.s (OpR.ext2a S.ok rfl (S.g 0 rfl)) rfl fun a w G S=>?_
 refine S.s (OpR.ext2b S.ok rfl (S.g 1 rfl)) rfl fun a w G S=>?_
 refine S.alloc rfl rfl rfl z_24 zs_24 rfl rfl fun b7 a w G S=>?_
 refine S.alloc rfl rfl rfl z_24 zs_24 rfl rfl fun b8 a w G S=>?_
 refine S.store (τ:=QC (m + m + 1) ((pairF ys).getD 0 default + (pairF ys).getD 1 default)) 1 rfl rfl rfl rfl (S.e 1 rfl) tS_24 (S.g 3 rfl) (sh (τ:=QC (m + m + 1) ((pairF ys).getD 0 default + (pairF ys).getD 1 default)) (S.g 3 rfl)) fun w S=>?_
 replace S:=S.n1
 refine S.store (τ:=QC (m + m) ((pairF ys).getD 0 default * (pairF ys).getD 1 default)) 0 rfl rfl rfl rfl (S.e 0 rfl) tS_24 (S.g 2 rfl) (sh (τ:=QC (m + m) ((pairF ys).getD 0 default * (pairF ys).getD 1 default)) (S.g 2 rfl)) fun w S=>?_
 replace S:=S.n0
 refine wn hK ?_;clear hK K
 replace S:=S.d11.d7.d6.d5.d4.d3.d2
 refine wp_seq_k fun K hK=>?_
 replace S:=S.d4
 refine S.drawn [⟨21,.g (QC (n + n + 1) ((pairF xs).getD 0 default + (pairF xs).getD 1 default)),[]⟩,⟨22,.g (QC (m + m + 1) ((pairF ys).getD 0 default + (pairF ys).getD 1 default)),[]⟩,⟨23,.g (QC ((n + n + 1) + (m + m + 1) + 1) (((pairF xs).getD 0 default + (pairF xs).getD 1 default) - ((pairF ys).getD 0 default + (pairF ys).getD 1 default))),[0,1]⟩,⟨24,.g (QC (n + n) ((pairF xs).getD 0 default * (pairF xs).getD 1 default)),[]⟩,⟨25,.g (QC (m + m) ((pairF ys).getD 0 default * (pairF ys).getD 1 default)),[]⟩,⟨26,.g (IT (rootsF (((pairF xs).getD 0 default + (pairF xs).getD 1 default) - ((pairF ys).getD 0 default + (pairF ys).getD 1 default)) ((pairF xs).getD 0 default * (pairF xs).getD 1 default) ((pairF ys).getD 0 default * (pairF ys).getD 1 default))),[2,3,4]⟩,⟨4,.g (IT (rootsF (((pairF xs).getD 0 default + (pairF xs).getD 1 default) - ((pairF ys).getD 0 default + (pairF ys).getD 1 default)) ((pairF xs).getD 0 default * (pairF xs).getD 1 default) ((pairF ys).getD 0 default * (pairF ys).getD 1 default))),[5]⟩] mixedOrders (by kernel_rfl)
  ⟨fun a w G S=>.of rfl (OpR.ldBox S.ok rfl (S.e 3 rfl) (S.box 3 rfl) tS_24),
   fun a w G S=>.of rfl (OpR.ldBox S.ok rfl (S.e 1 rfl) (S.box 1 rfl) tS_24),
   fun a w G S=>.of rfl (OpR.call2 rfl c_64 (fSub_ok S.ok (QC.toQV (S.g 0 rfl)) (QC.toQV (S.g 1 rfl)) (by omega))),
   fun a w G S=>.of rfl (OpR.ldBox S.ok rfl (S.e 2 rfl) (S.box 2 rfl) tS_24),
   fun a w G S=>.of rfl (OpR.ldBox S.ok rfl (S.e 0 rfl) (S.box 0 rfl) tS_24),
   fun a w G S=>.of rfl (OpR.call3 rfl c_71 (xroots_ok S.ok (QC.toQV (S.g 0 rfl)) (QC.toQV (S.g 1 rfl)) (QC.toQV (S.g 2 rfl)) (by omega))),
   fun a w G S=>.of rfl (OpR.asn S.ok rfl (S.g 0 rfl)),trivial⟩ fun β a w G S=>?_
 replace S : St W0 G0 27 [(4,IT (rootsF (((pairF xs).getD 0 default + (pairF xs).getD 1 default) - ((pairF ys).getD 0 default + (pairF ys).getD 1 default)) ((pairF xs).getD 0 default * (pairF xs).getD 1 default) ((pairF ys).getD 0 default * (pairF ys).getD 1 default))),(8,PB b8),(7,PB b7),(6,PB b6),(5,PB b5)] [⟨b8,24,some 3,QC (m + m) ((pairF ys).getD 0 default * (pairF ys).getD 1 default)⟩,⟨b7,24,some 3,QC (m + m + 1) ((pairF ys).getD 0 default + (pairF ys).getD 1 default)⟩,⟨b6,24,some 3,QC (n + n) ((pairF xs).getD 0 default * (pairF xs).getD 1 default)⟩,⟨b5,24,some 3,QC (n + n + 1) ((pairF xs).getD 0 default + (pairF xs).getD 1 default)⟩] a _ _:=S.keep [0,7,8,9,10]
 refine wn hK ?_;clear hK K
 exact wp_ret (S.retTmp rfl ((S.e 0 rfl).trans (iv_eq (by first | rfl | omega | (simp only [Nat.zero_add,Nat.add_zero];done) | (simp;done) | (push_cast;omega)))))
end Go.Proofs.YtdeihehaheelmaaGreat
namespace Go.Proofs.YtdeihehaheelmaaGreat
set_option maxHeartbeats 1000000
set_option maxRecDepth 100000
open Go.RowKit (Below)
private theorem c_35 : callable Tryz.prog 35 = true:=by kernel_rfl
private theorem c_41 : callable Tryz.prog 41 = true:=by kernel_rfl
private theorem el_48 : elS Tryz.prog 48 1 24 (.slice none 0 0):=by unfold elS;kernel_rfl
private theorem fo_26_0 : fldOff Tryz.prog 26 0 = some 0:=by kernel_rfl
private theorem fo_26_1 : fldOff Tryz.prog 26 1 = some 3:=by kernel_rfl
private theorem fo_26_2 : fldOff Tryz.prog 26 2 = some 6:=by kernel_rfl
private theorem fo_26_3 : fldOff Tryz.prog 26 3 = some 9:=by kernel_rfl
private theorem ni_43 : (match Tryz.prog.underlying 43 with | some (.interface _)=>false | some _=>true | none=>false) = true:=by kernel_rfl
private theorem tS_48 : tyS Tryz.prog 48 (none) = true:=by kernel_rfl
theorem xCompare_ok {n : Nat} {l m2 : List FR} {v1 v2 : Value} {W0 : World} {G0 : Gh} (hok : Gok W0 G0) (h1 : (LS (some 3) ((l).map (FX n))).t v1 G0) (h2 : (LS (some 3) ((m2).map (FX n))).t v2 G0) (hn : 1000 * n + 1000 ≤ BIG) (hn1 : 1 ≤ n) : Calls Tryz.prog 22 #[v1,v2] W0 (Ret W0 G0 (MT.tup2 (IT (cmpRes l m2)) (MT.ex (errV 43 (cmpCode l m2))))):=by
 have hlim1:=LS.lenM h1
 have hlim2:=LS.lenM h2
 simp only [LIM] at hlim1 hlim2
 refine St.enter (N:=47) (L:=[(1,LS (some 3) ((m2).map (FX n))),(0,LS (some 3) ((l).map (FX n)))]) (args:=[v1,v2]) Tryz.func22 rfl rfl rfl hok (enter2 h1 h2) fun a S=>?_
 refine wp_reg fun K hK=>?_
 refine S.s (τ:=NT 0) (OpR.asn S.ok rfl (rfl : _ = nv .i64 0)) rfl fun a w G S=>?_
 refine S.s (τ:=MT.ex (Value.nilIface)) (OpR.asn S.ok rfl rfl) rfl fun a w G S=>?_
 refine wn hK ?_;clear hK K
 refine wp_seq_k fun K hK=>?_
 refine wp_reg fun K hK=>?_
 refine S.m rfl (S.g 3 rfl) rfl fun a w G S=>?_
 refine S.s (OpR.lenM S.ok rfl Tryz.underlying48 (S.g 0 rfl) MT.self) rfl fun a w G S=>?_
 refine S.s (OpR.ngtr S.ok rfl (S.e 0 rfl) (rfl : _ = nv .i64 2) MT.self) rfl fun a w G S=>?_
 refine S.m rfl (S.g 0 rfl) rfl fun a w G S=>?_
 rcases Bool.eq_false_or_eq_true (decide (2 < l.length)) with hc1 | hc1
 ·
  have hp2:=of_decide_eq_true hc1
  replace S:=S.boolIs 0 rfl hc1
  refine S.skipG 0 rfl rfl rfl rfl rfl rfl fun a w G S=>?_
  refine S.skipG 1 rfl rfl rfl rfl rfl rfl fun a w G S=>?_
  refine S.skipG 2 rfl rfl rfl rfl rfl rfl fun a w G S=>?_
  refine S.s (τ:=BT true) (OpR.pick S.ok rfl (S.e 3 rfl) rfl) rfl fun a w G S=>?_
  refine wn hK ?_;clear hK K
  replace S:=S.d8.d7.d6.d5.d4.d3.d2.d1
  refine wp_cond_true (S.e 0 rfl) ?_
  refine wp_reg fun K hK=>?_
  refine S.s (OpR.mkI S.ok rfl ni_43 (rfl : _ = nv .i64 4) MT.self) rfl fun a w G S=>?_
  replace S:=S.d3
  refine S.s (τ:=NT 0) (OpR.asn S.ok rfl (rfl : _ = nv .i64 0)) rfl fun a w G S=>?_
  replace S:=S.d3
  refine S.q rfl (S.g 1 rfl) rfl fun a w G S=>?_
  refine wn hK ?_;clear hK K
  replace S:=S.d2
  exact wp_ret (then_ret (S.retTmp2 rfl ((S.e 1 rfl).trans (iv_eq (by first | (unfold cmpRes;rw [cmpCode4 (by omega)];rfl) | (unfold cmpRes;rw [cmpCode3 (by omega) (two_bad (by omega) (all_not (by omega) (by first | exact goodR_not1 (not_true_of ‹_›) | exact goodR_not2 ‹_›)))];rfl) | (unfold cmpRes;rw [if_pos (cmpCode0 (by omega) (hg 0 (by omega)) (hg 1 (by omega)))])))) ((S.e 0 rfl).trans (by first | exact errV_ne (cmpCode4 (by omega)) (by decide) | exact errV_ne (cmpCode3 (by omega) (two_bad (by omega) (all_not (by omega) (by first | exact goodR_not1 (not_true_of ‹_›) | exact goodR_not2 ‹_›)))) (by decide) | exact errV_z (cmpCode0 (by omega) (hg 0 (by omega)) (hg 1 (by omega)))))))
 ·
  have hp3:=of_decide_eq_false hc1
  replace S:=S.boolIs 0 rfl hc1
  refine S.stepG 0 (OpR.mv S.ok rfl (S.g 7 rfl)) rfl rfl rfl rfl rfl rfl fun a w G S=>?_
  refine S.stepG 1 (OpR.lenM S.ok rfl Tryz.underlying48 (S.g 0 rfl) MT.self) rfl rfl rfl rfl rfl rfl fun a w G S=>?_
  refine S.stepG 2 (OpR.ngtr S.ok rfl (S.e 0 rfl) (rfl : _ = nv .i64 2) MT.self) rfl rfl rfl rfl rfl rfl fun a w G S=>?_
  refine S.s (τ:=BT (decide (2 < m2.length))) (OpR.pick S.ok rfl (S.e 3 rfl) (S.g 0 rfl)) rfl fun a w G S=>?_
  refine wn hK ?_;clear hK K
  replace S:=S.d8.d7.d6.d5.d4.d3.d2.d1
  refine S.cond 0 rfl (fun hc4=>?_) (fun hc4=>?_)
  ·
   have hp5:=of_decide_eq_true hc4
   refine wp_reg fun K hK=>?_
   refine S.s (OpR.mkI S.ok rfl ni_43 (rfl : _ = nv .i64 4) MT.self) rfl fun a w G S=>?_
   replace S:=S.d3
   refine S.s (τ:=NT 0) (OpR.asn S.ok rfl (rfl : _ = nv .i64 0)) rfl fun a w G S=>?_
   replace S:=S.d3
   refine S.q rfl (S.g 1 rfl) rfl fun a w G S=>?_
   refine wn hK ?_;clear hK K
   replace S:=S.d2
   exact wp_ret (then_ret (S.retTmp2 rfl ((S.e 1 rfl).trans (iv_eq (by first | (unfold cmpRes;rw [cmpCode4 (by omega)];rfl) | (unfold cmpRes;rw [cmpCode3 (by omega) (two_bad (by omega) (all_not (by omega) (by first | exact goodR_not1 (not_true_of ‹_›) | exact goodR_not2 ‹_›)))];rfl) | (unfold cmpRes;rw [if_pos (cmpCode0 (by omega) (hg 0 (by omega)) (hg 1 (by omega)))])))) ((S.e 0 rfl).trans (by first | exact errV_ne (cmpCode4 (by omega)) (by decide) | exact errV_ne (cmpCode3 (by omega) (two_bad (by omega) (all_not (by omega) (by first | exact goodR_not1 (not_true_of ‹_›) | exact goodR_not2 ‹_›)))) (by decide) | exact errV_z (cmpCode0 (by omega) (hg 0 (by omega)) (hg 1 (by omega)))))))
  ·
   have hp6:=of_decide_eq_false hc4
   refine wp_skip ?_
   refine hK _ _ ?_;clear hK K
   refine wp_seq_k fun K hK=>?_
   refine wp_reg fun K hK=>?_
   refine S.m rfl (S.g 4 rfl) rfl fun a w G S=>?_
   refine S.m rfl (S.g 4 rfl) rfl fun a w G S=>?_
   refine S.s (τ:=LS (none) (([l,m2]).map (fun (z_ : List (FR))=>LS (some 3) ((z_).map (FX n))))) (OpR.buildS (k:=none) (τs:=[l,m2].map (fun (z_ : List (FR))=>LS (some 3) ((z_).map (FX n)))) (us:=[a.eval (.tmp 19),a.eval (.tmp 20)]) S.ok rfl Tryz.underlying72 el_48 rfl (by decide) (by decide) (by simp [Act.eval]) rfl (Els.cons (sh (τ:=LS (some 3) ((l).map (FX n))) (S.g 1 rfl)) (S.g 1 rfl) (Els.cons (sh (τ:=LS (some 3) ((m2).map (FX n))) (S.g 0 rfl)) (S.g 0 rfl) Els.nil))) rfl fun a w G S=>?_
   refine S.s (τ:=NT 2) (OpR.lenM S.ok rfl Tryz.underlying72 (S.g 0 rfl) rfl) rfl fun a w G S=>?_
   refine S.s (τ:=NT 0) (OpR.mv S.ok rfl (rfl : _ = nv .i64 0)) rfl fun a w G S=>?_
   refine wn hK ?_;clear hK K
   replace S:=S.d4.d3
   refine wp_block ?_
   refine wp_loopJ (fun μ a w=>∃ (k : Nat) (G : Gh),μ = 2 - k ∧ (k ≤ 2) ∧ (∀ i,i < k → ([l,m2].getD i default).all goodR = true) ∧  St W0 G0 47 [(23,NT k),(22,NT 2),(21,LS (none) (([l,m2]).map (fun (z_ : List (FR))=>LS (some 3) ((z_).map (FX n))))),(17,BT (decide (2 < m2.length))),(5,MT.ex (Value.nilIface)),(4,NT 0),(1,LS (some 3) ((m2).map (FX n))),(0,LS (some 3) ((l).map (FX n)))] [] a w G) (2 - 0) ⟨0,_,rfl,(by omega),(fun i h=>absurd h (Nat.not_lt_zero _)),(S.keep [0,1,2,3,4,5,6,7]).keepB [] (by decide)⟩ ?_
   clear S
   intro μ a w ⟨k,G,hm,hk,hg,S⟩
   refine wp_reg fun K hK=>?_
   refine S.s (OpR.nlss S.ok rfl (S.e 0 rfl) (S.e 1 rfl) MT.self) rfl fun a w G S=>?_
   refine wn hK ?_;clear hK K
   refine wp_seq_k fun K hK=>?_
   refine S.cond 0 rfl (fun hc7=>?_) (fun hc7=>?_)
   ·
    have hp8:=of_decide_eq_true hc7
    refine wp_skip ?_
    refine hK _ _ ?_;clear hK K
    refine wp_seq_k fun K hK=>?_
    refine wp_block ?_
    refine wp_reg fun K hK=>?_
    refine S.s (τ:=PE (none) (LS (some 3) ((([l,m2]).getD k default).map (FX n)))) (OpR.ixM (T:=(fun (z_ : List (FR))=>LS (some 3) ((z_).map (FX n)))) (xs:=[l,m2]) (i:=k) S.ok rfl Tryz.underlying72 tS_48 (S.g 3 rfl) (S.e 1 rfl) rfl (by first | omega | (simp;omega))) rfl fun a w G S=>?_
    refine S.s (OpR.ldE S.ok rfl tS_48 (S.g 0 rfl)) rfl fun a w G S=>?_
    refine S.q rfl (S.g 0 rfl) rfl fun a w G S=>?_
    refine wn hK ?_;clear hK K
    replace S:=S.d2.d1
    refine wp_reg fun K hK=>?_
    have hlk : ([l,m2].getD k default).length ≤ 35184372088832:=two_len (by omega) hlim1 hlim2
    refine S.m rfl (S.g 0 rfl) rfl fun a w G S=>?_
    refine S.s (OpR.lenM S.ok rfl Tryz.underlying48 (S.g 0 rfl) MT.self) rfl fun a w G S=>?_
    refine S.s (τ:=NT 0) (OpR.mv S.ok rfl (rfl : _ = nv .i64 0)) rfl fun a w G S=>?_
    refine wn hK ?_;clear hK K
    replace S:=S.d3
    refine wp_block ?_
    refine wp_loopJ (fun μ a w=>∃ (j : Nat) (G : Gh),μ = ([l,m2].getD k default).length - j ∧ (j ≤ ([l,m2].getD k default).length) ∧ ((([l,m2].getD k default).take j).all goodR = true) ∧  St W0 G0 47 [(29,NT j),(28,NT ((([l,m2]).getD k default).length)),(27,LS (some 3) ((([l,m2]).getD k default).map (FX n))),(24,BT (decide (k < 2))),(23,NT k),(22,NT 2),(21,LS (none) (([l,m2]).map (fun (z_ : List (FR))=>LS (some 3) ((z_).map (FX n))))),(17,BT (decide (2 < m2.length))),(5,MT.ex (Value.nilIface)),(4,NT 0),(1,LS (some 3) ((m2).map (FX n))),(0,LS (some 3) ((l).map (FX n)))] [] a w G) (([l,m2].getD k default).length - 0) ⟨0,_,rfl,(by omega),rfl,(S.keep [0,1,2,3,4,5,6,7,8,9,10,11]).keepB [] (by decide)⟩ ?_
    clear S
    intro μ a w ⟨j,G,hm,hj,hgj,S⟩
    refine wp_reg fun K hK=>?_
    refine S.s (OpR.nlss S.ok rfl (S.e 0 rfl) (S.e 1 rfl) MT.self) rfl fun a w G S=>?_
    refine wn hK ?_;clear hK K
    refine wp_seq_k fun K hK=>?_
    refine S.cond 0 rfl (fun hc9=>?_) (fun hc9=>?_)
    ·
     have hp10:=of_decide_eq_true hc9
     refine wp_skip ?_
     refine hK _ _ ?_;clear hK K
     refine wp_seq_k fun K hK=>?_
     refine wp_block ?_
     refine wp_reg fun K hK=>?_
     refine S.s (τ:=PE (some 3) (FX n ((([l,m2]).getD k default).getD j default))) (OpR.ixM (T:=(FX n)) (xs:=([l,m2]).getD k default) (i:=j) S.ok rfl Tryz.underlying48 tS_24 (S.g 3 rfl) (S.e 1 rfl) rfl (by first | omega | (simp;omega))) rfl fun a w G S=>?_
     refine S.s (OpR.ldE S.ok rfl tS_24 (S.g 0 rfl)) rfl fun a w G S=>?_
     refine S.alloc rfl rfl rfl z_24 zs_24 rfl rfl fun b9 a w G S=>?_
     refine S.store (τ:=FX n ((([l,m2]).getD k default).getD j default)) 0 rfl rfl rfl rfl (S.e 0 rfl) tS_24 (S.g 1 rfl) (sh (τ:=FX n ((([l,m2]).getD k default).getD j default)) (S.g 1 rfl)) fun w S=>?_
     replace S:=S.n0
     refine wn hK ?_;clear hK K
     replace S:=S.d2.d1
     refine wp_reg fun K hK=>?_
     refine S.s (OpR.ldBox S.ok rfl (S.e 0 rfl) (S.box 0 rfl) tS_24) rfl fun a w G S=>?_
     refine S.s (τ:=BT (((([l,m2]).getD k default).getD j default).ok)) (OpR.call1 rfl c_35 (fValidX_ok S.ok (S.g 0 rfl) (by omega))) rfl fun a w G S=>?_
     refine S.s (OpR.bnot S.ok rfl (S.e 0 rfl) MT.self) rfl fun a w G S=>?_
     refine S.m rfl (S.g 0 rfl) rfl fun a w G S=>?_
     rcases Bool.eq_false_or_eq_true (!(((([l,m2]).getD k default).getD j default).ok)) with hc11 | hc11
     ·
      replace S:=S.boolIs 0 rfl hc11
      refine S.skipG 0 rfl rfl rfl rfl rfl rfl fun a w G S=>?_
      refine S.skipG 1 rfl rfl rfl rfl rfl rfl fun a w G S=>?_
      refine S.skipG 2 rfl rfl rfl rfl rfl rfl fun a w G S=>?_
      refine S.s (τ:=BT true) (OpR.pick S.ok rfl (S.e 3 rfl) rfl) rfl fun a w G S=>?_
      refine wn hK ?_;clear hK K
      replace S:=S.d8.d7.d6.d5.d4.d3.d2.d1
      refine wp_cond_true (S.e 0 rfl) ?_
      refine wp_reg fun K hK=>?_
      refine S.s (OpR.mkI S.ok rfl ni_43 (rfl : _ = nv .i64 3) MT.self) rfl fun a w G S=>?_
      replace S:=S.d13
      refine S.s (τ:=NT 0) (OpR.asn S.ok rfl (rfl : _ = nv .i64 0)) rfl fun a w G S=>?_
      replace S:=S.d13
      refine S.q rfl (S.g 1 rfl) rfl fun a w G S=>?_
      refine wn hK ?_;clear hK K
      replace S:=S.d2
      exact wp_ret (block_ret (then_ret (then_ret (block_ret (block_ret (then_ret (then_ret (block_ret (then_ret (S.retTmp2 rfl ((S.e 1 rfl).trans (iv_eq (by first | (unfold cmpRes;rw [cmpCode4 (by omega)];rfl) | (unfold cmpRes;rw [cmpCode3 (by omega) (two_bad (by omega) (all_not (by omega) (by first | exact goodR_not1 (not_true_of ‹_›) | exact goodR_not2 ‹_›)))];rfl) | (unfold cmpRes;rw [if_pos (cmpCode0 (by omega) (hg 0 (by omega)) (hg 1 (by omega)))])))) ((S.e 0 rfl).trans (by first | exact errV_ne (cmpCode4 (by omega)) (by decide) | exact errV_ne (cmpCode3 (by omega) (two_bad (by omega) (all_not (by omega) (by first | exact goodR_not1 (not_true_of ‹_›) | exact goodR_not2 ‹_›)))) (by decide) | exact errV_z (cmpCode0 (by omega) (hg 0 (by omega)) (hg 1 (by omega)))))))))))))))
     ·
      replace S:=S.boolIs 0 rfl hc11
      refine S.stepG 0 (OpR.ldBox S.ok rfl (S.e 5 rfl) (S.box 0 rfl) tS_24) rfl rfl rfl rfl rfl rfl fun a w G S=>?_
      refine S.stepG (τ:=IT ((((([l,m2]).getD k default).getD j default).val).num.sign)) 1 (OpR.call1 rfl c_36 (fSign_ok S.ok (FX.toQV (S.g 0 rfl)) (by omega))) rfl rfl rfl rfl rfl rfl fun a w G S=>?_
      refine S.stepG 2 (OpR.ilss S.ok rfl (S.e 0 rfl) (rfl : _ = nv .i64 0) MT.self) rfl rfl rfl rfl rfl rfl fun a w G S=>?_
      refine S.s (τ:=BT (decide (((((([l,m2]).getD k default).getD j default).val).num.sign) < 0))) (OpR.pick S.ok rfl (S.e 3 rfl) (S.g 0 rfl)) rfl fun a w G S=>?_
      refine wn hK ?_;clear hK K
      replace S:=S.d8.d7.d6.d5.d4.d3.d2.d1
      refine S.cond 0 rfl (fun hc14=>?_) (fun hc14=>?_)
      ·
       have hp15:=of_decide_eq_true hc14
       refine wp_reg fun K hK=>?_
       refine S.s (OpR.mkI S.ok rfl ni_43 (rfl : _ = nv .i64 3) MT.self) rfl fun a w G S=>?_
       replace S:=S.d13
       refine S.s (τ:=NT 0) (OpR.asn S.ok rfl (rfl : _ = nv .i64 0)) rfl fun a w G S=>?_
       replace S:=S.d13
       refine S.q rfl (S.g 1 rfl) rfl fun a w G S=>?_
       refine wn hK ?_;clear hK K
       replace S:=S.d2
       exact wp_ret (block_ret (then_ret (then_ret (block_ret (block_ret (then_ret (then_ret (block_ret (then_ret (S.retTmp2 rfl ((S.e 1 rfl).trans (iv_eq (by first | (unfold cmpRes;rw [cmpCode4 (by omega)];rfl) | (unfold cmpRes;rw [cmpCode3 (by omega) (two_bad (by omega) (all_not (by omega) (by first | exact goodR_not1 (not_true_of ‹_›) | exact goodR_not2 ‹_›)))];rfl) | (unfold cmpRes;rw [if_pos (cmpCode0 (by omega) (hg 0 (by omega)) (hg 1 (by omega)))])))) ((S.e 0 rfl).trans (by first | exact errV_ne (cmpCode4 (by omega)) (by decide) | exact errV_ne (cmpCode3 (by omega) (two_bad (by omega) (all_not (by omega) (by first | exact goodR_not1 (not_true_of ‹_›) | exact goodR_not2 ‹_›)))) (by decide) | exact errV_z (cmpCode0 (by omega) (hg 0 (by omega)) (hg 1 (by omega)))))))))))))))
      ·
       have hp16:=of_decide_eq_false hc14
       refine wp_skip ?_
       refine hK _ _ ?_;clear hK K
       refine wp_region_lit ?_
       refine S.s (OpR.nadd S.ok rfl (S.e 3 rfl) (rfl : _ = nv .i64 1) (wr_i64 (by omega)) MT.self) rfl fun a w G S=>?_
       replace S:=S.d4
       refine S.m rfl (S.g 0 rfl) rfl fun a w G S=>?_
       refine wpList_nil ?_
       replace S:=S.d1
       exact ⟨([l,m2].getD k default).length - (j + 1),(by omega),j + 1,_,rfl,(by omega),(all_snoc (by omega) hgj (goodR_of (not_false_of ‹_›) ‹_›)),(S.keep [0,4,5,6,7,8,9,10,11,12,13,14]).keepB [] (by decide)⟩
    ·
     have hp17:=of_decide_eq_false hc9
     refine wp_exit (then_exit (then_exit (exit_same ?_)))
     clear hK K
     refine hK _ _ ?_;clear hK K
     refine wp_region_lit ?_
     refine S.s (OpR.nadd S.ok rfl (S.e 5 rfl) (rfl : _ = nv .i64 1) (wr_i64 (by omega)) MT.self) rfl fun a w G S=>?_
     replace S:=S.d6
     refine S.m rfl (S.g 0 rfl) rfl fun a w G S=>?_
     refine wpList_nil ?_
     replace S:=S.d1
     exact ⟨2 - (k + 1),(by omega),k + 1,_,rfl,(by omega),(upto_step hg (all_end ‹_› hgj)),(S.keep [0,6,7,8,9,10,11,12]).keepB [] (by decide)⟩
   ·
    have hp18:=of_decide_eq_false hc7
    refine wp_exit (then_exit (then_exit (exit_same ?_)))
    clear hK K
    refine hK _ _ ?_;clear hK K
    refine wp_reg fun K hK=>?_
    refine S.m rfl (S.g 8 rfl) rfl fun a w G S=>?_
    refine S.m rfl (S.g 8 rfl) rfl fun a w G S=>?_
    refine S.s (τ:=IT (compareF (l.map FR.val) (m2.map FR.val))) (OpR.call2 rfl c_41 (xcompare_ok S.ok (LS.convM (T:=(FX n)) (U:=(QV n)) (f:=FR.val) (S.g 1 rfl) (by first | rfl | (simp;done)) fun z_ _ _ _ h=>(QV.eq (FX.toQV h) (by first | rfl | omega | (simp only [Nat.zero_add,Nat.add_zero];done) | (simp;done) | (push_cast;omega)))) (LS.convM (T:=(FX n)) (U:=(QV n)) (f:=FR.val) (S.g 0 rfl) (by first | rfl | (simp;done)) fun z_ _ _ _ h=>(QV.eq (FX.toQV h) (by first | rfl | omega | (simp only [Nat.zero_add,Nat.add_zero];done) | (simp;done) | (push_cast;omega)))) (by omega) (by omega) (by omega))) rfl fun a w G S=>?_
    replace S:=S.d9
    refine S.q rfl (S.g 0 rfl) rfl fun a w G S=>?_
    replace S:=S.d9
    refine S.s (τ:=MT.ex (Value.nilIface)) (OpR.asn S.ok rfl rfl) rfl fun a w G S=>?_
    refine wn hK ?_;clear hK K
    replace S:=S.d4.d3.d2
    exact wp_ret (S.retTmp2 rfl ((S.e 1 rfl).trans (iv_eq (by first | (unfold cmpRes;rw [cmpCode4 (by omega)];rfl) | (unfold cmpRes;rw [cmpCode3 (by omega) (two_bad (by omega) (all_not (by omega) (by first | exact goodR_not1 (not_true_of ‹_›) | exact goodR_not2 ‹_›)))];rfl) | (unfold cmpRes;rw [if_pos (cmpCode0 (by omega) (hg 0 (by omega)) (hg 1 (by omega)))])))) ((S.e 0 rfl).trans (by first | exact errV_ne (cmpCode4 (by omega)) (by decide) | exact errV_ne (cmpCode3 (by omega) (two_bad (by omega) (all_not (by omega) (by first | exact goodR_not1 (not_true_of ‹_›) | exact goodR_not2 ‹_›)))) (by decide) | exact errV_z (cmpCode0 (by omega) (hg 0 (by omega)) (hg 1 (by omega))))))
theorem xlist_ok {n : Nat} {rg ra rb rc : FR} {v1 : Value} {W0 : World} {G0 : Gh} (hok : Gok W0 G0) (h1 : (PTS [(some 3,FX n rg),(some 3,FX n ra),(some 3,FX n rb),(some 3,FX n rc)]).t v1 G0) (hn : 1000 * n + 1000 ≤ BIG) (hn1 : 1 ≤ n) : Calls Tryz.prog 27 #[v1] W0 (Ret W0 G0 (LS (some 3) (([rg,ra,rb,rc]).map (FX n)))):=by
 refine St.enter (N:=12) (L:=[(0,PTS [(some 3,FX n rg),(some 3,FX n ra),(some 3,FX n rb),(some 3,FX n rc)])]) (args:=[v1]) Tryz.func27 rfl rfl rfl hok (enter1 h1) fun a S=>?_
 refine wp_reg fun K hK=>?_
 refine S.boxop (x:=.tmp 0) (τ:=PTS [(some 3,FX n rg),(some 3,FX n ra),(some 3,FX n rb),(some 3,FX n rc)]) (S.g 0 rfl) (sh (τ:=PTS [(some 3,FX n rg),(some 3,FX n ra),(some 3,FX n rb),(some 3,FX n rc)]) (S.g 0 rfl)) rfl rfl rfl rfl rfl fun b1 a w G S=>?_
 refine S.s (τ:=MT.ex (Value.slice none 0 0)) (OpR.asn S.ok rfl rfl) rfl fun a w G S=>?_
 refine wn hK ?_;clear hK K
 replace S:=S.d2
 refine wp_reg fun K hK=>?_
 refine S.s (τ:=PB b1) (OpR.fldA S.ok rfl (S.e 1 rfl) fo_26_0 rfl) rfl fun a w G S=>?_
 refine S.s (OpR.ldPart S.ok rfl (S.e 0 rfl) (S.box 0 rfl) tS_24 fun _ h hs=>part_load (PTS.part 0 rfl rfl h hs) rfl) rfl fun a w G S=>?_
 refine S.s (τ:=MT.ex (Value.pointer (some ⟨b1,3,none⟩))) (OpR.fldA S.ok rfl (S.e 3 rfl) fo_26_1 rfl) rfl fun a w G S=>?_
 refine S.s (OpR.ldPart S.ok rfl (S.e 0 rfl) (S.box 0 rfl) tS_24 fun _ h hs=>part_load (PTS.part 1 rfl rfl h hs) rfl) rfl fun a w G S=>?_
 refine S.s (τ:=MT.ex (Value.pointer (some ⟨b1,6,none⟩))) (OpR.fldA S.ok rfl (S.e 5 rfl) fo_26_2 rfl) rfl fun a w G S=>?_
 refine S.s (OpR.ldPart S.ok rfl (S.e 0 rfl) (S.box 0 rfl) tS_24 fun _ h hs=>part_load (PTS.part 2 rfl rfl h hs) rfl) rfl fun a w G S=>?_
 refine S.s (τ:=MT.ex (Value.pointer (some ⟨b1,9,none⟩))) (OpR.fldA S.ok rfl (S.e 7 rfl) fo_26_3 rfl) rfl fun a w G S=>?_
 refine S.s (OpR.ldPart S.ok rfl (S.e 0 rfl) (S.box 0 rfl) tS_24 fun _ h hs=>part_load (PTS.part 3 rfl rfl h hs) rfl) rfl fun a w G S=>?_
 refine S.s (τ:=LS (some 3) (([rg,ra,rb,rc]).map (FX n))) (OpR.buildS (k:=some 3) (τs:=[rg,ra,rb,rc].map (FX n)) (us:=[a.eval (.tmp 4),a.eval (.tmp 6),a.eval (.tmp 8),a.eval (.tmp 10)]) S.ok rfl Tryz.underlying48 el_24 rfl (by decide) (by decide) (by simp [Act.eval]) rfl (Els.cons (sh (τ:=FX n rg) (S.g 6 rfl)) (S.g 6 rfl) (Els.cons (sh (τ:=FX n ra) (S.g 4 rfl)) (S.g 4 rfl) (Els.cons (sh (τ:=FX n rb) (S.g 2 rfl)) (S.g 2 rfl) (Els.cons (sh (τ:=FX n rc) (S.g 0 rfl)) (S.g 0 rfl) Els.nil))))) rfl fun a w G S=>?_
 replace S:=S.d9
 refine S.q rfl (S.g 0 rfl) rfl fun a w G S=>?_
 refine wn hK ?_;clear hK K
 replace S:=S.d10.d9.d8.d7.d6.d5.d4.d3.d2.d1
 exact wp_ret (S.retTmp rfl (S.g 0 rfl))
end Go.Proofs.YtdeihehaheelmaaGreat
namespace Go.Proofs.YtdeihehaheelmaaGreat
set_option maxHeartbeats 1000000
set_option maxRecDepth 100000
open Go.RowKit (Below)
private theorem el_3 : elS Tryz.prog 3 1 8 (.int .i64 0):=by unfold elS;kernel_rfl
private theorem tS_3 : tyS Tryz.prog 3 (none) = true:=by kernel_rfl
theorem xorder_ok {n : Nat} {xs : List Rat} {v1 : Value} {W0 : World} {G0 : Gh} (hok : Gok W0 G0) (h1 : (LS (some 3) ((xs).map (QV n))).t v1 G0) (hl : xs.length = 4) (hn : n + n ≤ BIG) : Calls Tryz.prog 26 #[v1] W0 (Ret W0 G0 (LS (none) ((orderF xs).map NT))):=by
 refine St.enter (N:=54) (L:=[(0,LS (some 3) ((xs).map (QV n)))]) (args:=[v1]) Tryz.func26 rfl rfl rfl hok (enter1 h1) fun a S=>?_
 refine wp_reg fun K hK=>?_
 refine S.s (τ:=MT.ex (Value.slice none 0 0)) (OpR.asn S.ok rfl rfl) rfl fun a w G S=>?_
 refine wn hK ?_;clear hK K
 refine wp_reg fun K hK=>?_
 refine S.buildO (k:=none) (τs:=[0,1,2,3].map NT) (us:=[Value.int .i64 (0),Value.int .i64 (1),Value.int .i64 (2),Value.int .i64 (3)]) rfl rfl rfl Tryz.underlying52 el_3 rfl (by decide) (by decide) (by simp [Act.eval]) rfl (Els.cons (sh (τ:=NT 0) (G:=fun _=>none) (rfl : _ = nv .i64 0)) (rfl : _ = nv .i64 0) (Els.cons (sh (τ:=NT 1) (G:=fun _=>none) (rfl : _ = nv .i64 1)) (rfl : _ = nv .i64 1) (Els.cons (sh (τ:=NT 2) (G:=fun _=>none) (rfl : _ = nv .i64 2)) (rfl : _ = nv .i64 2) (Els.cons (sh (τ:=NT 3) (G:=fun _=>none) (rfl : _ = nv .i64 3)) (rfl : _ = nv .i64 3) Els.nil)))) rfl rfl fun b6 a w G S=>?_
 refine S.q rfl (S.g 0 rfl) rfl fun a w G S=>?_
 refine wn hK ?_;clear hK K
 replace S:=S.d1
 refine wp_seq_k fun K hK=>?_
 refine wp_reg fun K hK=>?_
 refine S.m rfl (S.g 0 rfl) rfl fun a w G S=>?_
 refine S.s (OpR.lenA S.ok rfl Tryz.underlying52 (S.e 0 rfl) MT.self) rfl fun a w G S=>?_
 refine S.s (τ:=NT 0) (OpR.mv S.ok rfl (rfl : _ = nv .i64 0)) rfl fun a w G S=>?_
 refine wn hK ?_;clear hK K
 replace S:=S.d2
 refine wp_block ?_
 replace S:=S.castBox (τ':=ROWS (none) ((([0,1,2,3])).map NT)) 0 rfl fun _ h _=>(ROWS.eqM h (by first | rfl | omega | (simp;done)))
 replace S:=S.n0
 refine wp_loopJ (fun μ a w=>∃ (i : Nat) (o : List Nat) (G : Gh),μ = 4 - i ∧ (i ≤ 4) ∧ (o.length = 4) ∧ (∀ x ∈ o,x < 4) ∧ (ordF xs i o (4 - i) = orderF xs) ∧  St W0 G0 54 [(9,NT i),(8,NT 4),(3,MT.ex (Value.slice (some ⟨b6,0,none⟩) (4) (4))),(2,MT.ex (Value.slice none 0 0)),(0,LS (some 3) ((xs).map (QV n)))] [⟨b6,3,some (4 * (none : Option Nat).getD 1),ROWS (none) ((o).map NT)⟩] a w G) (4 - 0) ⟨0,[0,1,2,3],_,rfl,(by omega),rfl,(by decide),rfl,(S.keep [0,1,2,3,4]).keepB [0] (by decide)⟩ ?_
 clear S
 intro μ a w ⟨i,o,G,hm,hi,ho,hb,hr,S⟩
 refine wp_reg fun K hK=>?_
 refine S.s (OpR.nlss S.ok rfl (S.e 0 rfl) (S.e 1 rfl) MT.self) rfl fun a w G S=>?_
 refine wn hK ?_;clear hK K
 refine wp_seq_k fun K hK=>?_
 refine S.cond 0 rfl (fun hc1=>?_) (fun hc1=>?_)
 ·
  have hp2:=of_decide_eq_true hc1
  refine wp_skip ?_
  refine hK _ _ ?_;clear hK K
  refine wp_seq_k fun K hK=>?_
  refine wp_block ?_
  refine wp_reg fun K hK=>?_
  refine S.m rfl (S.g 1 rfl) rfl fun a w G S=>?_
  refine S.q rfl (S.g 0 rfl) rfl fun a w G S=>?_
  refine wn hK ?_;clear hK K
  replace S:=S.d1
  refine wp_reg fun K hK=>?_
  refine S.m rfl (S.g 0 rfl) rfl fun a w G S=>?_
  refine S.q rfl (S.g 0 rfl) rfl fun a w G S=>?_
  refine wn hK ?_;clear hK K
  replace S:=S.d2.d1
  refine wp_block ?_
  refine wp_loopJ (fun μ a w=>∃ (k : Nat) (q : List Nat) (G : Gh),μ = k ∧ (k ≤ i) ∧ (q.length = 4) ∧ (∀ x ∈ q,x < 4) ∧ (insF xs k q = insF xs i o) ∧  St W0 G0 54 [(5,NT k),(10,BT (decide (i < 4))),(9,NT i),(8,NT 4),(3,MT.ex (Value.slice (some ⟨b6,0,none⟩) (4) (4))),(2,MT.ex (Value.slice none 0 0)),(0,LS (some 3) ((xs).map (QV n)))] [⟨b6,3,some (4 * (none : Option Nat).getD 1),ROWS (none) ((q).map NT)⟩] a w G) (i) ⟨i,o,_,rfl,(by omega),ho,hb,rfl,(S.keep [0,1,2,3,4,5,6]).keepB [0] (by decide)⟩ ?_
  clear S
  intro μ a w ⟨k,q,G,hm,hk,hq,hbq,hrq,S⟩
  have hkl : q.getD k default < 4:=getD_lt hbq (by decide)
  have hkl1 : q.getD (k - 1) default < 4:=getD_lt hbq (by decide)
  refine wp_seq_k fun K hK=>?_
  refine wp_seq_k fun K hK=>?_
  rcases Bool.eq_false_or_eq_true (decide (0 < k)) with hc3 | hc3
  ·
   have hp4:=of_decide_eq_true hc3
   refine S.drawn [⟨13,.g (NT k),[]⟩,⟨14,.g (BT true),[0]⟩,⟨15,.g (BT true),[1]⟩,⟨16,.g (LS (some 3) ((xs).map (QV n))),[2]⟩,⟨17,.g (MT.ex (Value.slice (some ⟨b6,0,none⟩) (4) (4))),[2]⟩,⟨18,.g (NT k),[2]⟩,⟨19,.g (MT.ex (Value.pointer (some ⟨b6,(k) * (none : Option Nat).getD 1,none⟩))),[4,5,2]⟩,⟨20,.g (NT (q.getD k default)),[6,2]⟩,⟨21,.g (PE (some 3) (QV n (xs.getD (q.getD k default) default))),[3,7,2]⟩,⟨22,.g (QV n (xs.getD (q.getD k default) default)),[8,2]⟩,⟨23,.g (LS (some 3) ((xs).map (QV n))),[2]⟩,⟨24,.g (MT.ex (Value.slice (some ⟨b6,0,none⟩) (4) (4))),[2]⟩,⟨25,.g (NT k),[2]⟩,⟨26,.g (NT (k - 1)),[12,2]⟩,⟨27,.g (MT.ex (Value.pointer (some ⟨b6,(k - 1) * (none : Option Nat).getD 1,none⟩))),[11,13,2]⟩,⟨28,.g (NT (q.getD (k - 1) default)),[14,2]⟩,⟨29,.g (PE (some 3) (QV n (xs.getD (q.getD (k - 1) default) default))),[10,15,2]⟩,⟨30,.g (QV n (xs.getD (q.getD (k - 1) default) default)),[16,2]⟩,⟨31,.g (IT (cmpQ (xs.getD (q.getD k default) default) (xs.getD (q.getD (k - 1) default) default))),[9,17,2]⟩,⟨32,.g (BT (decide ((cmpQ (xs.getD (q.getD k default) default) (xs.getD (q.getD (k - 1) default) default)) < 0))),[18,2]⟩,⟨33,.g (BT (decide ((cmpQ (xs.getD (q.getD k default) default) (xs.getD (q.getD (k - 1) default) default)) < 0))),[2,19]⟩] mixedOrders (by kernel_rfl)
    ⟨fun a w G S=>.of rfl (OpR.mv S.ok rfl (S.g 0 rfl)),
     fun a w G S=>.of rfl (OpR.isB hc3 (OpR.ngtr S.ok rfl (S.e 0 rfl) (rfl : _ = nv .i64 0) MT.self)),
     fun a w G S=>.of rfl (OpR.mv S.ok rfl (S.g 0 rfl)),
     fun a w G S=>.yes S 0 rfl rfl rfl (OpR.mv S.ok rfl (S.g 7 rfl)),
     fun a w G S=>.yes S 0 rfl rfl rfl (OpR.mv S.ok rfl (S.g 5 rfl)),
     fun a w G S=>.yes S 0 rfl rfl rfl (OpR.mv S.ok rfl (S.g 1 rfl)),
     fun a w G S=>.yes S 2 rfl rfl rfl (OpR.ixA (i:=k) S.ok rfl Tryz.underlying52 tS_3 (S.e 0 rfl) (S.e 1 rfl) rfl (by first | omega | (simp;omega)) (congrArg (fun j=>Value.pointer (some ⟨b6,j,none⟩)) (Nat.zero_add _))),
     fun a w G S=>.yes S 1 rfl rfl rfl (OpR.ldSM (k:=none) (T:=NT) (xs:=q) (i:=k) S.ok rfl (S.e 0 rfl) (S.box 0 rfl) tS_3 (by first | omega | (simp;omega))),
     fun a w G S=>.yes S 2 rfl rfl rfl (OpR.ixM (T:=(QV n)) (xs:=xs) (i:=q.getD k default) S.ok rfl Tryz.underlying48 tS_24 (S.g 0 rfl) (S.e 1 rfl) rfl (by first | omega | (simp;omega))),
     fun a w G S=>.yes S 1 rfl rfl rfl (OpR.ldE S.ok rfl tS_24 (S.g 0 rfl)),
     fun a w G S=>.yes S 0 rfl rfl rfl (OpR.mv S.ok rfl (S.g 7 rfl)),
     fun a w G S=>.yes S 0 rfl rfl rfl (OpR.mv S.ok rfl (S.g 5 rfl)),
     fun a w G S=>.yes S 0 rfl rfl rfl (OpR.mv S.ok rfl (S.g 1 rfl)),
     fun a w G S=>.yes S 1 rfl rfl rfl (OpR.nsub S.ok rfl (S.e 0 rfl) (rfl : _ = nv .i64 1) (by omega) (wr_i64 (by omega)) MT.self),
     fun a w G S=>.yes S 2 rfl rfl rfl (OpR.ixA (i:=k - 1) S.ok rfl Tryz.underlying52 tS_3 (S.e 0 rfl) (S.e 1 rfl) rfl (by first | omega | (simp;omega)) (congrArg (fun j=>Value.pointer (some ⟨b6,j,none⟩)) (Nat.zero_add _))),
     fun a w G S=>.yes S 1 rfl rfl rfl (OpR.ldSM (k:=none) (T:=NT) (xs:=q) (i:=k - 1) S.ok rfl (S.e 0 rfl) (S.box 0 rfl) tS_3 (by first | omega | (simp;omega))),
     fun a w G S=>.yes S 2 rfl rfl rfl (OpR.ixM (T:=(QV n)) (xs:=xs) (i:=q.getD (k - 1) default) S.ok rfl Tryz.underlying48 tS_24 (S.g 0 rfl) (S.e 1 rfl) rfl (by first | omega | (simp;omega))),
     fun a w G S=>.yes S 1 rfl rfl rfl (OpR.ldE S.ok rfl tS_24 (S.g 0 rfl)),
     fun a w G S=>.yes S 2 rfl rfl rfl (OpR.call2 rfl c_48 (fCmp_ok S.ok (S.g 0 rfl) (S.g 1 rfl) (by omega))),
     fun a w G S=>.yes S 1 rfl rfl rfl (OpR.ilss S.ok rfl (S.e 0 rfl) (rfl : _ = nv .i64 0) MT.self),
     fun a w G S=>.of rfl (OpR.pick S.ok rfl (S.e 0 rfl) (S.g 1 rfl)),trivial⟩ fun β a w G S=>?_
   replace S : St W0 G0 54 [(33,BT (decide ((cmpQ (xs.getD (q.getD k default) default) (xs.getD (q.getD (k - 1) default) default)) < 0))),(5,NT k),(10,BT (decide (i < 4))),(9,NT i),(8,NT 4),(3,MT.ex (Value.slice (some ⟨b6,0,none⟩) (4) (4))),(2,MT.ex (Value.slice none 0 0)),(0,LS (some 3) ((xs).map (QV n)))] [⟨b6,3,some (4 * (none : Option Nat).getD 1),ROWS (none) ((q).map NT)⟩] a _ _:=S.keep [0,21,22,23,24,25,26,27]
   refine wn hK ?_;clear hK K
   refine S.cond 0 rfl (fun hc5=>?_) (fun hc5=>?_)
   ·
    have hp6:=of_decide_eq_true hc5
    refine wp_skip ?_
    refine hK _ _ ?_;clear hK K
    refine wp_seq_k fun K hK=>?_
    refine wp_block ?_
    refine S.drawnS [⟨36,.g (MT.ex (Value.slice (some ⟨b6,0,none⟩) (4) (4))),[]⟩,⟨37,.g (NT k),[]⟩,⟨38,.g (MT.ex (Value.slice (some ⟨b6,0,none⟩) (4) (4))),[]⟩,⟨39,.g (NT k),[]⟩,⟨40,.g (NT (k - 1)),[3]⟩,⟨41,.g (MT.ex (Value.slice (some ⟨b6,0,none⟩) (4) (4))),[]⟩,⟨42,.g (NT k),[]⟩,⟨43,.g (NT (k - 1)),[6]⟩,⟨44,.g (MT.ex (Value.pointer (some ⟨b6,(k - 1) * (none : Option Nat).getD 1,none⟩))),[5,7]⟩,⟨45,.g (NT (q.getD (k - 1) default)),[8]⟩,⟨46,.g (MT.ex (Value.slice (some ⟨b6,0,none⟩) (4) (4))),[]⟩,⟨47,.g (NT k),[]⟩,⟨48,.g (MT.ex (Value.pointer (some ⟨b6,(k) * (none : Option Nat).getD 1,none⟩))),[10,11]⟩,⟨49,.g (NT (q.getD k default)),[12]⟩,⟨50,.g (MT.ex (Value.pointer (some ⟨b6,(k) * (none : Option Nat).getD 1,none⟩))),[0,1]⟩,⟨9998,.st 0 (ROWS (none) ((q.set (k) (q.getD (k - 1) default)).map NT)),[14,9]⟩,⟨51,.g (MT.ex (Value.pointer (some ⟨b6,(k - 1) * (none : Option Nat).getD 1,none⟩))),[2,4]⟩] mixedOrders (by kernel_rfl)
     ⟨⟨rfl,fun a w G S=>.of rfl (OpR.mv S.ok rfl (S.g 5 rfl))⟩,
      ⟨rfl,fun a w G S=>.of rfl (OpR.mv S.ok rfl (S.g 1 rfl))⟩,
      ⟨rfl,fun a w G S=>.of rfl (OpR.mv S.ok rfl (S.g 5 rfl))⟩,
      ⟨rfl,fun a w G S=>.of rfl (OpR.mv S.ok rfl (S.g 1 rfl))⟩,
      ⟨rfl,fun a w G S=>.of rfl (OpR.nsub S.ok rfl (S.e 0 rfl) (rfl : _ = nv .i64 1) (by omega) (wr_i64 (by omega)) MT.self)⟩,
      ⟨rfl,fun a w G S=>.of rfl (OpR.mv S.ok rfl (S.g 5 rfl))⟩,
      ⟨rfl,fun a w G S=>.of rfl (OpR.mv S.ok rfl (S.g 1 rfl))⟩,
      ⟨rfl,fun a w G S=>.of rfl (OpR.nsub S.ok rfl (S.e 0 rfl) (rfl : _ = nv .i64 1) (by omega) (wr_i64 (by omega)) MT.self)⟩,
      ⟨rfl,fun a w G S=>.of rfl (OpR.ixA (i:=k - 1) S.ok rfl Tryz.underlying52 tS_3 (S.e 0 rfl) (S.e 1 rfl) rfl (by first | omega | (simp;omega)) (congrArg (fun j=>Value.pointer (some ⟨b6,j,none⟩)) (Nat.zero_add _)))⟩,
      ⟨rfl,fun a w G S=>have S:=S.boxes (B':=[⟨b6,3,some (4 * (none : Option Nat).getD 1),ROWS (none) ((q).map NT)⟩]) (by kernel_rfl);OpG.of rfl (OpR.ldSM (k:=none) (T:=NT) (xs:=q) (i:=k - 1) S.ok rfl (S.e 0 rfl) (S.box 0 rfl) tS_3 (by first | omega | (simp;omega)))⟩,
      ⟨rfl,fun a w G S=>.of rfl (OpR.mv S.ok rfl (S.g 5 rfl))⟩,
      ⟨rfl,fun a w G S=>.of rfl (OpR.mv S.ok rfl (S.g 1 rfl))⟩,
      ⟨rfl,fun a w G S=>.of rfl (OpR.ixA (i:=k) S.ok rfl Tryz.underlying52 tS_3 (S.e 0 rfl) (S.e 1 rfl) rfl (by first | omega | (simp;omega)) (congrArg (fun j=>Value.pointer (some ⟨b6,j,none⟩)) (Nat.zero_add _)))⟩,
      ⟨rfl,fun a w G S=>have S:=S.boxes (B':=[⟨b6,3,some (4 * (none : Option Nat).getD 1),ROWS (none) ((q).map NT)⟩]) (by kernel_rfl);OpG.of rfl (OpR.ldSM (k:=none) (T:=NT) (xs:=q) (i:=k) S.ok rfl (S.e 0 rfl) (S.box 0 rfl) tS_3 (by first | omega | (simp;omega)))⟩,
      ⟨rfl,fun a w G S=>.of rfl (OpR.ixA (i:=k) S.ok rfl Tryz.underlying52 tS_3 (S.e 0 rfl) (S.e 1 rfl) rfl (by first | omega | (simp;omega)) (congrArg (fun j=>Value.pointer (some ⟨b6,j,none⟩)) (Nat.zero_add _)))⟩,
      ⟨rfl,rfl,rfl,.inr ⟨by simp only [List.length_cons,List.length_nil];omega,_,rfl,fun a w G v0 S hv hs h0=>elem_storeS (k:=none) (T:=NT) (z:=q.getD (k - 1) default) (i:=k) rfl rfl (S.e 0 rfl) tS_3 (S.g 1 rfl) (sh (τ:=NT (q.getD (k - 1) default)) (S.g 1 rfl)) (by first | omega | (simp;omega)) hv hs h0⟩⟩,
      ⟨rfl,fun a w G S=>.of rfl (OpR.ixA (i:=k - 1) S.ok rfl Tryz.underlying52 tS_3 (S.e 0 rfl) (S.e 1 rfl) rfl (by first | omega | (simp;omega)) (congrArg (fun j=>Value.pointer (some ⟨b6,j,none⟩)) (Nat.zero_add _)))⟩,trivial⟩ fun β a w G S=>?_
    replace S : St W0 G0 54 [(51,MT.ex (Value.pointer (some ⟨b6,(k - 1) * (none : Option Nat).getD 1,none⟩))),(49,NT (q.getD k default)),(33,BT (decide ((cmpQ (xs.getD (q.getD k default) default) (xs.getD (q.getD (k - 1) default) default)) < 0))),(5,NT k),(10,BT (decide (i < 4))),(9,NT i),(8,NT 4),(3,MT.ex (Value.slice (some ⟨b6,0,none⟩) (4) (4))),(2,MT.ex (Value.slice none 0 0)),(0,LS (some 3) ((xs).map (QV n)))] [⟨b6,3,some (4 * (none : Option Nat).getD 1),ROWS (none) ((q.set (k) (q.getD (k - 1) default)).map NT)⟩] a _ _:=S.keep [0,2,16,17,18,19,20,21,22,23]
    refine S.setSM (k:=none) (T:=NT) (z:=q.getD k default) (i:=k - 1) 0 rfl rfl rfl rfl (S.e 0 rfl) tS_3 (S.g 1 rfl) (sh (τ:=NT (q.getD k default)) (S.g 1 rfl)) (by first | omega | (simp;omega)) fun w S=>?_
    replace S:=S.n0
    refine wpList_nil ?_
    replace S:=S.d1.d0
    refine hK _ _ ?_;clear hK K
    refine wp_region_lit ?_
    refine S.m rfl (S.g 1 rfl) rfl fun a w G S=>?_
    refine S.s (OpR.nsub S.ok rfl (S.e 0 rfl) (rfl : _ = nv .i64 1) (by omega) (wr_i64 (by omega)) MT.self) rfl fun a w G S=>?_
    replace S:=S.d3
    refine S.q rfl (S.g 0 rfl) rfl fun a w G S=>?_
    refine wpList_nil ?_
    replace S:=S.d2.d1
    replace S:=S.castBox (τ':=ROWS (none) ((((q.set (k) (q.getD (k - 1) default)).set (k - 1) (q.getD k default))).map NT)) 0 rfl fun _ h _=>(ROWS.eqM h (by first | rfl | omega | (simp;done)))
    replace S:=S.n0
    exact ⟨(k - 1),(by omega),k - 1,(q.set (k) (q.getD (k - 1) default)).set (k - 1) (q.getD k default),_,rfl,(by omega),(by simpa using hq),(swap_lt hbq),(ins_step (by omega) ‹_› hrq),(S.keep [0,2,3,4,5,6,7]).keepB [0] (by decide)⟩
   ·
    have hp7:=of_decide_eq_false hc5
    refine wp_exit (then_exit (then_exit (exit_same ?_)))
    clear hK K
    refine hK _ _ ?_;clear hK K
    refine wp_region_lit ?_
    have hnx:=ord_next (by omega) hr (by first | exact ins_end0 (by omega) hrq | exact ins_end1 (by omega) ‹_› hrq)
    refine S.s (OpR.nadd S.ok rfl (S.e 3 rfl) (rfl : _ = nv .i64 1) (wr_i64 (by omega)) MT.self) rfl fun a w G S=>?_
    replace S:=S.d4
    refine S.m rfl (S.g 0 rfl) rfl fun a w G S=>?_
    refine wpList_nil ?_
    replace S:=S.d1
    exact ⟨4 - (i + 1),(by omega),i + 1,q,_,rfl,(by omega),hq,hbq,hnx,(S.keep [0,4,5,6,7]).keepB [0] (by decide)⟩
  ·
   have hp8:=of_decide_eq_false hc3
   refine S.drawn [⟨13,.g (NT k),[]⟩,⟨14,.g (BT false),[0]⟩,⟨15,.g (BT false),[1]⟩,⟨16,.g (MT.ex undef),[2]⟩,⟨17,.g (MT.ex undef),[2]⟩,⟨18,.g (MT.ex undef),[2]⟩,⟨19,.g (MT.ex undef),[4,5,2]⟩,⟨20,.g (MT.ex undef),[6,2]⟩,⟨21,.g (MT.ex undef),[3,7,2]⟩,⟨22,.g (MT.ex undef),[8,2]⟩,⟨23,.g (MT.ex undef),[2]⟩,⟨24,.g (MT.ex undef),[2]⟩,⟨25,.g (MT.ex undef),[2]⟩,⟨26,.g (MT.ex undef),[12,2]⟩,⟨27,.g (MT.ex undef),[11,13,2]⟩,⟨28,.g (MT.ex undef),[14,2]⟩,⟨29,.g (MT.ex undef),[10,15,2]⟩,⟨30,.g (MT.ex undef),[16,2]⟩,⟨31,.g (MT.ex undef),[9,17,2]⟩,⟨32,.g (MT.ex undef),[18,2]⟩,⟨33,.g (BT false),[2,19]⟩] mixedOrders (by kernel_rfl)
    ⟨fun a w G S=>.of rfl (OpR.mv S.ok rfl (S.g 0 rfl)),
     fun a w G S=>.of rfl (OpR.isB hc3 (OpR.ngtr S.ok rfl (S.e 0 rfl) (rfl : _ = nv .i64 0) MT.self)),
     fun a w G S=>.of rfl (OpR.mv S.ok rfl (S.g 0 rfl)),
     fun a w G S=>.no S 0 rfl rfl rfl rfl,
     fun a w G S=>.no S 0 rfl rfl rfl rfl,
     fun a w G S=>.no S 0 rfl rfl rfl rfl,
     fun a w G S=>.no S 2 rfl rfl rfl rfl,
     fun a w G S=>.no S 1 rfl rfl rfl rfl,
     fun a w G S=>.no S 2 rfl rfl rfl rfl,
     fun a w G S=>.no S 1 rfl rfl rfl rfl,
     fun a w G S=>.no S 0 rfl rfl rfl rfl,
     fun a w G S=>.no S 0 rfl rfl rfl rfl,
     fun a w G S=>.no S 0 rfl rfl rfl rfl,
     fun a w G S=>.no S 1 rfl rfl rfl rfl,
     fun a w G S=>.no S 2 rfl rfl rfl rfl,
     fun a w G S=>.no S 1 rfl rfl rfl rfl,
     fun a w G S=>.no S 2 rfl rfl rfl rfl,
     fun a w G S=>.no S 1 rfl rfl rfl rfl,
     fun a w G S=>.no S 2 rfl rfl rfl rfl,
     fun a w G S=>.no S 1 rfl rfl rfl rfl,
     fun a w G S=>.of rfl (OpR.pick S.ok rfl (S.e 0 rfl) rfl),trivial⟩ fun β a w G S=>?_
   replace S : St W0 G0 54 [(33,BT false),(5,NT k),(10,BT (decide (i < 4))),(9,NT i),(8,NT 4),(3,MT.ex (Value.slice (some ⟨b6,0,none⟩) (4) (4))),(2,MT.ex (Value.slice none 0 0)),(0,LS (some 3) ((xs).map (QV n)))] [⟨b6,3,some (4 * (none : Option Nat).getD 1),ROWS (none) ((q).map NT)⟩] a _ _:=S.keep [0,21,22,23,24,25,26,27]
   refine wn hK ?_;clear hK K
   refine wp_cond_false (S.e 0 rfl) ?_
   refine wp_exit (then_exit (then_exit (exit_same ?_)))
   clear hK K
   refine hK _ _ ?_;clear hK K
   refine wp_region_lit ?_
   have hnx:=ord_next (by omega) hr (by first | exact ins_end0 (by omega) hrq | exact ins_end1 (by omega) ‹_› hrq)
   refine S.s (OpR.nadd S.ok rfl (S.e 3 rfl) (rfl : _ = nv .i64 1) (wr_i64 (by omega)) MT.self) rfl fun a w G S=>?_
   replace S:=S.d4
   refine S.m rfl (S.g 0 rfl) rfl fun a w G S=>?_
   refine wpList_nil ?_
   replace S:=S.d1
   exact ⟨4 - (i + 1),(by omega),i + 1,q,_,rfl,(by omega),hq,hbq,hnx,(S.keep [0,4,5,6,7]).keepB [0] (by decide)⟩
 ·
  have hp9:=of_decide_eq_false hc1
  refine wp_exit (then_exit (then_exit (exit_same ?_)))
  clear hK K
  refine hK _ _ ?_;clear hK K
  refine wp_reg fun K hK=>?_
  obtain ⟨vz10,Gz10,hz10,hs10,hg10,hle10,S⟩:=S.freeze 0 rfl
  have hsl10:=ROWS.slM hz10 hg10 ho.symm (Nat.le_refl _) (by decide) (rfl : _ = Value.slice (some ⟨b6,0,none⟩) (4) (4))
  replace S:=S.also (t:=3) (τ:=LS (none) ((o).map NT)) ((S.e 3 rfl).symm ▸ hsl10)
  replace S : St W0 G0 54 [(3,LS (none) ((o).map NT)),(10,BT (decide (i < 4))),(9,NT i),(8,NT 4),(2,MT.ex (Value.slice none 0 0)),(0,LS (some 3) ((xs).map (QV n)))] [] a _ _:=S.keep [0,1,2,3,5,6]
  refine S.m rfl (S.g 0 rfl) rfl fun a w G S=>?_
  replace S:=S.d5
  refine S.q rfl (S.g 0 rfl) rfl fun a w G S=>?_
  refine wn hK ?_;clear hK K
  replace S:=S.d1
  exact wp_ret (S.retTmp rfl (LS.eqM (S.g 0 rfl) (by rw [show i = 4 by omega] at hr;exact hr)))
end Go.Proofs.YtdeihehaheelmaaGreat
namespace Go.Proofs.YtdeihehaheelmaaGreat
set_option maxHeartbeats 1000000
set_option maxRecDepth 100000
open Go.RowKit (Below)
private theorem c_11 : callable Tryz.prog 11 = true:=by kernel_rfl
private theorem c_25 : callable Tryz.prog 25 = true:=by kernel_rfl
private theorem c_26 : callable Tryz.prog 26 = true:=by kernel_rfl
private theorem c_27 : callable Tryz.prog 27 = true:=by kernel_rfl
private theorem c_37 : callable Tryz.prog 37 = true:=by kernel_rfl
private theorem tS_26 : tyS Tryz.prog 26 (some 12) = true:=by kernel_rfl
theorem xcloses_ok {n1 n2 n3 n4 : Nat} {p q r s : Rat} {v1 v2 v3 v4 : Value} {W0 : World} {G0 : Gh} (hok : Gok W0 G0) (h1 : (QV n1 p).t v1 G0) (h2 : (QV n2 q).t v2 G0) (h3 : (QV n3 r).t v3 G0) (h4 : (QV n4 s).t v4 G0) (hn : 30 * n1 + 30 * n2 + 30 * n3 + 30 * n4 + 1000 ≤ BIG) : Calls Tryz.prog 37 #[v1,v2,v3,v4] W0 (Ret W0 G0 (BT (closesF p q r s))):=by
 refine St.enter (N:=53) (L:=[(3,QV n4 s),(2,QV n3 r),(1,QV n2 q),(0,QV n1 p)]) (args:=[v1,v2,v3,v4]) Tryz.func37 rfl rfl rfl hok (enter4 h1 h2 h3 h4) fun a S=>?_
 refine wp_reg fun K hK=>?_
 refine S.boxop (x:=.tmp 0) (τ:=QV n1 p) (S.g 3 rfl) (sh (τ:=QV n1 p) (S.g 3 rfl)) rfl rfl rfl rfl rfl fun b4 a w G S=>?_
 refine S.boxop (x:=.tmp 1) (τ:=QV n2 q) (S.g 3 rfl) (sh (τ:=QV n2 q) (S.g 3 rfl)) rfl rfl rfl rfl rfl fun b5 a w G S=>?_
 refine S.boxop (x:=.tmp 2) (τ:=QV n3 r) (S.g 3 rfl) (sh (τ:=QV n3 r) (S.g 3 rfl)) rfl rfl rfl rfl rfl fun b6 a w G S=>?_
 refine S.boxop (x:=.tmp 3) (τ:=QV n4 s) (S.g 3 rfl) (sh (τ:=QV n4 s) (S.g 3 rfl)) rfl rfl rfl rfl rfl fun b7 a w G S=>?_
 refine S.s (τ:=BT false) (OpR.asn S.ok rfl rfl) rfl fun a w G S=>?_
 refine wn hK ?_;clear hK K
 replace S:=S.d8.d7.d6.d5
 refine wp_seq_k fun K hK=>?_
 refine S.drawn [⟨13,.g (QV n2 q),[]⟩,⟨14,.g (QV n3 r),[]⟩,⟨15,.g (QC (n2 + n3 + 1) (q + r)),[0,1]⟩,⟨16,.g (QV n1 p),[]⟩,⟨17,.g (QV n4 s),[]⟩,⟨18,.g (QC (n1 + n4 + 1) (p + s)),[3,4]⟩,⟨19,.g (QC ((n2 + n3 + 1) + (n1 + n4 + 1) + 1) ((q + r) - (p + s))),[2,5]⟩,⟨9,.al mkP 24 (some 3) (MT.ex (.agg #[.bool false,.slice none 0 0,.slice none 0 0])),[]⟩] mixedOrders (by kernel_rfl)
  ⟨fun a w G S=>.of rfl (OpR.ldBox S.ok rfl (S.e 3 rfl) (S.box 2 rfl) tS_24),
   fun a w G S=>.of rfl (OpR.ldBox S.ok rfl (S.e 2 rfl) (S.box 1 rfl) tS_24),
   fun a w G S=>.of rfl (OpR.call2 rfl c_42 (fAdd_ok S.ok (S.g 0 rfl) (S.g 1 rfl) (by omega))),
   fun a w G S=>.of rfl (OpR.ldBox S.ok rfl (S.e 4 rfl) (S.box 3 rfl) tS_24),
   fun a w G S=>.of rfl (OpR.ldBox S.ok rfl (S.e 1 rfl) (S.box 0 rfl) tS_24),
   fun a w G S=>.of rfl (OpR.call2 rfl c_42 (fAdd_ok S.ok (S.g 0 rfl) (S.g 1 rfl) (by omega))),
   fun a w G S=>.of rfl (OpR.call2 rfl c_64 (fSub_ok S.ok (QC.toQV (S.g 0 rfl)) (QC.toQV (S.g 1 rfl)) (by omega))),
   ⟨fun _=>rfl,rfl,fun a w G S=>OpB.alloc S.ok rfl z_24 zs_24⟩,trivial⟩ fun β a w G S=>?_
 replace S : St W0 G0 53 [(9,PB (β 7)),(19,QC ((n2 + n3 + 1) + (n1 + n4 + 1) + 1) ((q + r) - (p + s))),(8,BT false),(7,PB b7),(6,PB b6),(5,PB b5),(4,PB b4)] [⟨(β 7),24,some 3,MT.ex ((.agg #[.bool false,.slice none 0 0,.slice none 0 0] : Value))⟩,⟨b7,24,some 3,QV n4 s⟩,⟨b6,24,some 3,QV n3 r⟩,⟨b5,24,some 3,QV n2 q⟩,⟨b4,24,some 3,QV n1 p⟩] a _ _:=S.keep [0,1,8,9,10,11,12]
 generalize β 7 = b9 at S
 refine S.store (τ:=QC ((n2 + n3 + 1) + (n1 + n4 + 1) + 1) ((q + r) - (p + s))) 0 rfl rfl rfl rfl (S.e 0 rfl) tS_24 (S.g 1 rfl) (sh (τ:=QC ((n2 + n3 + 1) + (n1 + n4 + 1) + 1) ((q + r) - (p + s))) (S.g 1 rfl)) fun w S=>?_
 replace S:=S.n0
 refine wn hK ?_;clear hK K
 replace S:=S.d1
 refine wp_reg fun K hK=>?_
 refine S.s (τ:=QC 64 2) (OpR.conv' (OpR.call1 rfl c_65 (fOf_ok S.ok ((rfl : _ = nv .i64 2).trans (iv_eq (by first | rfl | omega | (simp only [Nat.zero_add,Nat.add_zero];done) | (simp;done) | (push_cast;omega)))) (by omega))) fun _ _ h=>(QC.eq h (by rfl))) rfl fun a w G S=>?_
 refine S.alloc rfl rfl rfl z_24 zs_24 rfl rfl fun b10 a w G S=>?_
 refine S.store (τ:=QC 64 2) 0 rfl rfl rfl rfl (S.e 0 rfl) tS_24 (S.g 1 rfl) (sh (τ:=QC 64 2) (S.g 1 rfl)) fun w S=>?_
 replace S:=S.n0
 refine wn hK ?_;clear hK K
 replace S:=S.d1
 refine wp_seq_k fun K hK=>?_
 refine wp_seq_k fun K hK=>?_
 refine S.drawn [⟨21,.g (QC ((n2 + n3 + 1) + (n1 + n4 + 1) + 1) ((q + r) - (p + s))),[]⟩,⟨22,.g (QC 64 2),[]⟩,⟨23,.g (QV n2 q),[]⟩,⟨24,.g (QV n3 r),[]⟩,⟨25,.g (QC (n2 + n3) (q * r)),[2,3]⟩,⟨26,.g (IT (mixedF ((q + r) - (p + s)) 2 (q * r))),[0,1,4]⟩,⟨27,.g (BT (decide ((mixedF ((q + r) - (p + s)) 2 (q * r)) ≥ 0))),[5]⟩] mixedOrders (by kernel_rfl)
  ⟨fun a w G S=>.of rfl (OpR.ldBox S.ok rfl (S.e 1 rfl) (S.box 1 rfl) tS_24),
   fun a w G S=>.of rfl (OpR.ldBox S.ok rfl (S.e 0 rfl) (S.box 0 rfl) tS_24),
   fun a w G S=>.of rfl (OpR.ldBox S.ok rfl (S.e 5 rfl) (S.box 4 rfl) tS_24),
   fun a w G S=>.of rfl (OpR.ldBox S.ok rfl (S.e 4 rfl) (S.box 3 rfl) tS_24),
   fun a w G S=>.of rfl (OpR.call2 rfl c_67 (fMul_ok S.ok (S.g 0 rfl) (S.g 1 rfl) (by omega))),
   fun a w G S=>.of rfl (OpR.call3 rfl c_66 (xmixed_ok S.ok (QC.toQV (S.g 0 rfl)) (QC.toQV (S.g 1 rfl)) (QC.toQV (S.g 2 rfl)) (by omega))),
   fun a w G S=>.of rfl (OpR.igeq S.ok rfl (S.e 0 rfl) (rfl : _ = nv .i64 0) MT.self),trivial⟩ fun β a w G S=>?_
 replace S : St W0 G0 53 [(27,BT (decide ((mixedF ((q + r) - (p + s)) 2 (q * r)) ≥ 0))),(10,PB b10),(9,PB b9),(8,BT false),(7,PB b7),(6,PB b6),(5,PB b5),(4,PB b4)] [⟨b10,24,some 3,QC 64 2⟩,⟨b9,24,some 3,QC ((n2 + n3 + 1) + (n1 + n4 + 1) + 1) ((q + r) - (p + s))⟩,⟨b7,24,some 3,QV n4 s⟩,⟨b6,24,some 3,QV n3 r⟩,⟨b5,24,some 3,QV n2 q⟩,⟨b4,24,some 3,QV n1 p⟩] a _ _:=S.keep [0,7,8,9,10,11,12,13]
 refine wn hK ?_;clear hK K
 refine S.cond 0 rfl (fun hc1=>?_) (fun hc1=>?_)
 ·
  have hp2:=of_decide_eq_true hc1
  refine wp_reg fun K hK=>?_
  replace S:=S.d3
  refine S.s (τ:=BT true) (OpR.asn S.ok rfl rfl) rfl fun a w G S=>?_
  refine wn hK ?_;clear hK K
  exact wp_ret (then_ret (S.retTmp rfl ((S.e 0 rfl).trans (bv_eq (if_pos ‹_›).symm))))
 ·
  have hp3:=of_decide_eq_false hc1
  refine wp_skip ?_
  refine hK _ _ ?_;clear hK K
  refine wp_reg fun K hK=>?_
  refine S.s (τ:=QC 64 4) (OpR.conv' (OpR.call1 rfl c_65 (fOf_ok S.ok ((rfl : _ = nv .i64 4).trans (iv_eq (by first | rfl | omega | (simp only [Nat.zero_add,Nat.add_zero];done) | (simp;done) | (push_cast;omega)))) (by omega))) fun _ _ h=>(QC.eq h (by rfl))) rfl fun a w G S=>?_
  refine S.alloc rfl rfl rfl z_24 zs_24 rfl rfl fun b11 a w G S=>?_
  refine S.store (τ:=QC 64 4) 0 rfl rfl rfl rfl (S.e 0 rfl) tS_24 (S.g 1 rfl) (sh (τ:=QC 64 4) (S.g 1 rfl)) fun w S=>?_
  replace S:=S.n0
  refine wn hK ?_;clear hK K
  replace S:=S.d1
  refine wp_seq_k fun K hK=>?_
  refine S.drawn [⟨29,.g (QC ((n2 + n3 + 1) + (n1 + n4 + 1) + 1) ((q + r) - (p + s))),[]⟩,⟨30,.g (QC ((n2 + n3 + 1) + (n1 + n4 + 1) + 1) ((q + r) - (p + s))),[]⟩,⟨31,.g (QC (((n2 + n3 + 1) + (n1 + n4 + 1) + 1) + ((n2 + n3 + 1) + (n1 + n4 + 1) + 1)) (((q + r) - (p + s)) * ((q + r) - (p + s)))),[0,1]⟩,⟨32,.g (QC 64 4),[]⟩,⟨33,.g (QV n2 q),[]⟩,⟨34,.g (QV n3 r),[]⟩,⟨35,.g (QC (n2 + n3) (q * r)),[4,5]⟩,⟨36,.g (QC (64 + (n2 + n3)) (4 * (q * r))),[3,6]⟩,⟨37,.g (QC ((((n2 + n3 + 1) + (n1 + n4 + 1) + 1) + ((n2 + n3 + 1) + (n1 + n4 + 1) + 1)) + (64 + (n2 + n3)) + 1) ((((q + r) - (p + s)) * ((q + r) - (p + s))) + (4 * (q * r)))),[2,7]⟩,⟨38,.g (QC 64 4),[]⟩,⟨39,.g (QV n1 p),[]⟩,⟨40,.g (QV n4 s),[]⟩,⟨41,.g (QC (n1 + n4) (p * s)),[10,11]⟩,⟨42,.g (QC (64 + (n1 + n4)) (4 * (p * s))),[9,12]⟩,⟨43,.g (QC (((((n2 + n3 + 1) + (n1 + n4 + 1) + 1) + ((n2 + n3 + 1) + (n1 + n4 + 1) + 1)) + (64 + (n2 + n3)) + 1) + (64 + (n1 + n4)) + 1) (((((q + r) - (p + s)) * ((q + r) - (p + s))) + (4 * (q * r))) - (4 * (p * s)))),[8,13]⟩,⟨12,.al mkP 24 (some 3) (MT.ex (.agg #[.bool false,.slice none 0 0,.slice none 0 0])),[]⟩] mixedOrders (by kernel_rfl)
   ⟨fun a w G S=>.of rfl (OpR.ldBox S.ok rfl (S.e 3 rfl) (S.box 2 rfl) tS_24),
    fun a w G S=>.of rfl (OpR.ldBox S.ok rfl (S.e 3 rfl) (S.box 2 rfl) tS_24),
    fun a w G S=>.of rfl (OpR.call2 rfl c_67 (fMul_ok S.ok (QC.toQV (S.g 0 rfl)) (QC.toQV (S.g 1 rfl)) (by omega))),
    fun a w G S=>.of rfl (OpR.ldBox S.ok rfl (S.e 0 rfl) (S.box 0 rfl) tS_24),
    fun a w G S=>.of rfl (OpR.ldBox S.ok rfl (S.e 7 rfl) (S.box 5 rfl) tS_24),
    fun a w G S=>.of rfl (OpR.ldBox S.ok rfl (S.e 6 rfl) (S.box 4 rfl) tS_24),
    fun a w G S=>.of rfl (OpR.call2 rfl c_67 (fMul_ok S.ok (S.g 0 rfl) (S.g 1 rfl) (by omega))),
    fun a w G S=>.of rfl (OpR.call2 rfl c_67 (fMul_ok S.ok (QC.toQV (S.g 0 rfl)) (QC.toQV (S.g 1 rfl)) (by omega))),
    fun a w G S=>.of rfl (OpR.call2 rfl c_42 (fAdd_ok S.ok (QC.toQV (S.g 0 rfl)) (QC.toQV (S.g 1 rfl)) (by omega))),
    fun a w G S=>.of rfl (OpR.ldBox S.ok rfl (S.e 0 rfl) (S.box 0 rfl) tS_24),
    fun a w G S=>.of rfl (OpR.ldBox S.ok rfl (S.e 8 rfl) (S.box 6 rfl) tS_24),
    fun a w G S=>.of rfl (OpR.ldBox S.ok rfl (S.e 5 rfl) (S.box 3 rfl) tS_24),
    fun a w G S=>.of rfl (OpR.call2 rfl c_67 (fMul_ok S.ok (S.g 0 rfl) (S.g 1 rfl) (by omega))),
    fun a w G S=>.of rfl (OpR.call2 rfl c_67 (fMul_ok S.ok (QC.toQV (S.g 0 rfl)) (QC.toQV (S.g 1 rfl)) (by omega))),
    fun a w G S=>.of rfl (OpR.call2 rfl c_64 (fSub_ok S.ok (QC.toQV (S.g 0 rfl)) (QC.toQV (S.g 1 rfl)) (by omega))),
    ⟨fun _=>rfl,rfl,fun a w G S=>OpB.alloc S.ok rfl z_24 zs_24⟩,trivial⟩ fun β a w G S=>?_
  replace S : St W0 G0 53 [(12,PB (β 15)),(43,QC (((((n2 + n3 + 1) + (n1 + n4 + 1) + 1) + ((n2 + n3 + 1) + (n1 + n4 + 1) + 1)) + (64 + (n2 + n3)) + 1) + (64 + (n1 + n4)) + 1) (((((q + r) - (p + s)) * ((q + r) - (p + s))) + (4 * (q * r))) - (4 * (p * s)))),(11,PB b11),(27,BT (decide ((mixedF ((q + r) - (p + s)) 2 (q * r)) ≥ 0))),(10,PB b10),(9,PB b9),(8,BT false),(7,PB b7),(6,PB b6),(5,PB b5),(4,PB b4)] [⟨(β 15),24,some 3,MT.ex ((.agg #[.bool false,.slice none 0 0,.slice none 0 0] : Value))⟩,⟨b11,24,some 3,QC 64 4⟩,⟨b10,24,some 3,QC 64 2⟩,⟨b9,24,some 3,QC ((n2 + n3 + 1) + (n1 + n4 + 1) + 1) ((q + r) - (p + s))⟩,⟨b7,24,some 3,QV n4 s⟩,⟨b6,24,some 3,QV n3 r⟩,⟨b5,24,some 3,QV n2 q⟩,⟨b4,24,some 3,QV n1 p⟩] a _ _:=S.keep [0,1,16,17,18,19,20,21,22,23,24]
  generalize β 15 = b12 at S
  refine S.store (τ:=QC (((((n2 + n3 + 1) + (n1 + n4 + 1) + 1) + ((n2 + n3 + 1) + (n1 + n4 + 1) + 1)) + (64 + (n2 + n3)) + 1) + (64 + (n1 + n4)) + 1) (((((q + r) - (p + s)) * ((q + r) - (p + s))) + (4 * (q * r))) - (4 * (p * s)))) 0 rfl rfl rfl rfl (S.e 0 rfl) tS_24 (S.g 1 rfl) (sh (τ:=QC (((((n2 + n3 + 1) + (n1 + n4 + 1) + 1) + ((n2 + n3 + 1) + (n1 + n4 + 1) + 1)) + (64 + (n2 + n3)) + 1) + (64 + (n1 + n4)) + 1) (((((q + r) - (p + s)) * ((q + r) - (p + s))) + (4 * (q * r))) - (4 * (p * s)))) (S.g 1 rfl)) fun w S=>?_
  replace S:=S.n0
  refine wn hK ?_;clear hK K
  replace S:=S.d1
  refine wp_seq_k fun K hK=>?_
  replace S:=S.d5
  refine S.drawn [⟨44,.g (QC (((((n2 + n3 + 1) + (n1 + n4 + 1) + 1) + ((n2 + n3 + 1) + (n1 + n4 + 1) + 1)) + (64 + (n2 + n3)) + 1) + (64 + (n1 + n4)) + 1) (((((q + r) - (p + s)) * ((q + r) - (p + s))) + (4 * (q * r))) - (4 * (p * s)))),[]⟩,⟨45,.g (QC 64 4),[]⟩,⟨46,.g (QC ((n2 + n3 + 1) + (n1 + n4 + 1) + 1) ((q + r) - (p + s))),[]⟩,⟨47,.g (QC (64 + ((n2 + n3 + 1) + (n1 + n4 + 1) + 1)) (4 * ((q + r) - (p + s)))),[1,2]⟩,⟨48,.g (QV n2 q),[]⟩,⟨49,.g (QV n3 r),[]⟩,⟨50,.g (QC (n2 + n3) (q * r)),[4,5]⟩,⟨51,.g (IT (mixedF (((((q + r) - (p + s)) * ((q + r) - (p + s))) + (4 * (q * r))) - (4 * (p * s))) (4 * ((q + r) - (p + s))) (q * r))),[0,3,6]⟩,⟨52,.g (BT (decide ((mixedF (((((q + r) - (p + s)) * ((q + r) - (p + s))) + (4 * (q * r))) - (4 * (p * s))) (4 * ((q + r) - (p + s))) (q * r)) ≤ 0))),[7]⟩,⟨8,.g (BT (decide ((mixedF (((((q + r) - (p + s)) * ((q + r) - (p + s))) + (4 * (q * r))) - (4 * (p * s))) (4 * ((q + r) - (p + s))) (q * r)) ≤ 0))),[8]⟩] mixedOrders (by kernel_rfl)
   ⟨fun a w G S=>.of rfl (OpR.ldBox S.ok rfl (S.e 0 rfl) (S.box 0 rfl) tS_24),
    fun a w G S=>.of rfl (OpR.ldBox S.ok rfl (S.e 1 rfl) (S.box 1 rfl) tS_24),
    fun a w G S=>.of rfl (OpR.ldBox S.ok rfl (S.e 4 rfl) (S.box 3 rfl) tS_24),
    fun a w G S=>.of rfl (OpR.call2 rfl c_67 (fMul_ok S.ok (QC.toQV (S.g 0 rfl)) (QC.toQV (S.g 1 rfl)) (by omega))),
    fun a w G S=>.of rfl (OpR.ldBox S.ok rfl (S.e 7 rfl) (S.box 6 rfl) tS_24),
    fun a w G S=>.of rfl (OpR.ldBox S.ok rfl (S.e 6 rfl) (S.box 5 rfl) tS_24),
    fun a w G S=>.of rfl (OpR.call2 rfl c_67 (fMul_ok S.ok (S.g 0 rfl) (S.g 1 rfl) (by omega))),
    fun a w G S=>.of rfl (OpR.call3 rfl c_66 (xmixed_ok S.ok (QC.toQV (S.g 0 rfl)) (QC.toQV (S.g 1 rfl)) (QC.toQV (S.g 2 rfl)) (by omega))),
    fun a w G S=>.of rfl (OpR.ileq S.ok rfl (S.e 0 rfl) (rfl : _ = nv .i64 0) MT.self),
    fun a w G S=>.of rfl (OpR.asn S.ok rfl (S.g 0 rfl)),trivial⟩ fun β a w G S=>?_
  replace S : St W0 G0 53 [(8,BT (decide ((mixedF (((((q + r) - (p + s)) * ((q + r) - (p + s))) + (4 * (q * r))) - (4 * (p * s))) (4 * ((q + r) - (p + s))) (q * r)) ≤ 0))),(12,PB b12),(11,PB b11),(27,BT (decide ((mixedF ((q + r) - (p + s)) 2 (q * r)) ≥ 0))),(10,PB b10),(9,PB b9),(7,PB b7),(6,PB b6),(5,PB b5),(4,PB b4)] [⟨b12,24,some 3,QC (((((n2 + n3 + 1) + (n1 + n4 + 1) + 1) + ((n2 + n3 + 1) + (n1 + n4 + 1) + 1)) + (64 + (n2 + n3)) + 1) + (64 + (n1 + n4)) + 1) (((((q + r) - (p + s)) * ((q + r) - (p + s))) + (4 * (q * r))) - (4 * (p * s)))⟩,⟨b11,24,some 3,QC 64 4⟩,⟨b10,24,some 3,QC 64 2⟩,⟨b9,24,some 3,QC ((n2 + n3 + 1) + (n1 + n4 + 1) + 1) ((q + r) - (p + s))⟩,⟨b7,24,some 3,QV n4 s⟩,⟨b6,24,some 3,QV n3 r⟩,⟨b5,24,some 3,QV n2 q⟩,⟨b4,24,some 3,QV n1 p⟩] a _ _:=S.keep [0,10,11,12,13,14,15,16,17,18]
  refine wn hK ?_;clear hK K
  exact wp_ret (S.retTmp rfl ((S.e 0 rfl).trans (bv_eq (if_neg ‹_›).symm)))
theorem xCheck_ok {n : Nat} {rg ra rb rc : FR} {v1 : Value} {W0 : World} {G0 : Gh} (hok : Gok W0 G0) (h1 : (PTS [(some 3,FX n rg),(some 3,FX n ra),(some 3,FX n rb),(some 3,FX n rc)]).t v1 G0) (hn : 1000 * n + 1000 ≤ BIG) (hn1 : 1 ≤ n) : Calls Tryz.prog 11 #[v1] W0 (Ret W0 G0 (MT.ex (errV 43 (chkF [rg,ra,rb,rc])))):=by
 refine St.enter (N:=53) (L:=[(0,PTS [(some 3,FX n rg),(some 3,FX n ra),(some 3,FX n rb),(some 3,FX n rc)])]) (args:=[v1]) Tryz.func11 rfl rfl rfl hok (enter1 h1) fun a S=>?_
 refine wp_reg fun K hK=>?_
 refine S.boxop (x:=.tmp 0) (τ:=PTS [(some 3,FX n rg),(some 3,FX n ra),(some 3,FX n rb),(some 3,FX n rc)]) (S.g 0 rfl) (sh (τ:=PTS [(some 3,FX n rg),(some 3,FX n ra),(some 3,FX n rb),(some 3,FX n rc)]) (S.g 0 rfl)) rfl rfl rfl rfl rfl fun b1 a w G S=>?_
 refine S.s (τ:=MT.ex (Value.nilIface)) (OpR.asn S.ok rfl rfl) rfl fun a w G S=>?_
 refine wn hK ?_;clear hK K
 replace S:=S.d2
 refine wp_reg fun K hK=>?_
 refine S.s (OpR.ldBox S.ok rfl (S.e 1 rfl) (S.box 0 rfl) tS_26) rfl fun a w G S=>?_
 refine S.s (τ:=LS (some 3) (([rg,ra,rb,rc]).map (FX n))) (OpR.call1 rfl c_27 (xlist_ok S.ok (S.g 0 rfl) (by omega) (by omega))) rfl fun a w G S=>?_
 refine S.q rfl (S.g 0 rfl) rfl fun a w G S=>?_
 refine wn hK ?_;clear hK K
 replace S:=S.d4.d2.d1
 refine wp_seq_k fun K hK=>?_
 refine wp_reg fun K hK=>?_
 refine S.m rfl (S.g 0 rfl) rfl fun a w G S=>?_
 refine S.s (τ:=NT 4) (OpR.lenM S.ok rfl Tryz.underlying48 (S.g 0 rfl) rfl) rfl fun a w G S=>?_
 refine S.s (τ:=NT 0) (OpR.mv S.ok rfl (rfl : _ = nv .i64 0)) rfl fun a w G S=>?_
 refine wn hK ?_;clear hK K
 refine wp_block ?_
 refine wp_loopJ (fun μ a w=>∃ (j : Nat) (G : Gh),μ = 4 - j ∧ (j ≤ 4) ∧ (([rg,ra,rb,rc].take j).all posR = true) ∧  St W0 G0 53 [(11,NT j),(10,NT 4),(9,LS (some 3) (([rg,ra,rb,rc]).map (FX n))),(3,LS (some 3) (([rg,ra,rb,rc]).map (FX n))),(2,MT.ex (Value.nilIface))] [⟨b1,26,some 12,PTS [(some 3,FX n rg),(some 3,FX n ra),(some 3,FX n rb),(some 3,FX n rc)]⟩] a w G) (4 - 0) ⟨0,_,rfl,(by omega),rfl,(S.keep [0,1,2,3,4]).keepB [0] (by decide)⟩ ?_
 clear S
 intro μ a w ⟨j,G,hm,hj,hg,S⟩
 refine wp_reg fun K hK=>?_
 refine S.s (OpR.nlss S.ok rfl (S.e 0 rfl) (S.e 1 rfl) MT.self) rfl fun a w G S=>?_
 refine wn hK ?_;clear hK K
 refine wp_seq_k fun K hK=>?_
 refine S.cond 0 rfl (fun hc1=>?_) (fun hc1=>?_)
 ·
  have hp2:=of_decide_eq_true hc1
  refine wp_skip ?_
  refine hK _ _ ?_;clear hK K
  refine wp_seq_k fun K hK=>?_
  refine wp_block ?_
  refine wp_reg fun K hK=>?_
  refine S.s (τ:=PE (some 3) (FX n (([rg,ra,rb,rc]).getD j default))) (OpR.ixM (T:=(FX n)) (xs:=[rg,ra,rb,rc]) (i:=j) S.ok rfl Tryz.underlying48 tS_24 (S.g 3 rfl) (S.e 1 rfl) rfl (by first | omega | (simp;omega))) rfl fun a w G S=>?_
  refine S.s (OpR.ldE S.ok rfl tS_24 (S.g 0 rfl)) rfl fun a w G S=>?_
  refine S.alloc rfl rfl rfl z_24 zs_24 rfl rfl fun b5 a w G S=>?_
  refine S.store (τ:=FX n (([rg,ra,rb,rc]).getD j default)) 0 rfl rfl rfl rfl (S.e 0 rfl) tS_24 (S.g 1 rfl) (sh (τ:=FX n (([rg,ra,rb,rc]).getD j default)) (S.g 1 rfl)) fun w S=>?_
  replace S:=S.n0
  refine wn hK ?_;clear hK K
  replace S:=S.d2.d1
  refine wp_reg fun K hK=>?_
  refine S.s (OpR.ldBox S.ok rfl (S.e 0 rfl) (S.box 0 rfl) tS_24) rfl fun a w G S=>?_
  refine S.s (τ:=BT ((([rg,ra,rb,rc]).getD j default).ok)) (OpR.call1 rfl c_35 (fValidX_ok S.ok (S.g 0 rfl) (by omega))) rfl fun a w G S=>?_
  refine S.s (OpR.bnot S.ok rfl (S.e 0 rfl) MT.self) rfl fun a w G S=>?_
  refine S.m rfl (S.g 0 rfl) rfl fun a w G S=>?_
  rcases Bool.eq_false_or_eq_true (!((([rg,ra,rb,rc]).getD j default).ok)) with hc3 | hc3
  ·
   replace S:=S.boolIs 0 rfl hc3
   refine S.skipG 0 rfl rfl rfl rfl rfl rfl fun a w G S=>?_
   refine S.skipG 1 rfl rfl rfl rfl rfl rfl fun a w G S=>?_
   refine S.skipG 2 rfl rfl rfl rfl rfl rfl fun a w G S=>?_
   refine S.s (τ:=BT true) (OpR.pick S.ok rfl (S.e 3 rfl) rfl) rfl fun a w G S=>?_
   refine wn hK ?_;clear hK K
   replace S:=S.d8.d7.d6.d5.d4.d3.d2.d1
   refine wp_cond_true (S.e 0 rfl) ?_
   refine wp_reg fun K hK=>?_
   refine S.s (OpR.mkI S.ok rfl ni_43 (rfl : _ = nv .i64 3) MT.self) rfl fun a w G S=>?_
   replace S:=S.d8
   refine S.q rfl (S.g 0 rfl) rfl fun a w G S=>?_
   refine wn hK ?_;clear hK K
   replace S:=S.d1
   exact wp_ret (block_ret (then_ret (then_ret (block_ret (then_ret (S.retTmp rfl ((S.e 0 rfl).trans (by first | exact errV_ne (chk3 (all_not (show j < 4 by omega) (by first | exact posR_not1 (not_true_of ‹_›) | exact posR_not2 ‹_›))) (by decide) | exact errV_z (chk0 (all_end (show ¬ j < 4 by omega) hg) hcl) | exact errV_ne (chk16 (all_end (show ¬ j < 4 by omega) hg) hcl) (by decide)))))))))
  ·
   replace S:=S.boolIs 0 rfl hc3
   refine S.stepG 0 (OpR.ldBox S.ok rfl (S.e 5 rfl) (S.box 0 rfl) tS_24) rfl rfl rfl rfl rfl rfl fun a w G S=>?_
   refine S.stepG (τ:=IT (((([rg,ra,rb,rc]).getD j default).val).num.sign)) 1 (OpR.call1 rfl c_36 (fSign_ok S.ok (FX.toQV (S.g 0 rfl)) (by omega))) rfl rfl rfl rfl rfl rfl fun a w G S=>?_
   refine S.stepG 2 (OpR.ileq S.ok rfl (S.e 0 rfl) (rfl : _ = nv .i64 0) MT.self) rfl rfl rfl rfl rfl rfl fun a w G S=>?_
   refine S.s (τ:=BT (decide ((((([rg,ra,rb,rc]).getD j default).val).num.sign) ≤ 0))) (OpR.pick S.ok rfl (S.e 3 rfl) (S.g 0 rfl)) rfl fun a w G S=>?_
   refine wn hK ?_;clear hK K
   replace S:=S.d8.d7.d6.d5.d4.d3.d2.d1
   refine S.cond 0 rfl (fun hc6=>?_) (fun hc6=>?_)
   ·
    have hp7:=of_decide_eq_true hc6
    refine wp_reg fun K hK=>?_
    refine S.s (OpR.mkI S.ok rfl ni_43 (rfl : _ = nv .i64 3) MT.self) rfl fun a w G S=>?_
    replace S:=S.d8
    refine S.q rfl (S.g 0 rfl) rfl fun a w G S=>?_
    refine wn hK ?_;clear hK K
    replace S:=S.d1
    exact wp_ret (block_ret (then_ret (then_ret (block_ret (then_ret (S.retTmp rfl ((S.e 0 rfl).trans (by first | exact errV_ne (chk3 (all_not (show j < 4 by omega) (by first | exact posR_not1 (not_true_of ‹_›) | exact posR_not2 ‹_›))) (by decide) | exact errV_z (chk0 (all_end (show ¬ j < 4 by omega) hg) hcl) | exact errV_ne (chk16 (all_end (show ¬ j < 4 by omega) hg) hcl) (by decide)))))))))
   ·
    have hp8:=of_decide_eq_false hc6
    refine wp_skip ?_
    refine hK _ _ ?_;clear hK K
    refine wp_region_lit ?_
    refine S.s (OpR.nadd S.ok rfl (S.e 3 rfl) (rfl : _ = nv .i64 1) (wr_i64 (by omega)) MT.self) rfl fun a w G S=>?_
    replace S:=S.d4
    refine S.m rfl (S.g 0 rfl) rfl fun a w G S=>?_
    refine wpList_nil ?_
    replace S:=S.d1
    exact ⟨4 - (j + 1),(by omega),j + 1,_,rfl,(by omega),(all_snoc (show j < 4 by omega) hg (posR_of (not_false_of ‹_›) ‹_›)),(S.keep [0,4,5,6,7]).keepB [1] (by decide)⟩
 ·
  have hp9:=of_decide_eq_false hc1
  refine wp_exit (then_exit (then_exit (exit_same ?_)))
  clear hK K
  refine hK _ _ ?_;clear hK K
  refine wp_reg fun K hK=>?_
  refine S.m rfl (S.g 4 rfl) rfl fun a w G S=>?_
  refine S.s (τ:=LS (none) ((orderF (([rg,ra,rb,rc]).map FR.val)).map NT)) (OpR.call1 rfl c_26 (xorder_ok S.ok (LS.convM (T:=(FX n)) (U:=(QV n)) (f:=FR.val) (S.g 0 rfl) (by first | rfl | (simp;done)) fun z_ _ _ _ h=>(QV.eq (FX.toQV h) (by first | rfl | omega | (simp only [Nat.zero_add,Nat.add_zero];done) | (simp;done) | (push_cast;omega)))) rfl (by omega))) rfl fun a w G S=>?_
  refine S.q rfl (S.g 0 rfl) rfl fun a w G S=>?_
  refine wn hK ?_;clear hK K
  replace S:=S.d2.d1
  refine wp_seq_k fun K hK=>?_
  refine wp_seq_k fun K hK=>?_
  have ho0:=orderF_lt ([rg,ra,rb,rc].map FR.val) 0
  have ho1:=orderF_lt ([rg,ra,rb,rc].map FR.val) 1
  have ho2:=orderF_lt ([rg,ra,rb,rc].map FR.val) 2
  have ho3:=orderF_lt ([rg,ra,rb,rc].map FR.val) 3
  have hol:=orderF_len ([rg,ra,rb,rc].map FR.val)
  refine S.drawn [⟨27,.g (LS (some 3) (([rg,ra,rb,rc]).map (FX n))),[]⟩,⟨28,.g (LS (none) ((orderF (([rg,ra,rb,rc]).map FR.val)).map NT)),[]⟩,⟨29,.g (PE (none) (NT ((orderF (([rg,ra,rb,rc]).map FR.val)).getD 3 default))),[1]⟩,⟨30,.g (NT ((orderF (([rg,ra,rb,rc]).map FR.val)).getD 3 default)),[2]⟩,⟨31,.g (PE (some 3) (FX n (([rg,ra,rb,rc]).getD ((orderF (([rg,ra,rb,rc]).map FR.val)).getD 3 default) default))),[0,3]⟩,⟨32,.g (FX n (([rg,ra,rb,rc]).getD ((orderF (([rg,ra,rb,rc]).map FR.val)).getD 3 default) default)),[4]⟩,⟨33,.g (LS (some 3) (([rg,ra,rb,rc]).map (FX n))),[]⟩,⟨34,.g (LS (none) ((orderF (([rg,ra,rb,rc]).map FR.val)).map NT)),[]⟩,⟨35,.g (PE (none) (NT ((orderF (([rg,ra,rb,rc]).map FR.val)).getD 0 default))),[7]⟩,⟨36,.g (NT ((orderF (([rg,ra,rb,rc]).map FR.val)).getD 0 default)),[8]⟩,⟨37,.g (PE (some 3) (FX n (([rg,ra,rb,rc]).getD ((orderF (([rg,ra,rb,rc]).map FR.val)).getD 0 default) default))),[6,9]⟩,⟨38,.g (FX n (([rg,ra,rb,rc]).getD ((orderF (([rg,ra,rb,rc]).map FR.val)).getD 0 default) default)),[10]⟩,⟨39,.g (LS (some 3) (([rg,ra,rb,rc]).map (FX n))),[]⟩,⟨40,.g (LS (none) ((orderF (([rg,ra,rb,rc]).map FR.val)).map NT)),[]⟩,⟨41,.g (PE (none) (NT ((orderF (([rg,ra,rb,rc]).map FR.val)).getD 1 default))),[13]⟩,⟨42,.g (NT ((orderF (([rg,ra,rb,rc]).map FR.val)).getD 1 default)),[14]⟩,⟨43,.g (PE (some 3) (FX n (([rg,ra,rb,rc]).getD ((orderF (([rg,ra,rb,rc]).map FR.val)).getD 1 default) default))),[12,15]⟩,⟨44,.g (FX n (([rg,ra,rb,rc]).getD ((orderF (([rg,ra,rb,rc]).map FR.val)).getD 1 default) default)),[16]⟩,⟨45,.g (LS (some 3) (([rg,ra,rb,rc]).map (FX n))),[]⟩,⟨46,.g (LS (none) ((orderF (([rg,ra,rb,rc]).map FR.val)).map NT)),[]⟩,⟨47,.g (PE (none) (NT ((orderF (([rg,ra,rb,rc]).map FR.val)).getD 2 default))),[19]⟩,⟨48,.g (NT ((orderF (([rg,ra,rb,rc]).map FR.val)).getD 2 default)),[20]⟩,⟨49,.g (PE (some 3) (FX n (([rg,ra,rb,rc]).getD ((orderF (([rg,ra,rb,rc]).map FR.val)).getD 2 default) default))),[18,21]⟩,⟨50,.g (FX n (([rg,ra,rb,rc]).getD ((orderF (([rg,ra,rb,rc]).map FR.val)).getD 2 default) default)),[22]⟩,⟨51,.g (BT (closesF (lk [rg,ra,rb,rc] 3) (lk [rg,ra,rb,rc] 0) (lk [rg,ra,rb,rc] 1) (lk [rg,ra,rb,rc] 2))),[5,11,17,23]⟩] mixedOrders (by kernel_rfl)
   ⟨fun a w G S=>.of rfl (OpR.mv S.ok rfl (S.g 5 rfl)),
    fun a w G S=>.of rfl (OpR.mv S.ok rfl (S.g 0 rfl)),
    fun a w G S=>.of rfl (OpR.ixM (T:=NT) (xs:=orderF (([rg,ra,rb,rc]).map FR.val)) (i:=3) S.ok rfl Tryz.underlying52 tS_3 (S.g 0 rfl) (rfl : _ = nv .i64 3) rfl (by rw [hol];decide)),
    fun a w G S=>.of rfl (OpR.ldE S.ok rfl tS_3 (S.g 0 rfl)),
    fun a w G S=>.of rfl (OpR.ixM (T:=(FX n)) (xs:=[rg,ra,rb,rc]) (i:=(orderF (([rg,ra,rb,rc]).map FR.val)).getD 3 default) S.ok rfl Tryz.underlying48 tS_24 (S.g 0 rfl) (S.e 1 rfl) rfl (show _ < 4 by omega)),
    fun a w G S=>.of rfl (OpR.ldE S.ok rfl tS_24 (S.g 0 rfl)),
    fun a w G S=>.of rfl (OpR.mv S.ok rfl (S.g 5 rfl)),
    fun a w G S=>.of rfl (OpR.mv S.ok rfl (S.g 0 rfl)),
    fun a w G S=>.of rfl (OpR.ixM (T:=NT) (xs:=orderF (([rg,ra,rb,rc]).map FR.val)) (i:=0) S.ok rfl Tryz.underlying52 tS_3 (S.g 0 rfl) (rfl : _ = nv .i64 0) rfl (by rw [hol];decide)),
    fun a w G S=>.of rfl (OpR.ldE S.ok rfl tS_3 (S.g 0 rfl)),
    fun a w G S=>.of rfl (OpR.ixM (T:=(FX n)) (xs:=[rg,ra,rb,rc]) (i:=(orderF (([rg,ra,rb,rc]).map FR.val)).getD 0 default) S.ok rfl Tryz.underlying48 tS_24 (S.g 0 rfl) (S.e 1 rfl) rfl (show _ < 4 by omega)),
    fun a w G S=>.of rfl (OpR.ldE S.ok rfl tS_24 (S.g 0 rfl)),
    fun a w G S=>.of rfl (OpR.mv S.ok rfl (S.g 5 rfl)),
    fun a w G S=>.of rfl (OpR.mv S.ok rfl (S.g 0 rfl)),
    fun a w G S=>.of rfl (OpR.ixM (T:=NT) (xs:=orderF (([rg,ra,rb,rc]).map FR.val)) (i:=1) S.ok rfl Tryz.underlying52 tS_3 (S.g 0 rfl) (rfl : _ = nv .i64 1) rfl (by rw [hol];decide)),
    fun a w G S=>.of rfl (OpR.ldE S.ok rfl tS_3 (S.g 0 rfl)),
    fun a w G S=>.of rfl (OpR.ixM (T:=(FX n)) (xs:=[rg,ra,rb,rc]) (i:=(orderF (([rg,ra,rb,rc]).map FR.val)).getD 1 default) S.ok rfl Tryz.underlying48 tS_24 (S.g 0 rfl) (S.e 1 rfl) rfl (show _ < 4 by omega)),
    fun a w G S=>.of rfl (OpR.ldE S.ok rfl tS_24 (S.g 0 rfl)),
    fun a w G S=>.of rfl (OpR.mv S.ok rfl (S.g 5 rfl)),
    fun a w G S=>.of rfl (OpR.mv S.ok rfl (S.g 0 rfl)),
    fun a w G S=>.of rfl (OpR.ixM (T:=NT) (xs:=orderF (([rg,ra,rb,rc]).map FR.val)) (i:=2) S.ok rfl Tryz.underlying52 tS_3 (S.g 0 rfl) (rfl : _ = nv .i64 2) rfl (by rw [hol];decide)),
    fun a w G S=>.of rfl (OpR.ldE S.ok rfl tS_3 (S.g 0 rfl)),
    fun a w G S=>.of rfl (OpR.ixM (T:=(FX n)) (xs:=[rg,ra,rb,rc]) (i:=(orderF (([rg,ra,rb,rc]).map FR.val)).getD 2 default) S.ok rfl Tryz.underlying48 tS_24 (S.g 0 rfl) (S.e 1 rfl) rfl (show _ < 4 by omega)),
    fun a w G S=>.of rfl (OpR.ldE S.ok rfl tS_24 (S.g 0 rfl)),
    fun a w G S=>.of rfl (OpR.conv' (OpR.call4 rfl c_37 (xcloses_ok S.ok (FX.toQV (S.g 0 rfl)) (FX.toQV (S.g 1 rfl)) (FX.toQV (S.g 2 rfl)) (FX.toQV (S.g 3 rfl)) (by omega))) fun _ _ h=>h),trivial⟩ fun β a w G S=>?_
  replace S : St W0 G0 53 [(51,BT (closesF (lk [rg,ra,rb,rc] 3) (lk [rg,ra,rb,rc] 0) (lk [rg,ra,rb,rc] 1) (lk [rg,ra,rb,rc] 2))),(12,BT (decide (j < 4))),(11,NT j),(10,NT 4),(9,LS (some 3) (([rg,ra,rb,rc]).map (FX n))),(3,LS (some 3) (([rg,ra,rb,rc]).map (FX n))),(2,MT.ex (Value.nilIface))] [⟨b1,26,some 12,PTS [(some 3,FX n rg),(some 3,FX n ra),(some 3,FX n rb),(some 3,FX n rc)]⟩] a _ _:=S.keep [0,26,27,28,29,30,31]
  refine wn hK ?_;clear hK K
  refine S.cond 0 rfl (fun hc10=>?_) (fun hc10=>?_)
  ·
   have hcl:=hc10
   refine wp_reg fun K hK=>?_
   replace S:=S.d6
   refine S.s (τ:=MT.ex (Value.nilIface)) (OpR.asn S.ok rfl rfl) rfl fun a w G S=>?_
   refine wn hK ?_;clear hK K
   exact wp_ret (then_ret (S.retTmp rfl ((S.e 0 rfl).trans (by first | exact errV_ne (chk3 (all_not (show j < 4 by omega) (by first | exact posR_not1 (not_true_of ‹_›) | exact posR_not2 ‹_›))) (by decide) | exact errV_z (chk0 (all_end (show ¬ j < 4 by omega) hg) hcl) | exact errV_ne (chk16 (all_end (show ¬ j < 4 by omega) hg) hcl) (by decide)))))
  ·
   have hcl:=hc10
   refine wp_skip ?_
   refine hK _ _ ?_;clear hK K
   refine wp_reg fun K hK=>?_
   refine S.s (OpR.mkI S.ok rfl ni_43 (rfl : _ = nv .i64 16) MT.self) rfl fun a w G S=>?_
   replace S:=S.d7
   refine S.q rfl (S.g 0 rfl) rfl fun a w G S=>?_
   refine wn hK ?_;clear hK K
   replace S:=S.d1
   exact wp_ret (S.retTmp rfl ((S.e 0 rfl).trans (by first | exact errV_ne (chk3 (all_not (show j < 4 by omega) (by first | exact posR_not1 (not_true_of ‹_›) | exact posR_not2 ‹_›))) (by decide) | exact errV_z (chk0 (all_end (show ¬ j < 4 by omega) hg) hcl) | exact errV_ne (chk16 (all_end (show ¬ j < 4 by omega) hg) hcl) (by decide))))
theorem xexcess_ok {n : Nat} {rg ra rb rc : FR} {v1 : Value} {W0 : World} {G0 : Gh} (hok : Gok W0 G0) (h1 : (PTS [(some 3,FX n rg),(some 3,FX n ra),(some 3,FX n rb),(some 3,FX n rc)]).t v1 G0) (hn : 1000 * n + 1000 ≤ BIG) (hn1 : 1 ≤ n) : Calls Tryz.prog 25 #[v1] W0 (Ret W0 G0 (IT (excF [rg,ra,rb,rc]))):=by
 refine St.enter (N:=36) (L:=[(0,PTS [(some 3,FX n rg),(some 3,FX n ra),(some 3,FX n rb),(some 3,FX n rc)])]) (args:=[v1]) Tryz.func25 rfl rfl rfl hok (enter1 h1) fun a S=>?_
 refine wp_reg fun K hK=>?_
 refine S.boxop (x:=.tmp 0) (τ:=PTS [(some 3,FX n rg),(some 3,FX n ra),(some 3,FX n rb),(some 3,FX n rc)]) (S.g 0 rfl) (sh (τ:=PTS [(some 3,FX n rg),(some 3,FX n ra),(some 3,FX n rb),(some 3,FX n rc)]) (S.g 0 rfl)) rfl rfl rfl rfl rfl fun b1 a w G S=>?_
 refine S.s (τ:=NT 0) (OpR.asn S.ok rfl (rfl : _ = nv .i64 0)) rfl fun a w G S=>?_
 refine wn hK ?_;clear hK K
 replace S:=S.d2
 refine wp_reg fun K hK=>?_
 refine S.s (OpR.ldBox S.ok rfl (S.e 1 rfl) (S.box 0 rfl) tS_26) rfl fun a w G S=>?_
 refine S.s (τ:=LS (some 3) (([rg,ra,rb,rc]).map (FX n))) (OpR.call1 rfl c_27 (xlist_ok S.ok (S.g 0 rfl) (by omega) (by omega))) rfl fun a w G S=>?_
 refine S.q rfl (S.g 0 rfl) rfl fun a w G S=>?_
 refine wn hK ?_;clear hK K
 replace S:=S.d4.d2.d1
 refine wp_reg fun K hK=>?_
 refine S.m rfl (S.g 0 rfl) rfl fun a w G S=>?_
 refine S.s (τ:=LS (none) ((orderF (([rg,ra,rb,rc]).map FR.val)).map NT)) (OpR.call1 rfl c_26 (xorder_ok S.ok (LS.convM (T:=(FX n)) (U:=(QV n)) (f:=FR.val) (S.g 0 rfl) (by first | rfl | (simp;done)) fun z_ _ _ _ h=>(QV.eq (FX.toQV h) (by first | rfl | omega | (simp only [Nat.zero_add,Nat.add_zero];done) | (simp;done) | (push_cast;omega)))) rfl (by omega))) rfl fun a w G S=>?_
 refine S.q rfl (S.g 0 rfl) rfl fun a w G S=>?_
 refine wn hK ?_;clear hK K
 replace S:=S.d2.d1
 refine wp_seq_k fun K hK=>?_
 have ho0:=orderF_lt ([rg,ra,rb,rc].map FR.val) 0
 have ho1:=orderF_lt ([rg,ra,rb,rc].map FR.val) 1
 have ho2:=orderF_lt ([rg,ra,rb,rc].map FR.val) 2
 have ho3:=orderF_lt ([rg,ra,rb,rc].map FR.val) 3
 have hol:=orderF_len ([rg,ra,rb,rc].map FR.val)
 replace S:=S.d2
 refine S.drawn [⟨9,.g (LS (some 3) (([rg,ra,rb,rc]).map (FX n))),[]⟩,⟨10,.g (LS (none) ((orderF (([rg,ra,rb,rc]).map FR.val)).map NT)),[]⟩,⟨11,.g (PE (none) (NT ((orderF (([rg,ra,rb,rc]).map FR.val)).getD 0 default))),[1]⟩,⟨12,.g (NT ((orderF (([rg,ra,rb,rc]).map FR.val)).getD 0 default)),[2]⟩,⟨13,.g (PE (some 3) (FX n (([rg,ra,rb,rc]).getD ((orderF (([rg,ra,rb,rc]).map FR.val)).getD 0 default) default))),[0,3]⟩,⟨14,.g (FX n (([rg,ra,rb,rc]).getD ((orderF (([rg,ra,rb,rc]).map FR.val)).getD 0 default) default)),[4]⟩,⟨15,.g (LS (some 3) (([rg,ra,rb,rc]).map (FX n))),[]⟩,⟨16,.g (LS (none) ((orderF (([rg,ra,rb,rc]).map FR.val)).map NT)),[]⟩,⟨17,.g (PE (none) (NT ((orderF (([rg,ra,rb,rc]).map FR.val)).getD 3 default))),[7]⟩,⟨18,.g (NT ((orderF (([rg,ra,rb,rc]).map FR.val)).getD 3 default)),[8]⟩,⟨19,.g (PE (some 3) (FX n (([rg,ra,rb,rc]).getD ((orderF (([rg,ra,rb,rc]).map FR.val)).getD 3 default) default))),[6,9]⟩,⟨20,.g (FX n (([rg,ra,rb,rc]).getD ((orderF (([rg,ra,rb,rc]).map FR.val)).getD 3 default) default)),[10]⟩,⟨21,.g (LS (some 3) (([(([rg,ra,rb,rc]).getD ((orderF (([rg,ra,rb,rc]).map FR.val)).getD 0 default) default).val,(([rg,ra,rb,rc]).getD ((orderF (([rg,ra,rb,rc]).map FR.val)).getD 3 default) default).val]).map (QV n))),[5,11]⟩,⟨22,.g (LS (some 3) (([rg,ra,rb,rc]).map (FX n))),[]⟩,⟨23,.g (LS (none) ((orderF (([rg,ra,rb,rc]).map FR.val)).map NT)),[]⟩,⟨24,.g (PE (none) (NT ((orderF (([rg,ra,rb,rc]).map FR.val)).getD 1 default))),[14]⟩,⟨25,.g (NT ((orderF (([rg,ra,rb,rc]).map FR.val)).getD 1 default)),[15]⟩,⟨26,.g (PE (some 3) (FX n (([rg,ra,rb,rc]).getD ((orderF (([rg,ra,rb,rc]).map FR.val)).getD 1 default) default))),[13,16]⟩,⟨27,.g (FX n (([rg,ra,rb,rc]).getD ((orderF (([rg,ra,rb,rc]).map FR.val)).getD 1 default) default)),[17]⟩,⟨28,.g (LS (some 3) (([rg,ra,rb,rc]).map (FX n))),[]⟩,⟨29,.g (LS (none) ((orderF (([rg,ra,rb,rc]).map FR.val)).map NT)),[]⟩,⟨30,.g (PE (none) (NT ((orderF (([rg,ra,rb,rc]).map FR.val)).getD 2 default))),[20]⟩,⟨31,.g (NT ((orderF (([rg,ra,rb,rc]).map FR.val)).getD 2 default)),[21]⟩,⟨32,.g (PE (some 3) (FX n (([rg,ra,rb,rc]).getD ((orderF (([rg,ra,rb,rc]).map FR.val)).getD 2 default) default))),[19,22]⟩,⟨33,.g (FX n (([rg,ra,rb,rc]).getD ((orderF (([rg,ra,rb,rc]).map FR.val)).getD 2 default) default)),[23]⟩,⟨34,.g (LS (some 3) (([(([rg,ra,rb,rc]).getD ((orderF (([rg,ra,rb,rc]).map FR.val)).getD 1 default) default).val,(([rg,ra,rb,rc]).getD ((orderF (([rg,ra,rb,rc]).map FR.val)).getD 2 default) default).val]).map (QV n))),[18,24]⟩,⟨35,.g (IT (compareF ([(([rg,ra,rb,rc]).getD ((orderF (([rg,ra,rb,rc]).map FR.val)).getD 0 default) default).val,(([rg,ra,rb,rc]).getD ((orderF (([rg,ra,rb,rc]).map FR.val)).getD 3 default) default).val]) ([(([rg,ra,rb,rc]).getD ((orderF (([rg,ra,rb,rc]).map FR.val)).getD 1 default) default).val,(([rg,ra,rb,rc]).getD ((orderF (([rg,ra,rb,rc]).map FR.val)).getD 2 default) default).val]))),[12,25]⟩,⟨2,.g (IT (compareF ([(([rg,ra,rb,rc]).getD ((orderF (([rg,ra,rb,rc]).map FR.val)).getD 0 default) default).val,(([rg,ra,rb,rc]).getD ((orderF (([rg,ra,rb,rc]).map FR.val)).getD 3 default) default).val]) ([(([rg,ra,rb,rc]).getD ((orderF (([rg,ra,rb,rc]).map FR.val)).getD 1 default) default).val,(([rg,ra,rb,rc]).getD ((orderF (([rg,ra,rb,rc]).map FR.val)).getD 2 default) default).val]))),[26]⟩] mixedOrders (by kernel_rfl)
  ⟨fun a w G S=>.of rfl (OpR.mv S.ok rfl (S.g 1 rfl)),
   fun a w G S=>.of rfl (OpR.mv S.ok rfl (S.g 0 rfl)),
   fun a w G S=>.of rfl (OpR.ixM (T:=NT) (xs:=orderF (([rg,ra,rb,rc]).map FR.val)) (i:=0) S.ok rfl Tryz.underlying52 tS_3 (S.g 0 rfl) (rfl : _ = nv .i64 0) rfl (by rw [hol];decide)),
   fun a w G S=>.of rfl (OpR.ldE S.ok rfl tS_3 (S.g 0 rfl)),
   fun a w G S=>.of rfl (OpR.ixM (T:=(FX n)) (xs:=[rg,ra,rb,rc]) (i:=(orderF (([rg,ra,rb,rc]).map FR.val)).getD 0 default) S.ok rfl Tryz.underlying48 tS_24 (S.g 0 rfl) (S.e 1 rfl) rfl (show _ < 4 by omega)),
   fun a w G S=>.of rfl (OpR.ldE S.ok rfl tS_24 (S.g 0 rfl)),
   fun a w G S=>.of rfl (OpR.mv S.ok rfl (S.g 1 rfl)),
   fun a w G S=>.of rfl (OpR.mv S.ok rfl (S.g 0 rfl)),
   fun a w G S=>.of rfl (OpR.ixM (T:=NT) (xs:=orderF (([rg,ra,rb,rc]).map FR.val)) (i:=3) S.ok rfl Tryz.underlying52 tS_3 (S.g 0 rfl) (rfl : _ = nv .i64 3) rfl (by rw [hol];decide)),
   fun a w G S=>.of rfl (OpR.ldE S.ok rfl tS_3 (S.g 0 rfl)),
   fun a w G S=>.of rfl (OpR.ixM (T:=(FX n)) (xs:=[rg,ra,rb,rc]) (i:=(orderF (([rg,ra,rb,rc]).map FR.val)).getD 3 default) S.ok rfl Tryz.underlying48 tS_24 (S.g 0 rfl) (S.e 1 rfl) rfl (show _ < 4 by omega)),
   fun a w G S=>.of rfl (OpR.ldE S.ok rfl tS_24 (S.g 0 rfl)),
   fun a w G S=>.of rfl (OpR.buildS (k:=some 3) (τs:=[(([rg,ra,rb,rc]).getD ((orderF (([rg,ra,rb,rc]).map FR.val)).getD 0 default) default).val,(([rg,ra,rb,rc]).getD ((orderF (([rg,ra,rb,rc]).map FR.val)).getD 3 default) default).val].map (QV n)) (us:=[a.eval (.tmp 14),a.eval (.tmp 20)]) S.ok rfl Tryz.underlying48 el_24 rfl (by decide) (by decide) (by simp [Act.eval]) rfl (Els.cons (sh (τ:=QV n ((([rg,ra,rb,rc]).getD ((orderF (([rg,ra,rb,rc]).map FR.val)).getD 0 default) default).val)) (FX.toQV (S.g 0 rfl))) (FX.toQV (S.g 0 rfl)) (Els.cons (sh (τ:=QV n ((([rg,ra,rb,rc]).getD ((orderF (([rg,ra,rb,rc]).map FR.val)).getD 3 default) default).val)) (FX.toQV (S.g 1 rfl))) (FX.toQV (S.g 1 rfl)) Els.nil))),
   fun a w G S=>.of rfl (OpR.mv S.ok rfl (S.g 1 rfl)),
   fun a w G S=>.of rfl (OpR.mv S.ok rfl (S.g 0 rfl)),
   fun a w G S=>.of rfl (OpR.ixM (T:=NT) (xs:=orderF (([rg,ra,rb,rc]).map FR.val)) (i:=1) S.ok rfl Tryz.underlying52 tS_3 (S.g 0 rfl) (rfl : _ = nv .i64 1) rfl (by rw [hol];decide)),
   fun a w G S=>.of rfl (OpR.ldE S.ok rfl tS_3 (S.g 0 rfl)),
   fun a w G S=>.of rfl (OpR.ixM (T:=(FX n)) (xs:=[rg,ra,rb,rc]) (i:=(orderF (([rg,ra,rb,rc]).map FR.val)).getD 1 default) S.ok rfl Tryz.underlying48 tS_24 (S.g 0 rfl) (S.e 1 rfl) rfl (show _ < 4 by omega)),
   fun a w G S=>.of rfl (OpR.ldE S.ok rfl tS_24 (S.g 0 rfl)),
   fun a w G S=>.of rfl (OpR.mv S.ok rfl (S.g 1 rfl)),
   fun a w G S=>.of rfl (OpR.mv S.ok rfl (S.g 0 rfl)),
   fun a w G S=>.of rfl (OpR.ixM (T:=NT) (xs:=orderF (([rg,ra,rb,rc]).map FR.val)) (i:=2) S.ok rfl Tryz.underlying52 tS_3 (S.g 0 rfl) (rfl : _ = nv .i64 2) rfl (by rw [hol];decide)),
   fun a w G S=>.of rfl (OpR.ldE S.ok rfl tS_3 (S.g 0 rfl)),
   fun a w G S=>.of rfl (OpR.ixM (T:=(FX n)) (xs:=[rg,ra,rb,rc]) (i:=(orderF (([rg,ra,rb,rc]).map FR.val)).getD 2 default) S.ok rfl Tryz.underlying48 tS_24 (S.g 0 rfl) (S.e 1 rfl) rfl (show _ < 4 by omega)),
   fun a w G S=>.of rfl (OpR.ldE S.ok rfl tS_24 (S.g 0 rfl)),
   fun a w G S=>.of rfl (OpR.buildS (k:=some 3) (τs:=[(([rg,ra,rb,rc]).getD ((orderF (([rg,ra,rb,rc]).map FR.val)).getD 1 default) default).val,(([rg,ra,rb,rc]).getD ((orderF (([rg,ra,rb,rc]).map FR.val)).getD 2 default) default).val].map (QV n)) (us:=[a.eval (.tmp 27),a.eval (.tmp 33)]) S.ok rfl Tryz.underlying48 el_24 rfl (by decide) (by decide) (by simp [Act.eval]) rfl (Els.cons (sh (τ:=QV n ((([rg,ra,rb,rc]).getD ((orderF (([rg,ra,rb,rc]).map FR.val)).getD 1 default) default).val)) (FX.toQV (S.g 0 rfl))) (FX.toQV (S.g 0 rfl)) (Els.cons (sh (τ:=QV n ((([rg,ra,rb,rc]).getD ((orderF (([rg,ra,rb,rc]).map FR.val)).getD 2 default) default).val)) (FX.toQV (S.g 1 rfl))) (FX.toQV (S.g 1 rfl)) Els.nil))),
   fun a w G S=>.of rfl (OpR.call2 rfl c_41 (xcompare_ok S.ok (LS.eqM (S.g 0 rfl) (by first | rfl | omega | (simp only [Nat.zero_add,Nat.add_zero];done) | (simp;done) | (push_cast;omega))) (LS.eqM (S.g 1 rfl) (by first | rfl | omega | (simp only [Nat.zero_add,Nat.add_zero];done) | (simp;done) | (push_cast;omega))) (by omega) (by omega) (by omega))),
   fun a w G S=>.of rfl (OpR.asn S.ok rfl (S.g 0 rfl)),trivial⟩ fun β a w G S=>?_
 replace S : St W0 G0 36 [(2,IT (compareF ([(([rg,ra,rb,rc]).getD ((orderF (([rg,ra,rb,rc]).map FR.val)).getD 0 default) default).val,(([rg,ra,rb,rc]).getD ((orderF (([rg,ra,rb,rc]).map FR.val)).getD 3 default) default).val]) ([(([rg,ra,rb,rc]).getD ((orderF (([rg,ra,rb,rc]).map FR.val)).getD 1 default) default).val,(([rg,ra,rb,rc]).getD ((orderF (([rg,ra,rb,rc]).map FR.val)).getD 2 default) default).val]))),(3,LS (some 3) (([rg,ra,rb,rc]).map (FX n)))] [⟨b1,26,some 12,PTS [(some 3,FX n rg),(some 3,FX n ra),(some 3,FX n rb),(some 3,FX n rc)]⟩] a _ _:=S.keep [0,29]
 refine wn hK ?_;clear hK K
 exact wp_ret (S.retTmp rfl ((S.e 0 rfl).trans (iv_eq rfl)))
theorem xClass_ok {n : Nat} {rg ra rb rc : FR} {v1 : Value} {W0 : World} {G0 : Gh} (hok : Gok W0 G0) (h1 : (PTS [(some 3,FX n rg),(some 3,FX n ra),(some 3,FX n rb),(some 3,FX n rc)]).t v1 G0) (hn : 1000 * n + 1000 ≤ BIG) (hn1 : 1 ≤ n) : Calls Tryz.prog 8 #[v1] W0 (Ret W0 G0 (MT.tup2 (IT (clsF [rg,ra,rb,rc])) (MT.ex (errV 43 (chkF [rg,ra,rb,rc]))))):=by
 refine St.enter (N:=24) (L:=[(0,PTS [(some 3,FX n rg),(some 3,FX n ra),(some 3,FX n rb),(some 3,FX n rc)])]) (args:=[v1]) Tryz.func8 rfl rfl rfl hok (enter1 h1) fun a S=>?_
 refine wp_reg fun K hK=>?_
 refine S.boxop (x:=.tmp 0) (τ:=PTS [(some 3,FX n rg),(some 3,FX n ra),(some 3,FX n rb),(some 3,FX n rc)]) (S.g 0 rfl) (sh (τ:=PTS [(some 3,FX n rg),(some 3,FX n ra),(some 3,FX n rb),(some 3,FX n rc)]) (S.g 0 rfl)) rfl rfl rfl rfl rfl fun b1 a w G S=>?_
 refine S.s (τ:=NT 0) (OpR.asn S.ok rfl (rfl : _ = nv .i64 0)) rfl fun a w G S=>?_
 refine S.s (τ:=MT.ex (Value.nilIface)) (OpR.asn S.ok rfl rfl) rfl fun a w G S=>?_
 refine wn hK ?_;clear hK K
 replace S:=S.d3
 refine wp_seq_k fun K hK=>?_
 refine wp_reg fun K hK=>?_
 refine S.s (OpR.ldBox S.ok rfl (S.e 2 rfl) (S.box 0 rfl) tS_26) rfl fun a w G S=>?_
 refine S.s (τ:=MT.ex (errV 43 (chkF [rg,ra,rb,rc]))) (OpR.call1 rfl c_11 (xCheck_ok S.ok (S.g 0 rfl) (by omega) (by omega))) rfl fun a w G S=>?_
 refine S.q rfl (S.g 0 rfl) rfl fun a w G S=>?_
 refine wn hK ?_;clear hK K
 replace S:=S.d2.d1
 refine wp_reg fun K hK=>?_
 refine S.m rfl (S.g 0 rfl) rfl fun a w G S=>?_
 refine S.s (τ:=BT (decide ((chkF [rg,ra,rb,rc]) ≠ 0))) (OpR.isB errV_neq (OpR.errNeqNil S.ok rfl if_30 (S.e 0 rfl) (by first | exact .inl rfl | exact .inr ⟨_,_,rfl⟩ | exact errV_or _) rfl)) rfl fun a w G S=>?_
 refine wn hK ?_;clear hK K
 replace S:=S.d1
 refine S.cond 0 rfl (fun hc1=>?_) (fun hc1=>?_)
 ·
  have hp2:=of_decide_eq_true hc1
  refine wp_reg fun K hK=>?_
  refine S.m rfl (S.g 1 rfl) rfl fun a w G S=>?_
  replace S:=S.d4
  refine S.s (τ:=NT 0) (OpR.asn S.ok rfl (rfl : _ = nv .i64 0)) rfl fun a w G S=>?_
  replace S:=S.d4
  refine S.q rfl (S.g 1 rfl) rfl fun a w G S=>?_
  refine wn hK ?_;clear hK K
  replace S:=S.d2
  exact wp_ret (then_ret (S.retTmp2 rfl ((S.e 1 rfl).trans (iv_eq (by unfold clsF;rw [if_neg ‹_›];rfl))) (S.g 0 rfl)))
 ·
  have hp3:=of_decide_eq_false hc1
  refine wp_skip ?_
  refine hK _ _ ?_;clear hK K
  refine wp_seq_k fun K hK=>?_
  refine wp_reg fun K hK=>?_
  refine S.s (OpR.ldBox S.ok rfl (S.e 4 rfl) (S.box 0 rfl) tS_26) rfl fun a w G S=>?_
  refine S.s (τ:=IT (excF [rg,ra,rb,rc])) (OpR.call1 rfl c_25 (xexcess_ok S.ok (S.g 0 rfl) (by omega) (by omega))) rfl fun a w G S=>?_
  refine wn hK ?_;clear hK K
  replace S:=S.d1
  refine wp_block ?_
  refine wp_reg fun K hK=>?_
  refine S.s (OpR.zeql S.ok rfl (S.e 0 rfl) (rfl : _ = nv .i64 1) MT.self) rfl fun a w G S=>?_
  refine S.q rfl (S.g 0 rfl) rfl fun a w G S=>?_
  refine wn hK ?_;clear hK K
  replace S:=S.d1
  refine S.cond 0 rfl (fun hc4=>?_) (fun hc4=>?_)
  ·
   have hp5:=of_decide_eq_true hc4
   refine wp_reg fun K hK=>?_
   replace S:=S.d5
   refine S.s (τ:=NT 4) (OpR.asn S.ok rfl (rfl : _ = nv .i64 4)) rfl fun a w G S=>?_
   replace S:=S.d5
   refine S.s (τ:=MT.ex (Value.nilIface)) (OpR.asn S.ok rfl rfl) rfl fun a w G S=>?_
   refine wn hK ?_;clear hK K
   exact wp_ret (block_ret (then_ret (S.retTmp2 rfl ((S.e 1 rfl).trans (iv_eq (by unfold clsF;rw [if_pos (by omega),if_pos ‹_›];rfl))) ((S.e 0 rfl).trans (errV_z (by omega))))))
  ·
   have hp6:=of_decide_eq_false hc4
   refine wp_reg fun K hK=>?_
   refine S.s (OpR.zeql S.ok rfl (S.e 1 rfl) (rfl : _ = nv .i64 0) MT.self) rfl fun a w G S=>?_
   refine S.q rfl (S.g 0 rfl) rfl fun a w G S=>?_
   refine wn hK ?_;clear hK K
   replace S:=S.d1
   refine S.cond 0 rfl (fun hc7=>?_) (fun hc7=>?_)
   ·
    have hp8:=of_decide_eq_true hc7
    refine wp_reg fun K hK=>?_
    replace S:=S.d6
    refine S.s (τ:=NT 5) (OpR.asn S.ok rfl (rfl : _ = nv .i64 5)) rfl fun a w G S=>?_
    replace S:=S.d6
    refine S.s (τ:=MT.ex (Value.nilIface)) (OpR.asn S.ok rfl rfl) rfl fun a w G S=>?_
    refine wn hK ?_;clear hK K
    exact wp_ret (block_ret (then_ret (S.retTmp2 rfl ((S.e 1 rfl).trans (iv_eq (by unfold clsF;rw [if_pos (by omega),if_neg ‹_›,if_pos (by omega)];rfl))) ((S.e 0 rfl).trans (errV_z (by omega))))))
   ·
    have hp9:=of_decide_eq_false hc7
    refine wp_skip ?_
    refine hK _ _ ?_;clear hK K
    refine wp_reg fun K hK=>?_
    have ho0:=orderF_lt ([rg,ra,rb,rc].map FR.val) 0
    have ho1:=orderF_lt ([rg,ra,rb,rc].map FR.val) 1
    have ho2:=orderF_lt ([rg,ra,rb,rc].map FR.val) 2
    have ho3:=orderF_lt ([rg,ra,rb,rc].map FR.val) 3
    have hol:=orderF_len ([rg,ra,rb,rc].map FR.val)
    refine S.s (τ:=LS (none) (([1,0,2,3]).map NT)) (OpR.buildS (k:=none) (τs:=[1,0,2,3].map NT) (us:=[Value.int .i64 (1),Value.int .i64 (0),Value.int .i64 (2),Value.int .i64 (3)]) S.ok rfl Tryz.underlying52 el_3 rfl (by decide) (by decide) (by simp [Act.eval]) rfl (Els.cons (sh (τ:=NT 1) (G:=fun _=>none) (rfl : _ = nv .i64 1)) (rfl : _ = nv .i64 1) (Els.cons (sh (τ:=NT 0) (G:=fun _=>none) (rfl : _ = nv .i64 0)) (rfl : _ = nv .i64 0) (Els.cons (sh (τ:=NT 2) (G:=fun _=>none) (rfl : _ = nv .i64 2)) (rfl : _ = nv .i64 2) (Els.cons (sh (τ:=NT 3) (G:=fun _=>none) (rfl : _ = nv .i64 3)) (rfl : _ = nv .i64 3) Els.nil))))) rfl fun a w G S=>?_
    refine S.s (OpR.ldBox S.ok rfl (S.e 8 rfl) (S.box 0 rfl) tS_26) rfl fun a w G S=>?_
    refine S.s (τ:=LS (some 3) (([rg,ra,rb,rc]).map (FX n))) (OpR.call1 rfl c_27 (xlist_ok S.ok (S.g 0 rfl) (by omega) (by omega))) rfl fun a w G S=>?_
    refine S.s (τ:=LS (none) ((orderF (([rg,ra,rb,rc]).map FR.val)).map NT)) (OpR.call1 rfl c_26 (xorder_ok S.ok (LS.convM (T:=(FX n)) (U:=(QV n)) (f:=FR.val) (S.g 0 rfl) (by first | rfl | (simp;done)) fun z_ _ _ _ h=>(QV.eq (FX.toQV h) (by first | rfl | omega | (simp only [Nat.zero_add,Nat.add_zero];done) | (simp;done) | (push_cast;omega)))) rfl (by omega))) rfl fun a w G S=>?_
    refine S.s (τ:=PE (none) (NT ((orderF (([rg,ra,rb,rc]).map FR.val)).getD 0 default))) (OpR.ixM (T:=NT) (xs:=orderF (([rg,ra,rb,rc]).map FR.val)) (i:=0) S.ok rfl Tryz.underlying52 tS_3 (S.g 0 rfl) (rfl : _ = nv .i64 0) rfl (by rw [hol];decide)) rfl fun a w G S=>?_
    refine S.s (OpR.ldE S.ok rfl tS_3 (S.g 0 rfl)) rfl fun a w G S=>?_
    refine S.s (τ:=PE (none) (NT (([1,0,2,3]).getD ((orderF (([rg,ra,rb,rc]).map FR.val)).getD 0 default) default))) (OpR.ixM (T:=NT) (xs:=[1,0,2,3]) (i:=(orderF (([rg,ra,rb,rc]).map FR.val)).getD 0 default) S.ok rfl Tryz.underlying52 tS_3 (S.g 5 rfl) (S.e 0 rfl) rfl (show _ < 4 by omega)) rfl fun a w G S=>?_
    refine S.s (OpR.ldE S.ok rfl tS_3 (S.g 0 rfl)) rfl fun a w G S=>?_
    replace S:=S.d14
    refine S.q rfl (S.g 0 rfl) rfl fun a w G S=>?_
    replace S:=S.d14
    refine S.s (τ:=MT.ex (Value.nilIface)) (OpR.asn S.ok rfl rfl) rfl fun a w G S=>?_
    refine wn hK ?_;clear hK K
    replace S:=S.d9.d8.d7.d6.d5.d4.d3.d2
    exact wp_ret (S.retTmp2 rfl ((S.e 1 rfl).trans (iv_eq (by unfold clsF;rw [if_pos (by omega),if_neg ‹_›,if_neg (by omega)]))) ((S.e 0 rfl).trans (errV_z (by omega))))
end Go.Proofs.YtdeihehaheelmaaGreat
namespace Go.Proofs.YtdeihehaheelmaaGreat
open Go.RowKit (Below)
abbrev RX (r : FR) : MT:=QR r.s r.p r.q
def shortR (r : FR) : Bool:=decide (r.p.length ≤ 2) && decide (r.q.length ≤ 2)
def shortF (l : List FR) : Bool:=l.all shortR && decide (l.length < 60)
theorem shortR_not {r : FR} (h : 2 < r.p.length ∨ 2 < r.q.length) : shortR r = false:=by unfold shortR;rcases h with h | h <;> simp <;> omega
theorem shortR_of {r : FR} (h : ¬ 2 < r.p.length) (h2 : ¬ 2 < r.q.length) : shortR r = true:=by unfold shortR;simp;omega
theorem val64 {l : List Nat} (hw : wfl l) (h : l.length ≤ 2) : Go.Proofs.YtdeihehaheelmaaGreat.val l < 2 ^ 64:=by
  have h1:=val_lt hw
  have h2 : 4294967296 ^ l.length ≤ 4294967296 ^ 2:=Nat.pow_le_pow_right (by decide) h
  have h3 : (4294967296 : Nat) ^ 2 = 2 ^ 64:=by decide
  omega
theorem RX.toFX {r : FR} {v : Value} {G : Gh} (h : (RX r).t v G) (hs : shortR r = true) : (FX 64 r).t v G:=by
  unfold shortR at hs;simp at hs
  obtain ⟨x,y,e,hp,hq⟩:=h
  exact ⟨by decide,val64 (SL.wf hp) hs.1,val64 (SL.wf hq) hs.2,x,y,e,hp,hq⟩
theorem RX.f0 {r : FR} {v : Value} {G : Gh} {k : Option Nat} (h : (RX r).t v G) (hs : Shaped k v) : ∃ u,v.cells[0]? = some u ∧ (MT.ex (.bool r.s)).t u G:=QR.f0 h hs
theorem RX.f1 {r : FR} {v : Value} {G : Gh} {k : Option Nat} (h : (RX r).t v G) (hs : Shaped k v) : ∃ u,v.cells[1]? = some u ∧ (SL r.p).t u G:=QR.f1 h hs
theorem RX.f2 {r : FR} {v : Value} {G : Gh} {k : Option Nat} (h : (RX r).t v G) (hs : Shaped k v) : ∃ u,v.cells[2]? = some u ∧ (SL r.q).t u G:=QR.f2 h hs
theorem LS.toFX {l : List FR} {v : Value} {G : Gh} (h : (LS (some 3) (l.map RX)).t v G) (hs : shortF l = true) : (LS (some 3) (l.map (FX 64))).t v G:=by
  unfold shortF at hs;simp at hs
  exact LS.convM (T:=RX) (U:=FX 64) (f:=fun r=>r) h (by simp) fun x hx v G hv=>RX.toFX hv (hs.1 x hx)
theorem rotF_0 {l : List FR} {k : Int} (h : chkF l ≠ 0) : false = rotF l k:=by unfold rotF rotCode;rw [if_neg h,if_neg h]
theorem rotC_0 {l : List FR} {k : Int} (h : chkF l ≠ 0) : chkF l = rotCode l k:=by unfold rotCode;rw [if_neg h]
theorem rotC_9 {l : List FR} {k : Int} (h : ¬ chkF l ≠ 0) (hk : ¬ (0 ≤ k ∧ k ≤ 3)) : rotCode l k = ((9 : Nat) : Int):=by unfold rotCode;rw [if_pos (by omega),if_neg hk];rfl
theorem rotF_9 {l : List FR} {k : Int} (h : ¬ chkF l ≠ 0) (hk : ¬ (0 ≤ k ∧ k ≤ 3)) : false = rotF l k:=by unfold rotF;rw [rotC_9 h hk];rfl
theorem rotC_ok {l : List FR} {k : Int} (h : ¬ chkF l ≠ 0) (hk : 0 ≤ k ∧ k ≤ 3) : rotCode l k = 0:=by unfold rotCode;rw [if_pos (by omega),if_pos hk]
theorem rotF_ok {l : List FR} {k : Int} (h : ¬ chkF l ≠ 0) (hk : 0 ≤ k ∧ k ≤ 3) : rotF l k = rotL l k.toNat:=by unfold rotF;rw [rotC_ok h hk,if_pos rfl]
theorem rotF_t {l : List FR} {k : Int} (h : ¬ chkF l ≠ 0) (hk : 0 ≤ k ∧ k ≤ 3) (c : compareF [(l.getD k.toNat default).val, (l.getD ((k.toNat + 3) % 4) default).val] [(l.getD ((k.toNat + 1) % 4) default).val, (l.getD ((k.toNat + 2) % 4) default).val] ≤ 0) :
    decide (compareF [maxQ (l.getD k.toNat default).val (l.getD ((k.toNat + 3) % 4) default).val,minQ (l.getD ((k.toNat + 1) % 4) default).val (l.getD ((k.toNat + 2) % 4) default).val] [minQ (l.getD k.toNat default).val (l.getD ((k.toNat + 3) % 4) default).val,maxQ (l.getD ((k.toNat + 1) % 4) default).val (l.getD ((k.toNat + 2) % 4) default).val] ≥ 0) = rotF l k:=by
  rw [rotF_ok h hk];unfold rotL;rw [decide_eq_true c,Bool.true_and]
theorem rotF_f {l : List FR} {k : Int} (h : ¬ chkF l ≠ 0) (hk : 0 ≤ k ∧ k ≤ 3) (c : ¬ compareF [(l.getD k.toNat default).val,(l.getD ((k.toNat + 3) % 4) default).val] [(l.getD ((k.toNat + 1) % 4) default).val,(l.getD ((k.toNat + 2) % 4) default).val] ≤ 0) : false = rotF l k:=by
  rw [rotF_ok h hk];unfold rotL;rw [decide_eq_false c,Bool.false_and]
theorem map_of4 (a b c d : Rat) : [FR.of a,FR.of b,FR.of c,FR.of d].map FR.val = [a,b,c,d]:=by simp [FR.of_val]
theorem posR_of4 (a : Rat) : posR (FR.of a) = decide (0 < a):=by unfold posR;rw [FR.of_ok,FR.of_val,Bool.true_and]
theorem lk_of4 (a b c d : Rat) (j : Nat) : lk [FR.of a,FR.of b,FR.of c,FR.of d] j = [a,b,c,d].getD ((orderF [a,b,c,d]).getD j default) default:=by
  unfold lk;rw [map_of4]
  have h:=orderF_lt [a,b,c,d] j
  generalize (orderF [a,b,c,d]).getD j default = i at h
  match i,h with
  | 0,_=>exact FR.of_val a
  | 1,_=>exact FR.of_val b
  | 2,_=>exact FR.of_val c
  | 3,_=>exact FR.of_val d
theorem ex_chk : chkF [FR.of 16,FR.of 1,FR.of 9,FR.of 9] = 0:=by
  unfold chkF;simp only [lk_of4,List.all_cons,List.all_nil,posR_of4];decide +kernel
theorem ex_cls : clsF [FR.of 16,FR.of 1,FR.of 9,FR.of 9] = 0:=by
  unfold clsF;rw [ex_chk];unfold excF;simp only [lk_of4,map_of4];decide +kernel
theorem ex_chk2 : chkF [FR.of 2,FR.of 2,FR.of 2,FR.of 2] = 0:=by
  unfold chkF;simp only [lk_of4,List.all_cons,List.all_nil,posR_of4];decide +kernel
theorem ex_cls2 : clsF [FR.of 2,FR.of 2,FR.of 2,FR.of 2] = 5:=by
  unfold clsF;rw [ex_chk2];unfold excF;simp only [lk_of4,map_of4];decide +kernel
theorem goodR_of4 (a : Rat) : goodR (FR.of a) = decide (0 ≤ a):=by unfold goodR;rw [FR.of_ok,FR.of_val,Bool.true_and]
theorem ex_cmpC : cmpCode [FR.of 2,FR.of 3] [FR.of 10] = 0:=by
  unfold cmpCode;simp only [List.all_cons,List.all_nil,goodR_of4];decide +kernel
theorem ex_cmp : cmpRes [FR.of 2,FR.of 3] [FR.of 10] = -1:=by
  unfold cmpRes;rw [ex_cmpC];simp only [List.map_cons,List.map_nil,FR.of_val];decide +kernel
theorem ex_rotC : rotCode [FR.of 16,FR.of 1,FR.of 9,FR.of 9] 1 = 0:=by unfold rotCode;rw [ex_chk];rfl
theorem ex_rot : rotF [FR.of 16,FR.of 1,FR.of 9,FR.of 9] 1 = true:=by
  unfold rotF;rw [ex_rotC];unfold rotL
  show (decide (compareF [(FR.of 1).val,(FR.of 16).val] [(FR.of 9).val,(FR.of 9).val] ≤ 0) && decide (compareF [maxQ (FR.of 1).val (FR.of 16).val,minQ (FR.of 9).val (FR.of 9).val] [minQ (FR.of 1).val (FR.of 16).val,maxQ (FR.of 9).val (FR.of 9).val] ≥ 0)) = true
  simp only [FR.of_val];decide +kernel
end Go.Proofs.YtdeihehaheelmaaGreat
namespace Go.Proofs.YtdeihehaheelmaaGreat
set_option maxHeartbeats 1000000
set_option maxRecDepth 100000
open Go.RowKit (Below)
private theorem c_39 : callable Tryz.prog 39 = true:=by kernel_rfl
private theorem c_40 : callable Tryz.prog 40 = true:=by kernel_rfl
private theorem fo_24_1 : fldOff Tryz.prog 24 1 = some 1:=by kernel_rfl
private theorem fo_24_2 : fldOff Tryz.prog 24 2 = some 2:=by kernel_rfl
private theorem tS_22 : tyS Tryz.prog 22 (none) = true:=by kernel_rfl
theorem xRotates_ok {n : Nat} {rg ra rb rc : FR} {k : Int} {v1 v2 : Value} {W0 : World} {G0 : Gh} (hok : Gok W0 G0) (h1 : (PTS [(some 3,FX n rg),(some 3,FX n ra),(some 3,FX n rb),(some 3,FX n rc)]).t v1 G0) (h2 : (IT k).t v2 G0) (hn : 1000 * n + 1000 ≤ BIG) (hn1 : 1 ≤ n) : Calls Tryz.prog 14 #[v1,v2] W0 (Ret W0 G0 (MT.tup2 (BT (rotF [rg,ra,rb,rc] k)) (MT.ex (errV 43 (rotCode [rg,ra,rb,rc] k))))):=by
 refine St.enter (N:=82) (L:=[(1,IT k),(0,PTS [(some 3,FX n rg),(some 3,FX n ra),(some 3,FX n rb),(some 3,FX n rc)])]) (args:=[v1,v2]) Tryz.func14 rfl rfl rfl hok (enter2 h1 h2) fun a S=>?_
 refine wp_reg fun K hK=>?_
 refine S.boxop (x:=.tmp 0) (τ:=PTS [(some 3,FX n rg),(some 3,FX n ra),(some 3,FX n rb),(some 3,FX n rc)]) (S.g 1 rfl) (sh (τ:=PTS [(some 3,FX n rg),(some 3,FX n ra),(some 3,FX n rb),(some 3,FX n rc)]) (S.g 1 rfl)) rfl rfl rfl rfl rfl fun b2 a w G S=>?_
 refine S.s (τ:=BT false) (OpR.asn S.ok rfl rfl) rfl fun a w G S=>?_
 refine S.s (τ:=MT.ex (Value.nilIface)) (OpR.asn S.ok rfl rfl) rfl fun a w G S=>?_
 refine wn hK ?_;clear hK K
 replace S:=S.d4
 refine wp_seq_k fun K hK=>?_
 refine wp_reg fun K hK=>?_
 refine S.s (OpR.ldBox S.ok rfl (S.e 2 rfl) (S.box 0 rfl) tS_26) rfl fun a w G S=>?_
 refine S.s (τ:=MT.ex (errV 43 (chkF [rg,ra,rb,rc]))) (OpR.call1 rfl c_11 (xCheck_ok S.ok (S.g 0 rfl) (by omega) (by omega))) rfl fun a w G S=>?_
 refine S.q rfl (S.g 0 rfl) rfl fun a w G S=>?_
 refine wn hK ?_;clear hK K
 replace S:=S.d2.d1
 refine wp_reg fun K hK=>?_
 refine S.m rfl (S.g 0 rfl) rfl fun a w G S=>?_
 refine S.s (τ:=BT (decide ((chkF [rg,ra,rb,rc]) ≠ 0))) (OpR.isB errV_neq (OpR.errNeqNil S.ok rfl if_30 (S.e 0 rfl) (by first | exact .inl rfl | exact .inr ⟨_,_,rfl⟩ | exact errV_or _) rfl)) rfl fun a w G S=>?_
 refine wn hK ?_;clear hK K
 replace S:=S.d1
 refine S.cond 0 rfl (fun hc1=>?_) (fun hc1=>?_)
 ·
  have hp2:=of_decide_eq_true hc1
  refine wp_reg fun K hK=>?_
  refine S.m rfl (S.g 1 rfl) rfl fun a w G S=>?_
  replace S:=S.d4
  refine S.s (τ:=BT false) (OpR.asn S.ok rfl rfl) rfl fun a w G S=>?_
  replace S:=S.d4
  refine S.q rfl (S.g 1 rfl) rfl fun a w G S=>?_
  refine wn hK ?_;clear hK K
  replace S:=S.d2
  exact wp_ret (then_ret (S.retTmp2 rfl ((S.e 1 rfl).trans (bv_eq (rotF_0 (by omega)))) ((S.e 0 rfl).trans (congrArg (errV 43) (rotC_0 (by omega))))))
 ·
  have hp3:=of_decide_eq_false hc1
  refine wp_skip ?_
  refine hK _ _ ?_;clear hK K
  refine wp_seq_k fun K hK=>?_
  refine wp_reg fun K hK=>?_
  refine S.m rfl (S.g 5 rfl) rfl fun a w G S=>?_
  refine S.s (OpR.ilss S.ok rfl (S.e 0 rfl) (rfl : _ = nv .i64 0) MT.self) rfl fun a w G S=>?_
  refine S.m rfl (S.g 0 rfl) rfl fun a w G S=>?_
  rcases Bool.eq_false_or_eq_true (decide (k < 0)) with hc4 | hc4
  ·
   have hp5:=of_decide_eq_true hc4
   replace S:=S.boolIs 0 rfl hc4
   refine S.skipG 0 rfl rfl rfl rfl rfl rfl fun a w G S=>?_
   refine S.skipG 1 rfl rfl rfl rfl rfl rfl fun a w G S=>?_
   refine S.s (τ:=BT true) (OpR.pick S.ok rfl (S.e 2 rfl) rfl) rfl fun a w G S=>?_
   refine wn hK ?_;clear hK K
   replace S:=S.d6.d5.d4.d3.d2.d1
   refine wp_cond_true (S.e 0 rfl) ?_
   refine wp_reg fun K hK=>?_
   refine S.s (OpR.mkI S.ok rfl ni_43 (rfl : _ = nv .i64 9) MT.self) rfl fun a w G S=>?_
   replace S:=S.d5
   refine S.s (τ:=BT false) (OpR.asn S.ok rfl rfl) rfl fun a w G S=>?_
   replace S:=S.d5
   refine S.q rfl (S.g 1 rfl) rfl fun a w G S=>?_
   refine wn hK ?_;clear hK K
   replace S:=S.d2
   exact wp_ret (then_ret (S.retTmp2 rfl ((S.e 1 rfl).trans (bv_eq (by first | exact rotF_9 (by omega) (by omega) | exact rotF_t (by omega) (by omega) ‹_› | exact rotF_f (by omega) (by omega) ‹_›))) ((S.e 0 rfl).trans (by first | exact errV_ne (rotC_9 (by omega) (by omega)) (by decide) | exact errV_z (rotC_ok (by omega) (by omega))))))
  ·
   have hp6:=of_decide_eq_false hc4
   replace S:=S.boolIs 0 rfl hc4
   refine S.stepG 0 (OpR.mv S.ok rfl (S.g 9 rfl)) rfl rfl rfl rfl rfl rfl fun a w G S=>?_
   refine S.stepG 1 (OpR.igtr S.ok rfl (S.e 0 rfl) (rfl : _ = nv .i64 3) MT.self) rfl rfl rfl rfl rfl rfl fun a w G S=>?_
   refine S.s (τ:=BT (decide (k > 3))) (OpR.pick S.ok rfl (S.e 2 rfl) (S.g 0 rfl)) rfl fun a w G S=>?_
   refine wn hK ?_;clear hK K
   replace S:=S.d6.d5.d4.d3.d2.d1
   refine S.cond 0 rfl (fun hc7=>?_) (fun hc7=>?_)
   ·
    have hp8:=of_decide_eq_true hc7
    refine wp_reg fun K hK=>?_
    refine S.s (OpR.mkI S.ok rfl ni_43 (rfl : _ = nv .i64 9) MT.self) rfl fun a w G S=>?_
    replace S:=S.d5
    refine S.s (τ:=BT false) (OpR.asn S.ok rfl rfl) rfl fun a w G S=>?_
    replace S:=S.d5
    refine S.q rfl (S.g 1 rfl) rfl fun a w G S=>?_
    refine wn hK ?_;clear hK K
    replace S:=S.d2
    exact wp_ret (then_ret (S.retTmp2 rfl ((S.e 1 rfl).trans (bv_eq (by first | exact rotF_9 (by omega) (by omega) | exact rotF_t (by omega) (by omega) ‹_› | exact rotF_f (by omega) (by omega) ‹_›))) ((S.e 0 rfl).trans (by first | exact errV_ne (rotC_9 (by omega) (by omega)) (by decide) | exact errV_z (rotC_ok (by omega) (by omega))))))
   ·
    have hp9:=of_decide_eq_false hc7
    refine wp_skip ?_
    refine hK _ _ ?_;clear hK K
    refine wp_reg fun K hK=>?_
    refine S.s (OpR.ldBox S.ok rfl (S.e 5 rfl) (S.box 0 rfl) tS_26) rfl fun a w G S=>?_
    refine S.s (τ:=LS (some 3) (([rg,ra,rb,rc]).map (FX n))) (OpR.call1 rfl c_27 (xlist_ok S.ok (S.g 0 rfl) (by omega) (by omega))) rfl fun a w G S=>?_
    refine S.q rfl (S.g 0 rfl) rfl fun a w G S=>?_
    refine wn hK ?_;clear hK K
    replace S:=S.d2.d1
    refine wp_seq_k fun K hK=>?_
    refine S.drawnS [⟨30,.g (LS (some 3) (([rg,ra,rb,rc]).map (FX n))),[]⟩,⟨31,.g (NT k.toNat),[]⟩,⟨32,.g (PE (some 3) (FX n (([rg,ra,rb,rc]).getD k.toNat default))),[0,1]⟩,⟨33,.g (FX n (([rg,ra,rb,rc]).getD k.toNat default)),[2]⟩,⟨34,.g (LS (some 3) (([rg,ra,rb,rc]).map (FX n))),[]⟩,⟨35,.g (NT k.toNat),[]⟩,⟨36,.g (NT (k.toNat + 3)),[5]⟩,⟨37,.g (NT ((k.toNat + 3) % 4)),[6]⟩,⟨38,.g (PE (some 3) (FX n (([rg,ra,rb,rc]).getD ((k.toNat + 3) % 4) default))),[4,7]⟩,⟨39,.g (FX n (([rg,ra,rb,rc]).getD ((k.toNat + 3) % 4) default)),[8]⟩,⟨8,.al mkP 24 (some 3) (MT.ex (.agg #[.bool false,.slice none 0 0,.slice none 0 0])),[]⟩,⟨9,.al mkP 24 (some 3) (MT.ex (.agg #[.bool false,.slice none 0 0,.slice none 0 0])),[]⟩,⟨9998,.st 11 (FX n (([rg,ra,rb,rc]).getD k.toNat default)),[10,3]⟩,⟨9998,.st 12 (FX n (([rg,ra,rb,rc]).getD ((k.toNat + 3) % 4) default)),[11,9]⟩] mixedOrders (by kernel_rfl)
     ⟨⟨rfl,fun a w G S=>.of rfl (OpR.mv S.ok rfl (S.g 0 rfl))⟩,
      ⟨rfl,fun a w G S=>.of rfl (OpR.mv S.ok rfl ((S.e 7 rfl).trans (iv_eq (by omega))))⟩,
      ⟨rfl,fun a w G S=>.of rfl (OpR.ixM (T:=(FX n)) (xs:=[rg,ra,rb,rc]) (i:=k.toNat) S.ok rfl Tryz.underlying48 tS_24 (S.g 0 rfl) (S.e 1 rfl) rfl (show _ < 4 by omega))⟩,
      ⟨rfl,fun a w G S=>.of rfl (OpR.ldE S.ok rfl tS_24 (S.g 0 rfl))⟩,
      ⟨rfl,fun a w G S=>.of rfl (OpR.mv S.ok rfl (S.g 0 rfl))⟩,
      ⟨rfl,fun a w G S=>.of rfl (OpR.mv S.ok rfl ((S.e 7 rfl).trans (iv_eq (by omega))))⟩,
      ⟨rfl,fun a w G S=>.of rfl (OpR.nadd S.ok rfl (S.e 0 rfl) (rfl : _ = nv .i64 3) (wr_i64 (by omega)) MT.self)⟩,
      ⟨rfl,fun a w G S=>.of rfl (OpR.nrem S.ok rfl (S.e 0 rfl) (rfl : _ = nv .i64 4) (by omega) MT.self)⟩,
      ⟨rfl,fun a w G S=>.of rfl (OpR.ixM (T:=(FX n)) (xs:=[rg,ra,rb,rc]) (i:=(k.toNat + 3) % 4) S.ok rfl Tryz.underlying48 tS_24 (S.g 0 rfl) (S.e 1 rfl) rfl (show _ < 4 by omega))⟩,
      ⟨rfl,fun a w G S=>.of rfl (OpR.ldE S.ok rfl tS_24 (S.g 0 rfl))⟩,
      ⟨rfl,fun _=>rfl,rfl,fun a w G S=>OpB.alloc S.ok rfl z_24 zs_24⟩,
      ⟨rfl,fun _=>rfl,rfl,fun a w G S=>OpB.alloc S.ok rfl z_24 zs_24⟩,
      ⟨rfl,rfl,rfl,.inl ⟨_,_,_,_,rfl,tS_24,fun a w G S=>⟨(S.g 0 rfl),sh (τ:=FX n (([rg,ra,rb,rc]).getD k.toNat default)) (S.g 0 rfl)⟩,by rw [if_neg (by simp only [List.length_cons,List.length_nil];omega)];exact ⟨_,_,_,rfl,rfl,rfl,rfl⟩⟩⟩,
      ⟨rfl,rfl,rfl,.inl ⟨_,_,_,_,rfl,tS_24,fun a w G S=>⟨(S.g 0 rfl),sh (τ:=FX n (([rg,ra,rb,rc]).getD ((k.toNat + 3) % 4) default)) (S.g 0 rfl)⟩,by rw [if_neg (by simp only [List.length_cons,List.length_nil];omega)];exact ⟨_,_,_,rfl,rfl,rfl,rfl⟩⟩⟩,trivial⟩ fun β a w G S=>?_
    replace S : St W0 G0 82 [(9,PB (β 11)),(8,PB (β 10)),(7,LS (some 3) (([rg,ra,rb,rc]).map (FX n))),(26,BT (decide (k > 3))),(19,BT (decide ((chkF [rg,ra,rb,rc]) ≠ 0))),(6,MT.ex (errV 43 (chkF [rg,ra,rb,rc]))),(5,MT.ex (Value.nilIface)),(4,BT false),(2,PB b2),(1,IT k)] [⟨(β 11),24,some 3,FX n (([rg,ra,rb,rc]).getD ((k.toNat + 3) % 4) default)⟩,⟨(β 10),24,some 3,FX n (([rg,ra,rb,rc]).getD k.toNat default)⟩,⟨b2,26,some 12,PTS [(some 3,FX n rg),(some 3,FX n ra),(some 3,FX n rb),(some 3,FX n rc)]⟩] a _ _:=S.keep [0,1,12,13,14,15,16,17,18,19]
    generalize β 10 = b8 at S
    generalize β 11 = b9 at S
    refine wn hK ?_;clear hK K
    refine wp_seq_k fun K hK=>?_
    refine S.drawnS [⟨40,.g (LS (some 3) (([rg,ra,rb,rc]).map (FX n))),[]⟩,⟨41,.g (NT k.toNat),[]⟩,⟨42,.g (NT (k.toNat + 1)),[1]⟩,⟨43,.g (NT ((k.toNat + 1) % 4)),[2]⟩,⟨44,.g (PE (some 3) (FX n (([rg,ra,rb,rc]).getD ((k.toNat + 1) % 4) default))),[0,3]⟩,⟨45,.g (FX n (([rg,ra,rb,rc]).getD ((k.toNat + 1) % 4) default)),[4]⟩,⟨46,.g (LS (some 3) (([rg,ra,rb,rc]).map (FX n))),[]⟩,⟨47,.g (NT k.toNat),[]⟩,⟨48,.g (NT (k.toNat + 2)),[7]⟩,⟨49,.g (NT ((k.toNat + 2) % 4)),[8]⟩,⟨50,.g (PE (some 3) (FX n (([rg,ra,rb,rc]).getD ((k.toNat + 2) % 4) default))),[6,9]⟩,⟨51,.g (FX n (([rg,ra,rb,rc]).getD ((k.toNat + 2) % 4) default)),[10]⟩,⟨10,.al mkP 24 (some 3) (MT.ex (.agg #[.bool false,.slice none 0 0,.slice none 0 0])),[]⟩,⟨11,.al mkP 24 (some 3) (MT.ex (.agg #[.bool false,.slice none 0 0,.slice none 0 0])),[]⟩,⟨9998,.st 15 (FX n (([rg,ra,rb,rc]).getD ((k.toNat + 1) % 4) default)),[12,5]⟩,⟨9998,.st 16 (FX n (([rg,ra,rb,rc]).getD ((k.toNat + 2) % 4) default)),[13,11]⟩] mixedOrders (by kernel_rfl)
     ⟨⟨rfl,fun a w G S=>.of rfl (OpR.mv S.ok rfl (S.g 2 rfl))⟩,
      ⟨rfl,fun a w G S=>.of rfl (OpR.mv S.ok rfl ((S.e 9 rfl).trans (iv_eq (by omega))))⟩,
      ⟨rfl,fun a w G S=>.of rfl (OpR.nadd S.ok rfl (S.e 0 rfl) (rfl : _ = nv .i64 1) (wr_i64 (by omega)) MT.self)⟩,
      ⟨rfl,fun a w G S=>.of rfl (OpR.nrem S.ok rfl (S.e 0 rfl) (rfl : _ = nv .i64 4) (by omega) MT.self)⟩,
      ⟨rfl,fun a w G S=>.of rfl (OpR.ixM (T:=(FX n)) (xs:=[rg,ra,rb,rc]) (i:=(k.toNat + 1) % 4) S.ok rfl Tryz.underlying48 tS_24 (S.g 0 rfl) (S.e 1 rfl) rfl (show _ < 4 by omega))⟩,
      ⟨rfl,fun a w G S=>.of rfl (OpR.ldE S.ok rfl tS_24 (S.g 0 rfl))⟩,
      ⟨rfl,fun a w G S=>.of rfl (OpR.mv S.ok rfl (S.g 2 rfl))⟩,
      ⟨rfl,fun a w G S=>.of rfl (OpR.mv S.ok rfl ((S.e 9 rfl).trans (iv_eq (by omega))))⟩,
      ⟨rfl,fun a w G S=>.of rfl (OpR.nadd S.ok rfl (S.e 0 rfl) (rfl : _ = nv .i64 2) (wr_i64 (by omega)) MT.self)⟩,
      ⟨rfl,fun a w G S=>.of rfl (OpR.nrem S.ok rfl (S.e 0 rfl) (rfl : _ = nv .i64 4) (by omega) MT.self)⟩,
      ⟨rfl,fun a w G S=>.of rfl (OpR.ixM (T:=(FX n)) (xs:=[rg,ra,rb,rc]) (i:=(k.toNat + 2) % 4) S.ok rfl Tryz.underlying48 tS_24 (S.g 0 rfl) (S.e 1 rfl) rfl (show _ < 4 by omega))⟩,
      ⟨rfl,fun a w G S=>.of rfl (OpR.ldE S.ok rfl tS_24 (S.g 0 rfl))⟩,
      ⟨rfl,fun _=>rfl,rfl,fun a w G S=>OpB.alloc S.ok rfl z_24 zs_24⟩,
      ⟨rfl,fun _=>rfl,rfl,fun a w G S=>OpB.alloc S.ok rfl z_24 zs_24⟩,
      ⟨rfl,rfl,rfl,.inl ⟨_,_,_,_,rfl,tS_24,fun a w G S=>⟨(S.g 0 rfl),sh (τ:=FX n (([rg,ra,rb,rc]).getD ((k.toNat + 1) % 4) default)) (S.g 0 rfl)⟩,by rw [if_neg (by simp only [List.length_cons,List.length_nil];omega)];exact ⟨_,_,_,rfl,rfl,rfl,rfl⟩⟩⟩,
      ⟨rfl,rfl,rfl,.inl ⟨_,_,_,_,rfl,tS_24,fun a w G S=>⟨(S.g 0 rfl),sh (τ:=FX n (([rg,ra,rb,rc]).getD ((k.toNat + 2) % 4) default)) (S.g 0 rfl)⟩,by rw [if_neg (by simp only [List.length_cons,List.length_nil];omega)];exact ⟨_,_,_,rfl,rfl,rfl,rfl⟩⟩⟩,trivial⟩ fun β a w G S=>?_
    replace S : St W0 G0 82 [(11,PB (β 13)),(10,PB (β 12)),(9,PB b9),(8,PB b8),(7,LS (some 3) (([rg,ra,rb,rc]).map (FX n))),(26,BT (decide (k > 3))),(19,BT (decide ((chkF [rg,ra,rb,rc]) ≠ 0))),(6,MT.ex (errV 43 (chkF [rg,ra,rb,rc]))),(5,MT.ex (Value.nilIface)),(4,BT false),(2,PB b2),(1,IT k)] [⟨(β 13),24,some 3,FX n (([rg,ra,rb,rc]).getD ((k.toNat + 2) % 4) default)⟩,⟨(β 12),24,some 3,FX n (([rg,ra,rb,rc]).getD ((k.toNat + 1) % 4) default)⟩,⟨b9,24,some 3,FX n (([rg,ra,rb,rc]).getD ((k.toNat + 3) % 4) default)⟩,⟨b8,24,some 3,FX n (([rg,ra,rb,rc]).getD k.toNat default)⟩,⟨b2,26,some 12,PTS [(some 3,FX n rg),(some 3,FX n ra),(some 3,FX n rb),(some 3,FX n rc)]⟩] a _ _:=S.keep [0,1,14,15,16,17,18,19,20,21,22,23]
    generalize β 12 = b10 at S
    generalize β 13 = b11 at S
    refine wn hK ?_;clear hK K
    refine wp_seq_k fun K hK=>?_
    refine S.drawn [⟨52,.g (FX n (([rg,ra,rb,rc]).getD k.toNat default)),[]⟩,⟨53,.g (FX n (([rg,ra,rb,rc]).getD ((k.toNat + 3) % 4) default)),[]⟩,⟨54,.g (QC (max n n) (maxQ ((([rg,ra,rb,rc]).getD k.toNat default).val) ((([rg,ra,rb,rc]).getD ((k.toNat + 3) % 4) default).val))),[0,1]⟩,⟨55,.g (FX n (([rg,ra,rb,rc]).getD k.toNat default)),[]⟩,⟨56,.g (FX n (([rg,ra,rb,rc]).getD ((k.toNat + 3) % 4) default)),[]⟩,⟨57,.g (QC (max n n) (minQ ((([rg,ra,rb,rc]).getD k.toNat default).val) ((([rg,ra,rb,rc]).getD ((k.toNat + 3) % 4) default).val))),[3,4]⟩,⟨12,.al mkP 24 (some 3) (MT.ex (.agg #[.bool false,.slice none 0 0,.slice none 0 0])),[]⟩,⟨13,.al mkP 24 (some 3) (MT.ex (.agg #[.bool false,.slice none 0 0,.slice none 0 0])),[]⟩] mixedOrders (by kernel_rfl)
     ⟨fun a w G S=>.of rfl (OpR.ldBox S.ok rfl (S.e 3 rfl) (S.box 3 rfl) tS_24),
      fun a w G S=>.of rfl (OpR.ldBox S.ok rfl (S.e 2 rfl) (S.box 2 rfl) tS_24),
      fun a w G S=>.of rfl (OpR.call2 rfl c_39 (fMax_ok S.ok (FX.toQV (S.g 0 rfl)) (FX.toQV (S.g 1 rfl)) (by omega))),
      fun a w G S=>.of rfl (OpR.ldBox S.ok rfl (S.e 3 rfl) (S.box 3 rfl) tS_24),
      fun a w G S=>.of rfl (OpR.ldBox S.ok rfl (S.e 2 rfl) (S.box 2 rfl) tS_24),
      fun a w G S=>.of rfl (OpR.call2 rfl c_40 (fMin_ok S.ok (FX.toQV (S.g 0 rfl)) (FX.toQV (S.g 1 rfl)) (by omega))),
      ⟨fun _=>rfl,rfl,fun a w G S=>OpB.alloc S.ok rfl z_24 zs_24⟩,
      ⟨fun _=>rfl,rfl,fun a w G S=>OpB.alloc S.ok rfl z_24 zs_24⟩,trivial⟩ fun β a w G S=>?_
    replace S : St W0 G0 82 [(13,PB (β 7)),(12,PB (β 6)),(57,QC (max n n) (minQ ((([rg,ra,rb,rc]).getD k.toNat default).val) ((([rg,ra,rb,rc]).getD ((k.toNat + 3) % 4) default).val))),(54,QC (max n n) (maxQ ((([rg,ra,rb,rc]).getD k.toNat default).val) ((([rg,ra,rb,rc]).getD ((k.toNat + 3) % 4) default).val))),(11,PB b11),(10,PB b10),(9,PB b9),(8,PB b8),(7,LS (some 3) (([rg,ra,rb,rc]).map (FX n))),(26,BT (decide (k > 3))),(19,BT (decide ((chkF [rg,ra,rb,rc]) ≠ 0))),(6,MT.ex (errV 43 (chkF [rg,ra,rb,rc]))),(5,MT.ex (Value.nilIface)),(4,BT false),(2,PB b2),(1,IT k)] [⟨(β 7),24,some 3,MT.ex ((.agg #[.bool false,.slice none 0 0,.slice none 0 0] : Value))⟩,⟨(β 6),24,some 3,MT.ex ((.agg #[.bool false,.slice none 0 0,.slice none 0 0] : Value))⟩,⟨b11,24,some 3,FX n (([rg,ra,rb,rc]).getD ((k.toNat + 2) % 4) default)⟩,⟨b10,24,some 3,FX n (([rg,ra,rb,rc]).getD ((k.toNat + 1) % 4) default)⟩,⟨b9,24,some 3,FX n (([rg,ra,rb,rc]).getD ((k.toNat + 3) % 4) default)⟩,⟨b8,24,some 3,FX n (([rg,ra,rb,rc]).getD k.toNat default)⟩,⟨b2,26,some 12,PTS [(some 3,FX n rg),(some 3,FX n ra),(some 3,FX n rb),(some 3,FX n rc)]⟩] a _ _:=S.keep [0,1,2,5,8,9,10,11,12,13,14,15,16,17,18,19]
    generalize β 6 = b12 at S
    generalize β 7 = b13 at S
    refine S.store (τ:=QC (max n n) (maxQ ((([rg,ra,rb,rc]).getD k.toNat default).val) ((([rg,ra,rb,rc]).getD ((k.toNat + 3) % 4) default).val))) 1 rfl rfl rfl rfl (S.e 1 rfl) tS_24 (S.g 3 rfl) (sh (τ:=QC (max n n) (maxQ ((([rg,ra,rb,rc]).getD k.toNat default).val) ((([rg,ra,rb,rc]).getD ((k.toNat + 3) % 4) default).val))) (S.g 3 rfl)) fun w S=>?_
    replace S:=S.n1
    refine S.store (τ:=QC (max n n) (minQ ((([rg,ra,rb,rc]).getD k.toNat default).val) ((([rg,ra,rb,rc]).getD ((k.toNat + 3) % 4) default).val))) 0 rfl rfl rfl rfl (S.e 0 rfl) tS_24 (S.g 2 rfl) (sh (τ:=QC (max n n) (minQ ((([rg,ra,rb,rc]).getD k.toNat default).val) ((([rg,ra,rb,rc]).getD ((k.toNat + 3) % 4) default).val))) (S.g 2 rfl)) fun w S=>?_
    replace S:=S.n0
    refine wn hK ?_;clear hK K
    replace S:=S.d3.d2
    refine wp_seq_k fun K hK=>?_
    refine S.drawn [⟨58,.g (FX n (([rg,ra,rb,rc]).getD ((k.toNat + 1) % 4) default)),[]⟩,⟨59,.g (FX n (([rg,ra,rb,rc]).getD ((k.toNat + 2) % 4) default)),[]⟩,⟨60,.g (QC (max n n) (maxQ ((([rg,ra,rb,rc]).getD ((k.toNat + 1) % 4) default).val) ((([rg,ra,rb,rc]).getD ((k.toNat + 2) % 4) default).val))),[0,1]⟩,⟨61,.g (FX n (([rg,ra,rb,rc]).getD ((k.toNat + 1) % 4) default)),[]⟩,⟨62,.g (FX n (([rg,ra,rb,rc]).getD ((k.toNat + 2) % 4) default)),[]⟩,⟨63,.g (QC (max n n) (minQ ((([rg,ra,rb,rc]).getD ((k.toNat + 1) % 4) default).val) ((([rg,ra,rb,rc]).getD ((k.toNat + 2) % 4) default).val))),[3,4]⟩,⟨14,.al mkP 24 (some 3) (MT.ex (.agg #[.bool false,.slice none 0 0,.slice none 0 0])),[]⟩,⟨15,.al mkP 24 (some 3) (MT.ex (.agg #[.bool false,.slice none 0 0,.slice none 0 0])),[]⟩] mixedOrders (by kernel_rfl)
     ⟨fun a w G S=>.of rfl (OpR.ldBox S.ok rfl (S.e 3 rfl) (S.box 3 rfl) tS_24),
      fun a w G S=>.of rfl (OpR.ldBox S.ok rfl (S.e 2 rfl) (S.box 2 rfl) tS_24),
      fun a w G S=>.of rfl (OpR.call2 rfl c_39 (fMax_ok S.ok (FX.toQV (S.g 0 rfl)) (FX.toQV (S.g 1 rfl)) (by omega))),
      fun a w G S=>.of rfl (OpR.ldBox S.ok rfl (S.e 3 rfl) (S.box 3 rfl) tS_24),
      fun a w G S=>.of rfl (OpR.ldBox S.ok rfl (S.e 2 rfl) (S.box 2 rfl) tS_24),
      fun a w G S=>.of rfl (OpR.call2 rfl c_40 (fMin_ok S.ok (FX.toQV (S.g 0 rfl)) (FX.toQV (S.g 1 rfl)) (by omega))),
      ⟨fun _=>rfl,rfl,fun a w G S=>OpB.alloc S.ok rfl z_24 zs_24⟩,
      ⟨fun _=>rfl,rfl,fun a w G S=>OpB.alloc S.ok rfl z_24 zs_24⟩,trivial⟩ fun β a w G S=>?_
    replace S : St W0 G0 82 [(15,PB (β 7)),(14,PB (β 6)),(63,QC (max n n) (minQ ((([rg,ra,rb,rc]).getD ((k.toNat + 1) % 4) default).val) ((([rg,ra,rb,rc]).getD ((k.toNat + 2) % 4) default).val))),(60,QC (max n n) (maxQ ((([rg,ra,rb,rc]).getD ((k.toNat + 1) % 4) default).val) ((([rg,ra,rb,rc]).getD ((k.toNat + 2) % 4) default).val))),(13,PB b13),(12,PB b12),(11,PB b11),(10,PB b10),(9,PB b9),(8,PB b8),(7,LS (some 3) (([rg,ra,rb,rc]).map (FX n))),(26,BT (decide (k > 3))),(19,BT (decide ((chkF [rg,ra,rb,rc]) ≠ 0))),(6,MT.ex (errV 43 (chkF [rg,ra,rb,rc]))),(5,MT.ex (Value.nilIface)),(4,BT false),(2,PB b2),(1,IT k)] [⟨(β 7),24,some 3,MT.ex ((.agg #[.bool false,.slice none 0 0,.slice none 0 0] : Value))⟩,⟨(β 6),24,some 3,MT.ex ((.agg #[.bool false,.slice none 0 0,.slice none 0 0] : Value))⟩,⟨b13,24,some 3,QC (max n n) (minQ ((([rg,ra,rb,rc]).getD k.toNat default).val) ((([rg,ra,rb,rc]).getD ((k.toNat + 3) % 4) default).val))⟩,⟨b12,24,some 3,QC (max n n) (maxQ ((([rg,ra,rb,rc]).getD k.toNat default).val) ((([rg,ra,rb,rc]).getD ((k.toNat + 3) % 4) default).val))⟩,⟨b11,24,some 3,FX n (([rg,ra,rb,rc]).getD ((k.toNat + 2) % 4) default)⟩,⟨b10,24,some 3,FX n (([rg,ra,rb,rc]).getD ((k.toNat + 1) % 4) default)⟩,⟨b9,24,some 3,FX n (([rg,ra,rb,rc]).getD ((k.toNat + 3) % 4) default)⟩,⟨b8,24,some 3,FX n (([rg,ra,rb,rc]).getD k.toNat default)⟩,⟨b2,26,some 12,PTS [(some 3,FX n rg),(some 3,FX n ra),(some 3,FX n rb),(some 3,FX n rc)]⟩] a _ _:=S.keep [0,1,2,5,8,9,10,11,12,13,14,15,16,17,18,19,20,21]
    generalize β 6 = b14 at S
    generalize β 7 = b15 at S
    refine S.store (τ:=QC (max n n) (maxQ ((([rg,ra,rb,rc]).getD ((k.toNat + 1) % 4) default).val) ((([rg,ra,rb,rc]).getD ((k.toNat + 2) % 4) default).val))) 1 rfl rfl rfl rfl (S.e 1 rfl) tS_24 (S.g 3 rfl) (sh (τ:=QC (max n n) (maxQ ((([rg,ra,rb,rc]).getD ((k.toNat + 1) % 4) default).val) ((([rg,ra,rb,rc]).getD ((k.toNat + 2) % 4) default).val))) (S.g 3 rfl)) fun w S=>?_
    replace S:=S.n1
    refine S.store (τ:=QC (max n n) (minQ ((([rg,ra,rb,rc]).getD ((k.toNat + 1) % 4) default).val) ((([rg,ra,rb,rc]).getD ((k.toNat + 2) % 4) default).val))) 0 rfl rfl rfl rfl (S.e 0 rfl) tS_24 (S.g 2 rfl) (sh (τ:=QC (max n n) (minQ ((([rg,ra,rb,rc]).getD ((k.toNat + 1) % 4) default).val) ((([rg,ra,rb,rc]).getD ((k.toNat + 2) % 4) default).val))) (S.g 2 rfl)) fun w S=>?_
    replace S:=S.n0
    refine wn hK ?_;clear hK K
    replace S:=S.d3.d2
    refine wp_reg fun K hK=>?_
    refine S.s (OpR.ldBox S.ok rfl (S.e 7 rfl) (S.box 7 rfl) tS_24) rfl fun a w G S=>?_
    refine S.s (OpR.ldBox S.ok rfl (S.e 7 rfl) (S.box 6 rfl) tS_24) rfl fun a w G S=>?_
    refine S.s (τ:=LS (some 3) (([([rg,ra,rb,rc]).getD k.toNat default,([rg,ra,rb,rc]).getD ((k.toNat + 3) % 4) default]).map (FX n))) (OpR.buildS (k:=some 3) (τs:=[([rg,ra,rb,rc]).getD k.toNat default,([rg,ra,rb,rc]).getD ((k.toNat + 3) % 4) default].map (FX n)) (us:=[a.eval (.tmp 64),a.eval (.tmp 65)]) S.ok rfl Tryz.underlying48 el_24 rfl (by decide) (by decide) (by simp [Act.eval]) rfl (Els.cons (sh (τ:=FX n (([rg,ra,rb,rc]).getD k.toNat default)) (S.g 1 rfl)) (S.g 1 rfl) (Els.cons (sh (τ:=FX n (([rg,ra,rb,rc]).getD ((k.toNat + 3) % 4) default)) (S.g 0 rfl)) (S.g 0 rfl) Els.nil))) rfl fun a w G S=>?_
    refine S.s (OpR.ldBox S.ok rfl (S.e 8 rfl) (S.box 5 rfl) tS_24) rfl fun a w G S=>?_
    refine S.s (OpR.ldBox S.ok rfl (S.e 8 rfl) (S.box 4 rfl) tS_24) rfl fun a w G S=>?_
    refine S.s (τ:=LS (some 3) (([([rg,ra,rb,rc]).getD ((k.toNat + 1) % 4) default,([rg,ra,rb,rc]).getD ((k.toNat + 2) % 4) default]).map (FX n))) (OpR.buildS (k:=some 3) (τs:=[([rg,ra,rb,rc]).getD ((k.toNat + 1) % 4) default,([rg,ra,rb,rc]).getD ((k.toNat + 2) % 4) default].map (FX n)) (us:=[a.eval (.tmp 67),a.eval (.tmp 68)]) S.ok rfl Tryz.underlying48 el_24 rfl (by decide) (by decide) (by simp [Act.eval]) rfl (Els.cons (sh (τ:=FX n (([rg,ra,rb,rc]).getD ((k.toNat + 1) % 4) default)) (S.g 1 rfl)) (S.g 1 rfl) (Els.cons (sh (τ:=FX n (([rg,ra,rb,rc]).getD ((k.toNat + 2) % 4) default)) (S.g 0 rfl)) (S.g 0 rfl) Els.nil))) rfl fun a w G S=>?_
    refine S.s (τ:=IT (compareF (([([rg,ra,rb,rc]).getD k.toNat default,([rg,ra,rb,rc]).getD ((k.toNat + 3) % 4) default]).map FR.val) (([([rg,ra,rb,rc]).getD ((k.toNat + 1) % 4) default,([rg,ra,rb,rc]).getD ((k.toNat + 2) % 4) default]).map FR.val))) (OpR.call2 rfl c_41 (xcompare_ok S.ok (LS.convM (T:=(FX n)) (U:=(QV n)) (f:=FR.val) (S.g 3 rfl) (by first | rfl | (simp;done)) fun z_ _ _ _ h=>(QV.eq (FX.toQV h) (by first | rfl | omega | (simp only [Nat.zero_add,Nat.add_zero];done) | (simp;done) | (push_cast;omega)))) (LS.convM (T:=(FX n)) (U:=(QV n)) (f:=FR.val) (S.g 0 rfl) (by first | rfl | (simp;done)) fun z_ _ _ _ h=>(QV.eq (FX.toQV h) (by first | rfl | omega | (simp only [Nat.zero_add,Nat.add_zero];done) | (simp;done) | (push_cast;omega)))) (by omega) (by omega) (by omega))) rfl fun a w G S=>?_
    refine S.s (OpR.ileq S.ok rfl (S.e 0 rfl) (rfl : _ = nv .i64 0) MT.self) rfl fun a w G S=>?_
    refine S.m rfl (S.g 0 rfl) rfl fun a w G S=>?_
    rcases Bool.eq_false_or_eq_true (decide ((compareF (([([rg,ra,rb,rc]).getD k.toNat default,([rg,ra,rb,rc]).getD ((k.toNat + 3) % 4) default]).map FR.val) (([([rg,ra,rb,rc]).getD ((k.toNat + 1) % 4) default,([rg,ra,rb,rc]).getD ((k.toNat + 2) % 4) default]).map FR.val)) ≤ 0)) with hc10 | hc10
    ·
     have hp11:=of_decide_eq_true hc10
     replace S:=S.boolIs 0 rfl hc10
     refine S.stepG 0 (OpR.ldBox S.ok rfl (S.e 13 rfl) (S.box 3 rfl) tS_24) rfl rfl rfl rfl rfl rfl fun a w G S=>?_
     refine S.stepG 1 (OpR.ldBox S.ok rfl (S.e 11 rfl) (S.box 0 rfl) tS_24) rfl rfl rfl rfl rfl rfl fun a w G S=>?_
     refine S.stepG (τ:=LS (some 3) (([maxQ ((([rg,ra,rb,rc]).getD k.toNat default).val) ((([rg,ra,rb,rc]).getD ((k.toNat + 3) % 4) default).val),minQ ((([rg,ra,rb,rc]).getD ((k.toNat + 1) % 4) default).val) ((([rg,ra,rb,rc]).getD ((k.toNat + 2) % 4) default).val)]).map (QV n))) 2 (OpR.buildS (k:=some 3) (τs:=[maxQ ((([rg,ra,rb,rc]).getD k.toNat default).val) ((([rg,ra,rb,rc]).getD ((k.toNat + 3) % 4) default).val),minQ ((([rg,ra,rb,rc]).getD ((k.toNat + 1) % 4) default).val) ((([rg,ra,rb,rc]).getD ((k.toNat + 2) % 4) default).val)].map (QV n)) (us:=[a.eval (.tmp 73),a.eval (.tmp 74)]) S.ok rfl Tryz.underlying48 el_24 rfl (by decide) (by decide) (by simp [Act.eval]) rfl (Els.cons (sh (τ:=QV n (maxQ ((([rg,ra,rb,rc]).getD k.toNat default).val) ((([rg,ra,rb,rc]).getD ((k.toNat + 3) % 4) default).val))) (QV.up (QC.toQV (S.g 1 rfl)) (by omega))) (QV.up (QC.toQV (S.g 1 rfl)) (by omega)) (Els.cons (sh (τ:=QV n (minQ ((([rg,ra,rb,rc]).getD ((k.toNat + 1) % 4) default).val) ((([rg,ra,rb,rc]).getD ((k.toNat + 2) % 4) default).val))) (QV.up (QC.toQV (S.g 0 rfl)) (by omega))) (QV.up (QC.toQV (S.g 0 rfl)) (by omega)) Els.nil))) rfl rfl rfl rfl rfl rfl fun a w G S=>?_
     refine S.stepG 3 (OpR.ldBox S.ok rfl (S.e 15 rfl) (S.box 2 rfl) tS_24) rfl rfl rfl rfl rfl rfl fun a w G S=>?_
     refine S.stepG 4 (OpR.ldBox S.ok rfl (S.e 15 rfl) (S.box 1 rfl) tS_24) rfl rfl rfl rfl rfl rfl fun a w G S=>?_
     refine S.stepG (τ:=LS (some 3) (([minQ ((([rg,ra,rb,rc]).getD k.toNat default).val) ((([rg,ra,rb,rc]).getD ((k.toNat + 3) % 4) default).val),maxQ ((([rg,ra,rb,rc]).getD ((k.toNat + 1) % 4) default).val) ((([rg,ra,rb,rc]).getD ((k.toNat + 2) % 4) default).val)]).map (QV n))) 5 (OpR.buildS (k:=some 3) (τs:=[minQ ((([rg,ra,rb,rc]).getD k.toNat default).val) ((([rg,ra,rb,rc]).getD ((k.toNat + 3) % 4) default).val),maxQ ((([rg,ra,rb,rc]).getD ((k.toNat + 1) % 4) default).val) ((([rg,ra,rb,rc]).getD ((k.toNat + 2) % 4) default).val)].map (QV n)) (us:=[a.eval (.tmp 76),a.eval (.tmp 77)]) S.ok rfl Tryz.underlying48 el_24 rfl (by decide) (by decide) (by simp [Act.eval]) rfl (Els.cons (sh (τ:=QV n (minQ ((([rg,ra,rb,rc]).getD k.toNat default).val) ((([rg,ra,rb,rc]).getD ((k.toNat + 3) % 4) default).val))) (QV.up (QC.toQV (S.g 1 rfl)) (by omega))) (QV.up (QC.toQV (S.g 1 rfl)) (by omega)) (Els.cons (sh (τ:=QV n (maxQ ((([rg,ra,rb,rc]).getD ((k.toNat + 1) % 4) default).val) ((([rg,ra,rb,rc]).getD ((k.toNat + 2) % 4) default).val))) (QV.up (QC.toQV (S.g 0 rfl)) (by omega))) (QV.up (QC.toQV (S.g 0 rfl)) (by omega)) Els.nil))) rfl rfl rfl rfl rfl rfl fun a w G S=>?_
     refine S.stepG (τ:=IT (compareF ([maxQ ((([rg,ra,rb,rc]).getD k.toNat default).val) ((([rg,ra,rb,rc]).getD ((k.toNat + 3) % 4) default).val),minQ ((([rg,ra,rb,rc]).getD ((k.toNat + 1) % 4) default).val) ((([rg,ra,rb,rc]).getD ((k.toNat + 2) % 4) default).val)]) ([minQ ((([rg,ra,rb,rc]).getD k.toNat default).val) ((([rg,ra,rb,rc]).getD ((k.toNat + 3) % 4) default).val),maxQ ((([rg,ra,rb,rc]).getD ((k.toNat + 1) % 4) default).val) ((([rg,ra,rb,rc]).getD ((k.toNat + 2) % 4) default).val)]))) 6 (OpR.call2 rfl c_41 (xcompare_ok S.ok (LS.eqM (S.g 3 rfl) (by first | rfl | omega | (simp only [Nat.zero_add,Nat.add_zero];done) | (simp;done) | (push_cast;omega))) (LS.eqM (S.g 0 rfl) (by first | rfl | omega | (simp only [Nat.zero_add,Nat.add_zero];done) | (simp;done) | (push_cast;omega))) (by omega) (by omega) (by omega))) rfl rfl rfl rfl rfl rfl fun a w G S=>?_
     refine S.stepG 7 (OpR.igeq S.ok rfl (S.e 0 rfl) (rfl : _ = nv .i64 0) MT.self) rfl rfl rfl rfl rfl rfl fun a w G S=>?_
     refine S.s (τ:=BT (decide ((compareF ([maxQ ((([rg,ra,rb,rc]).getD k.toNat default).val) ((([rg,ra,rb,rc]).getD ((k.toNat + 3) % 4) default).val),minQ ((([rg,ra,rb,rc]).getD ((k.toNat + 1) % 4) default).val) ((([rg,ra,rb,rc]).getD ((k.toNat + 2) % 4) default).val)]) ([minQ ((([rg,ra,rb,rc]).getD k.toNat default).val) ((([rg,ra,rb,rc]).getD ((k.toNat + 3) % 4) default).val),maxQ ((([rg,ra,rb,rc]).getD ((k.toNat + 1) % 4) default).val) ((([rg,ra,rb,rc]).getD ((k.toNat + 2) % 4) default).val)])) ≥ 0))) (OpR.pick S.ok rfl (S.e 8 rfl) (S.g 0 rfl)) rfl fun a w G S=>?_
     replace S:=S.d32
     refine S.q rfl (S.g 0 rfl) rfl fun a w G S=>?_
     replace S:=S.d32
     refine S.s (τ:=MT.ex (Value.nilIface)) (OpR.asn S.ok rfl rfl) rfl fun a w G S=>?_
     refine wn hK ?_;clear hK K
     replace S:=S.d20.d19.d18.d17.d16.d15.d14.d13.d12.d11.d10.d9.d8.d7.d6.d5.d4.d3.d2
     exact wp_ret (S.retTmp2 rfl ((S.e 1 rfl).trans (bv_eq (by first | exact rotF_9 (by omega) (by omega) | exact rotF_t (by omega) (by omega) ‹_› | exact rotF_f (by omega) (by omega) ‹_›))) ((S.e 0 rfl).trans (by first | exact errV_ne (rotC_9 (by omega) (by omega)) (by decide) | exact errV_z (rotC_ok (by omega) (by omega)))))
    ·
     have hp12:=of_decide_eq_false hc10
     replace S:=S.boolIs 0 rfl hc10
     refine S.skipG 0 rfl rfl rfl rfl rfl rfl fun a w G S=>?_
     refine S.skipG 1 rfl rfl rfl rfl rfl rfl fun a w G S=>?_
     refine S.skipG 2 rfl rfl rfl rfl rfl rfl fun a w G S=>?_
     refine S.skipG 3 rfl rfl rfl rfl rfl rfl fun a w G S=>?_
     refine S.skipG 4 rfl rfl rfl rfl rfl rfl fun a w G S=>?_
     refine S.skipG 5 rfl rfl rfl rfl rfl rfl fun a w G S=>?_
     refine S.skipG 6 rfl rfl rfl rfl rfl rfl fun a w G S=>?_
     refine S.skipG 7 rfl rfl rfl rfl rfl rfl fun a w G S=>?_
     refine S.s (τ:=BT false) (OpR.pick S.ok rfl (S.e 8 rfl) rfl) rfl fun a w G S=>?_
     replace S:=S.d32
     refine S.q rfl (S.g 0 rfl) rfl fun a w G S=>?_
     replace S:=S.d32
     refine S.s (τ:=MT.ex (Value.nilIface)) (OpR.asn S.ok rfl rfl) rfl fun a w G S=>?_
     refine wn hK ?_;clear hK K
     replace S:=S.d20.d19.d18.d17.d16.d15.d14.d13.d12.d11.d10.d9.d8.d7.d6.d5.d4.d3.d2
     exact wp_ret (S.retTmp2 rfl ((S.e 1 rfl).trans (bv_eq (by first | exact rotF_9 (by omega) (by omega) | exact rotF_t (by omega) (by omega) ‹_› | exact rotF_f (by omega) (by omega) ‹_›))) ((S.e 0 rfl).trans (by first | exact errV_ne (rotC_9 (by omega) (by omega)) (by decide) | exact errV_z (rotC_ok (by omega) (by omega)))))
theorem rShort_ok {l : List FR} {v1 : Value} {W0 : World} {G0 : Gh} (hok : Gok W0 G0) (h1 : (LS (some 3) ((l).map (RX))).t v1 G0)  : Calls Tryz.prog 24 #[v1] W0 (Ret W0 G0 (BT (shortF l))):=by
 have hlim:=LS.lenM h1
 simp only [LIM] at hlim
 refine St.enter (N:=25) (L:=[(0,LS (some 3) ((l).map (RX)))]) (args:=[v1]) Tryz.func24 rfl rfl rfl hok (enter1 h1) fun a S=>?_
 refine wp_reg fun K hK=>?_
 refine S.s (τ:=BT false) (OpR.asn S.ok rfl rfl) rfl fun a w G S=>?_
 refine wn hK ?_;clear hK K
 refine wp_seq_k fun K hK=>?_
 refine wp_reg fun K hK=>?_
 refine S.m rfl (S.g 1 rfl) rfl fun a w G S=>?_
 refine S.s (OpR.lenM S.ok rfl Tryz.underlying48 (S.g 0 rfl) MT.self) rfl fun a w G S=>?_
 refine S.s (τ:=NT 0) (OpR.mv S.ok rfl (rfl : _ = nv .i64 0)) rfl fun a w G S=>?_
 refine wn hK ?_;clear hK K
 refine wp_block ?_
 refine wp_loopJ (fun μ a w=>∃ (j : Nat) (G : Gh),μ = l.length - j ∧ (j ≤ l.length) ∧ ((l.take j).all shortR = true) ∧  St W0 G0 25 [(7,NT j),(6,NT l.length),(5,LS (some 3) ((l).map (RX))),(2,BT false),(0,LS (some 3) ((l).map (RX)))] [] a w G) (l.length - 0) ⟨0,_,rfl,(by omega),rfl,(S.keep [0,1,2,3,4]).keepB [] (by decide)⟩ ?_
 clear S
 intro μ a w ⟨j,G,hm,hj,hg,S⟩
 refine wp_reg fun K hK=>?_
 refine S.s (OpR.nlss S.ok rfl (S.e 0 rfl) (S.e 1 rfl) MT.self) rfl fun a w G S=>?_
 refine wn hK ?_;clear hK K
 refine wp_seq_k fun K hK=>?_
 refine S.cond 0 rfl (fun hc1=>?_) (fun hc1=>?_)
 ·
  have hp2:=of_decide_eq_true hc1
  refine wp_skip ?_
  refine hK _ _ ?_;clear hK K
  refine wp_seq_k fun K hK=>?_
  refine wp_block ?_
  refine wp_reg fun K hK=>?_
  refine S.s (τ:=PE (some 3) (RX (l.getD j default))) (OpR.ixM (T:=(RX)) (xs:=l) (i:=j) S.ok rfl Tryz.underlying48 tS_24 (S.g 3 rfl) (S.e 1 rfl) rfl (by first | omega | (simp;omega))) rfl fun a w G S=>?_
  refine S.s (OpR.ldE S.ok rfl tS_24 (S.g 0 rfl)) rfl fun a w G S=>?_
  refine S.alloc rfl rfl rfl z_24 zs_24 rfl rfl fun b4 a w G S=>?_
  refine S.store (τ:=RX (l.getD j default)) 0 rfl rfl rfl rfl (S.e 0 rfl) tS_24 (S.g 1 rfl) (sh (τ:=RX (l.getD j default)) (S.g 1 rfl)) fun w S=>?_
  replace S:=S.n0
  refine wn hK ?_;clear hK K
  replace S:=S.d2.d1
  refine wp_reg fun K hK=>?_
  refine S.s (τ:=MT.ex (Value.pointer (some ⟨b4,1,none⟩))) (OpR.fldA S.ok rfl (S.e 0 rfl) fo_24_1 rfl) rfl fun a w G S=>?_
  refine S.s (OpR.ldCell S.ok rfl (S.e 0 rfl) (S.box 0 rfl) tS_22 fun _ h hs=>RX.f1 h hs) rfl fun a w G S=>?_
  refine S.s (OpR.lenL S.ok rfl Tryz.underlying22 (S.g 0 rfl) MT.self) rfl fun a w G S=>?_
  refine S.s (OpR.ngtr S.ok rfl (S.e 0 rfl) (rfl : _ = nv .i64 2) MT.self) rfl fun a w G S=>?_
  refine S.m rfl (S.g 0 rfl) rfl fun a w G S=>?_
  rcases Bool.eq_false_or_eq_true (decide (2 < (((l.getD j default).p).length))) with hc3 | hc3
  ·
   have hp4:=of_decide_eq_true hc3
   replace S:=S.boolIs 0 rfl hc3
   refine S.skipG 0 rfl rfl rfl rfl rfl rfl fun a w G S=>?_
   refine S.skipG 1 rfl rfl rfl rfl rfl rfl fun a w G S=>?_
   refine S.skipG 2 rfl rfl rfl rfl rfl rfl fun a w G S=>?_
   refine S.skipG 3 rfl rfl rfl rfl rfl rfl fun a w G S=>?_
   refine S.s (τ:=BT true) (OpR.pick S.ok rfl (S.e 4 rfl) rfl) rfl fun a w G S=>?_
   refine wn hK ?_;clear hK K
   replace S:=S.d10.d9.d8.d7.d6.d5.d4.d3.d2.d1
   refine wp_cond_true (S.e 0 rfl) ?_
   refine wp_reg fun K hK=>?_
   replace S:=S.d6
   refine S.s (τ:=BT false) (OpR.asn S.ok rfl rfl) rfl fun a w G S=>?_
   refine wn hK ?_;clear hK K
   exact wp_ret (block_ret (then_ret (then_ret (block_ret (then_ret (S.retTmp rfl ((S.e 0 rfl).trans (bv_eq (by first | (unfold shortF;rw [all_not (show j < l.length by omega) (shortR_not (by omega))];rfl) | (unfold shortF;rw [all_end (show ¬ j < l.length by omega) hg,Bool.true_and]))))))))))
  ·
   have hp5:=of_decide_eq_false hc3
   replace S:=S.boolIs 0 rfl hc3
   refine S.stepG (τ:=MT.ex (Value.pointer (some ⟨b4,2,none⟩))) 0 (OpR.fldA S.ok rfl (S.e 6 rfl) fo_24_2 rfl) rfl rfl rfl rfl rfl rfl fun a w G S=>?_
   refine S.stepG 1 (OpR.ldCell S.ok rfl (S.e 0 rfl) (S.box 0 rfl) tS_22 fun _ h hs=>RX.f2 h hs) rfl rfl rfl rfl rfl rfl fun a w G S=>?_
   refine S.stepG 2 (OpR.lenL S.ok rfl Tryz.underlying22 (S.g 0 rfl) MT.self) rfl rfl rfl rfl rfl rfl fun a w G S=>?_
   refine S.stepG 3 (OpR.ngtr S.ok rfl (S.e 0 rfl) (rfl : _ = nv .i64 2) MT.self) rfl rfl rfl rfl rfl rfl fun a w G S=>?_
   refine S.s (τ:=BT (decide (2 < (((l.getD j default).q).length)))) (OpR.pick S.ok rfl (S.e 4 rfl) (S.g 0 rfl)) rfl fun a w G S=>?_
   refine wn hK ?_;clear hK K
   replace S:=S.d10.d9.d8.d7.d6.d5.d4.d3.d2.d1
   refine S.cond 0 rfl (fun hc6=>?_) (fun hc6=>?_)
   ·
    have hp7:=of_decide_eq_true hc6
    refine wp_reg fun K hK=>?_
    replace S:=S.d6
    refine S.s (τ:=BT false) (OpR.asn S.ok rfl rfl) rfl fun a w G S=>?_
    refine wn hK ?_;clear hK K
    exact wp_ret (block_ret (then_ret (then_ret (block_ret (then_ret (S.retTmp rfl ((S.e 0 rfl).trans (bv_eq (by first | (unfold shortF;rw [all_not (show j < l.length by omega) (shortR_not (by omega))];rfl) | (unfold shortF;rw [all_end (show ¬ j < l.length by omega) hg,Bool.true_and]))))))))))
   ·
    have hp8:=of_decide_eq_false hc6
    refine wp_skip ?_
    refine hK _ _ ?_;clear hK K
    refine wp_region_lit ?_
    refine S.s (OpR.nadd S.ok rfl (S.e 3 rfl) (rfl : _ = nv .i64 1) (wr_i64 (by omega)) MT.self) rfl fun a w G S=>?_
    replace S:=S.d4
    refine S.m rfl (S.g 0 rfl) rfl fun a w G S=>?_
    refine wpList_nil ?_
    replace S:=S.d1
    exact ⟨l.length - (j + 1),(by omega),j + 1,_,rfl,(by omega),(all_snoc (by omega) hg (shortR_of (by omega) (by omega))),(S.keep [0,4,5,6,7]).keepB [] (by decide)⟩
 ·
  have hp9:=of_decide_eq_false hc1
  refine wp_exit (then_exit (then_exit (exit_same ?_)))
  clear hK K
  refine hK _ _ ?_;clear hK K
  refine wp_reg fun K hK=>?_
  refine S.m rfl (S.g 5 rfl) rfl fun a w G S=>?_
  refine S.s (OpR.lenM S.ok rfl Tryz.underlying48 (S.g 0 rfl) MT.self) rfl fun a w G S=>?_
  refine S.s (OpR.nlss S.ok rfl (S.e 0 rfl) (rfl : _ = nv .i64 60) MT.self) rfl fun a w G S=>?_
  replace S:=S.d7
  refine S.q rfl (S.g 0 rfl) rfl fun a w G S=>?_
  refine wn hK ?_;clear hK K
  replace S:=S.d3.d2.d1
  exact wp_ret (S.retTmp rfl ((S.e 0 rfl).trans (bv_eq (by first | (unfold shortF;rw [all_not (show j < l.length by omega) (shortR_not (by omega))];rfl) | (unfold shortF;rw [all_end (show ¬ j < l.length by omega) hg,Bool.true_and])))))
end Go.Proofs.YtdeihehaheelmaaGreat
namespace Go.Proofs.YtdeihehaheelmaaGreat
set_option maxHeartbeats 1000000
set_option maxRecDepth 100000
open Go.RowKit (Below)
private theorem bp_26_0_1_2_3 : ∀ {u0 : Value} {u1 : Value} {u2 : Value} {u3 : Value} (h0 : Shaped (some 3) u0) (h1 : Shaped (some 3) u1) (h2 : Shaped (some 3) u2) (h3 : Shaped (some 3) u3),Tryz.prog.built 26 [(0,u0),(1,u1),(2,u2),(3,u3)] = some (flat [u0,u1,u2,u3]).toArray:=by
 intro u0 u1 u2 u3 h0 h1 h2 h3
 obtain ⟨c0_0,c0_1,c0_2,rfl⟩:=agg3 h0
 obtain ⟨c1_0,c1_1,c1_2,rfl⟩:=agg3 h1
 obtain ⟨c2_0,c2_1,c2_2,rfl⟩:=agg3 h2
 obtain ⟨c3_0,c3_1,c3_2,rfl⟩:=agg3 h3
 kernel_rfl
private theorem c_14 : callable Tryz.prog 14 = true:=by kernel_rfl
private theorem c_20 : callable Tryz.prog 20 = true:=by kernel_rfl
private theorem c_21 : callable Tryz.prog 21 = true:=by kernel_rfl
private theorem c_22 : callable Tryz.prog 22 = true:=by kernel_rfl
private theorem c_8 : callable Tryz.prog 8 = true:=by kernel_rfl
private theorem z_26 : (Tryz.prog.info? 26).bind (·.zero) = some (.agg #[.bool false,.slice none 0 0,.slice none 0 0,.bool false,.slice none 0 0,.slice none 0 0,.bool false,.slice none 0 0,.slice none 0 0,.bool false,.slice none 0 0,.slice none 0 0]):=by kernel_rfl
private theorem zs_26 : Shaped (some 12) (.agg #[.bool false,.slice none 0 0,.slice none 0 0,.bool false,.slice none 0 0,.slice none 0 0,.bool false,.slice none 0 0,.slice none 0 0,.bool false,.slice none 0 0,.slice none 0 0]):=⟨_,rfl,rfl,by simp [Value.oneCell']⟩
theorem lExample_ok  {W0 : World} {G0 : Gh} (hok : Gok W0 G0)   : Calls Tryz.prog 20 #[] W0 (Ret W0 G0 (PTS [(some 3,FX 64 (FR.of 16)),(some 3,FX 64 (FR.of 1)),(some 3,FX 64 (FR.of 9)),(some 3,FX 64 (FR.of 9))])):=by
 refine St.enter (N:=6) (L:=[]) (args:=[]) Tryz.func20 rfl rfl rfl hok (enter0 ) fun a S=>?_
 refine wp_reg fun K hK=>?_
 refine S.alloc rfl rfl rfl z_26 zs_26 rfl rfl fun b0 a w G S=>?_
 refine wn hK ?_;clear hK K
 refine wp_reg fun K hK=>?_
 refine S.s (τ:=QC 64 16) (OpR.conv' (OpR.call1 rfl c_21 (gOf_ok S.ok ((rfl : _ = nv .i64 16).trans (iv_eq (by first | rfl | omega | (simp only [Nat.zero_add,Nat.add_zero];done) | (simp;done) | (push_cast;omega)))) (by omega))) fun _ _ h=>(QC.eq h (by rfl))) rfl fun a w G S=>?_
 refine S.s (τ:=QC 64 1) (OpR.conv' (OpR.call1 rfl c_21 (gOf_ok S.ok ((rfl : _ = nv .i64 1).trans (iv_eq (by first | rfl | omega | (simp only [Nat.zero_add,Nat.add_zero];done) | (simp;done) | (push_cast;omega)))) (by omega))) fun _ _ h=>(QC.eq h (by rfl))) rfl fun a w G S=>?_
 refine S.s (τ:=QC 64 9) (OpR.conv' (OpR.call1 rfl c_21 (gOf_ok S.ok ((rfl : _ = nv .i64 9).trans (iv_eq (by first | rfl | omega | (simp only [Nat.zero_add,Nat.add_zero];done) | (simp;done) | (push_cast;omega)))) (by omega))) fun _ _ h=>(QC.eq h (by rfl))) rfl fun a w G S=>?_
 refine S.s (τ:=QC 64 9) (OpR.conv' (OpR.call1 rfl c_21 (gOf_ok S.ok ((rfl : _ = nv .i64 9).trans (iv_eq (by first | rfl | omega | (simp only [Nat.zero_add,Nat.add_zero];done) | (simp;done) | (push_cast;omega)))) (by omega))) fun _ _ h=>(QC.eq h (by rfl))) rfl fun a w G S=>?_
 refine S.s (τ:=PTS [(some 3,FX 64 (FR.of 16)),(some 3,FX 64 (FR.of 1)),(some 3,FX 64 (FR.of 9)),(some 3,FX 64 (FR.of 9))]) (OpR.bldP (us:=[a.eval (.tmp 1),a.eval (.tmp 2),a.eval (.tmp 3),a.eval (.tmp 4)]) S.ok rfl (by simp only [List.map_toArray,List.map_cons,List.map_nil];exact bp_26_0_1_2_3 (u0:=a.eval (.tmp 1)) (u1:=a.eval (.tmp 2)) (u2:=a.eval (.tmp 3)) (u3:=a.eval (.tmp 4)) (sh (τ:=QC 64 16) (S.g 3 rfl)) (sh (τ:=QC 64 1) (S.g 2 rfl)) (sh (τ:=QC 64 9) (S.g 1 rfl)) (sh (τ:=QC 64 9) (S.g 0 rfl))) rfl (pts_cons (sh (τ:=FX 64 (FR.of 16)) (FX.eq (FX.up (QC.toFX (S.g 3 rfl) (by first | decide | omega)) (by first | decide | omega)) (by first | rfl | omega | (simp only [Nat.zero_add,Nat.add_zero];done) | (simp;done) | (push_cast;omega)))) (FX.eq (FX.up (QC.toFX (S.g 3 rfl) (by first | decide | omega)) (by first | decide | omega)) (by first | rfl | omega | (simp only [Nat.zero_add,Nat.add_zero];done) | (simp;done) | (push_cast;omega))) (pts_cons (sh (τ:=FX 64 (FR.of 1)) (FX.eq (FX.up (QC.toFX (S.g 2 rfl) (by first | decide | omega)) (by first | decide | omega)) (by first | rfl | omega | (simp only [Nat.zero_add,Nat.add_zero];done) | (simp;done) | (push_cast;omega)))) (FX.eq (FX.up (QC.toFX (S.g 2 rfl) (by first | decide | omega)) (by first | decide | omega)) (by first | rfl | omega | (simp only [Nat.zero_add,Nat.add_zero];done) | (simp;done) | (push_cast;omega))) (pts_cons (sh (τ:=FX 64 (FR.of 9)) (FX.eq (FX.up (QC.toFX (S.g 1 rfl) (by first | decide | omega)) (by first | decide | omega)) (by first | rfl | omega | (simp only [Nat.zero_add,Nat.add_zero];done) | (simp;done) | (push_cast;omega)))) (FX.eq (FX.up (QC.toFX (S.g 1 rfl) (by first | decide | omega)) (by first | decide | omega)) (by first | rfl | omega | (simp only [Nat.zero_add,Nat.add_zero];done) | (simp;done) | (push_cast;omega))) (pts_cons (sh (τ:=FX 64 (FR.of 9)) (FX.eq (FX.up (QC.toFX (S.g 0 rfl) (by first | decide | omega)) (by first | decide | omega)) (by first | rfl | omega | (simp only [Nat.zero_add,Nat.add_zero];done) | (simp;done) | (push_cast;omega)))) (FX.eq (FX.up (QC.toFX (S.g 0 rfl) (by first | decide | omega)) (by first | decide | omega)) (by first | rfl | omega | (simp only [Nat.zero_add,Nat.add_zero];done) | (simp;done) | (push_cast;omega))) pts_nil))))) rfl fun a w G S=>?_
 refine S.store (τ:=PTS [(some 3,FX 64 (FR.of 16)),(some 3,FX 64 (FR.of 1)),(some 3,FX 64 (FR.of 9)),(some 3,FX 64 (FR.of 9))]) 0 rfl rfl rfl rfl (S.e 5 rfl) tS_26 (S.g 0 rfl) (sh (τ:=PTS [(some 3,FX 64 (FR.of 16)),(some 3,FX 64 (FR.of 1)),(some 3,FX 64 (FR.of 9)),(some 3,FX 64 (FR.of 9))]) (S.g 0 rfl)) fun w S=>?_
 replace S:=S.n0
 refine wn hK ?_;clear hK K
 replace S:=S.d4.d3.d2.d1.d0
 exact wp_ret (S.retCell (i:=0) rfl (S.e 0 rfl) rfl tS_26 (fun _ h=>h))
theorem lawake_ok  {W0 : World} {G0 : Gh} (hok : Gok W0 G0)   : Calls Tryz.prog 5 #[] W0 (Ret W0 G0 (BT true)):=by
 refine St.enter (N:=68) (L:=[]) (args:=[]) Tryz.func5 rfl rfl rfl hok (enter0 ) fun a S=>?_
 refine wp_reg fun K hK=>?_
 refine S.s (τ:=BT false) (OpR.asn S.ok rfl rfl) rfl fun a w G S=>?_
 refine wn hK ?_;clear hK K
 refine wp_reg fun K hK=>?_
 refine S.s (τ:=PTS [(some 3,FX 64 (FR.of 16)),(some 3,FX 64 (FR.of 1)),(some 3,FX 64 (FR.of 9)),(some 3,FX 64 (FR.of 9))]) (OpR.call0 rfl c_20 (lExample_ok S.ok )) rfl fun a w G S=>?_
 refine S.s (τ:=MT.tup2 (IT (clsF [(FR.of 16),(FR.of 1),(FR.of 9),(FR.of 9)])) (MT.ex (errV 43 (chkF [(FR.of 16),(FR.of 1),(FR.of 9),(FR.of 9)])))) (OpR.call1 rfl c_8 (xClass_ok S.ok (S.g 0 rfl) (by decide) (by decide))) rfl fun a w G S=>?_
 refine S.m rfl (S.g 0 rfl) rfl fun a w G S=>?_
 refine S.s (OpR.ext2a S.ok rfl (S.g 0 rfl)) rfl fun a w G S=>?_
 refine S.s (OpR.ext2b S.ok rfl (S.g 1 rfl)) rfl fun a w G S=>?_
 refine S.s (τ:=NT 0) (OpR.asn S.ok rfl ((S.e 1 rfl).trans (iv_eq ex_cls))) rfl fun a w G S=>?_
 refine S.s (τ:=MT.ex (errV 43 (0))) (OpR.asn S.ok rfl ((S.e 1 rfl).trans (congrArg (errV 43) ex_chk))) rfl fun a w G S=>?_
 refine wn hK ?_;clear hK K
 replace S:=S.d6.d5.d4.d3.d2
 refine wp_reg fun K hK=>?_
 refine S.s (τ:=QC 64 2) (OpR.conv' (OpR.call1 rfl c_21 (gOf_ok S.ok ((rfl : _ = nv .i64 2).trans (iv_eq (by first | rfl | omega | (simp only [Nat.zero_add,Nat.add_zero];done) | (simp;done) | (push_cast;omega)))) (by omega))) fun _ _ h=>(QC.eq h (by rfl))) rfl fun a w G S=>?_
 refine S.alloc rfl rfl rfl z_24 zs_24 rfl rfl fun b3 a w G S=>?_
 refine S.store (τ:=QC 64 2) 0 rfl rfl rfl rfl (S.e 0 rfl) tS_24 (S.g 1 rfl) (sh (τ:=QC 64 2) (S.g 1 rfl)) fun w S=>?_
 replace S:=S.n0
 refine wn hK ?_;clear hK K
 replace S:=S.d1
 refine wp_reg fun K hK=>?_
 refine S.s (OpR.ldBox S.ok rfl (S.e 0 rfl) (S.box 0 rfl) tS_24) rfl fun a w G S=>?_
 refine S.s (OpR.ldBox S.ok rfl (S.e 1 rfl) (S.box 0 rfl) tS_24) rfl fun a w G S=>?_
 refine S.s (OpR.ldBox S.ok rfl (S.e 2 rfl) (S.box 0 rfl) tS_24) rfl fun a w G S=>?_
 refine S.s (OpR.ldBox S.ok rfl (S.e 3 rfl) (S.box 0 rfl) tS_24) rfl fun a w G S=>?_
 refine S.s (τ:=PTS [(some 3,FX 64 (FR.of 2)),(some 3,FX 64 (FR.of 2)),(some 3,FX 64 (FR.of 2)),(some 3,FX 64 (FR.of 2))]) (OpR.bldP (us:=[a.eval (.tmp 17),a.eval (.tmp 18),a.eval (.tmp 19),a.eval (.tmp 20)]) S.ok rfl (by simp only [List.map_toArray,List.map_cons,List.map_nil];exact bp_26_0_1_2_3 (u0:=a.eval (.tmp 17)) (u1:=a.eval (.tmp 18)) (u2:=a.eval (.tmp 19)) (u3:=a.eval (.tmp 20)) (sh (τ:=QC 64 2) (S.g 3 rfl)) (sh (τ:=QC 64 2) (S.g 2 rfl)) (sh (τ:=QC 64 2) (S.g 1 rfl)) (sh (τ:=QC 64 2) (S.g 0 rfl))) rfl (pts_cons (sh (τ:=FX 64 (FR.of 2)) (FX.eq (FX.up (QC.toFX (S.g 3 rfl) (by first | decide | omega)) (by first | decide | omega)) (by first | rfl | omega | (simp only [Nat.zero_add,Nat.add_zero];done) | (simp;done) | (push_cast;omega)))) (FX.eq (FX.up (QC.toFX (S.g 3 rfl) (by first | decide | omega)) (by first | decide | omega)) (by first | rfl | omega | (simp only [Nat.zero_add,Nat.add_zero];done) | (simp;done) | (push_cast;omega))) (pts_cons (sh (τ:=FX 64 (FR.of 2)) (FX.eq (FX.up (QC.toFX (S.g 2 rfl) (by first | decide | omega)) (by first | decide | omega)) (by first | rfl | omega | (simp only [Nat.zero_add,Nat.add_zero];done) | (simp;done) | (push_cast;omega)))) (FX.eq (FX.up (QC.toFX (S.g 2 rfl) (by first | decide | omega)) (by first | decide | omega)) (by first | rfl | omega | (simp only [Nat.zero_add,Nat.add_zero];done) | (simp;done) | (push_cast;omega))) (pts_cons (sh (τ:=FX 64 (FR.of 2)) (FX.eq (FX.up (QC.toFX (S.g 1 rfl) (by first | decide | omega)) (by first | decide | omega)) (by first | rfl | omega | (simp only [Nat.zero_add,Nat.add_zero];done) | (simp;done) | (push_cast;omega)))) (FX.eq (FX.up (QC.toFX (S.g 1 rfl) (by first | decide | omega)) (by first | decide | omega)) (by first | rfl | omega | (simp only [Nat.zero_add,Nat.add_zero];done) | (simp;done) | (push_cast;omega))) (pts_cons (sh (τ:=FX 64 (FR.of 2)) (FX.eq (FX.up (QC.toFX (S.g 0 rfl) (by first | decide | omega)) (by first | decide | omega)) (by first | rfl | omega | (simp only [Nat.zero_add,Nat.add_zero];done) | (simp;done) | (push_cast;omega)))) (FX.eq (FX.up (QC.toFX (S.g 0 rfl) (by first | decide | omega)) (by first | decide | omega)) (by first | rfl | omega | (simp only [Nat.zero_add,Nat.add_zero];done) | (simp;done) | (push_cast;omega))) pts_nil))))) rfl fun a w G S=>?_
 refine S.s (τ:=MT.tup2 (IT (clsF [(FR.of 2),(FR.of 2),(FR.of 2),(FR.of 2)])) (MT.ex (errV 43 (chkF [(FR.of 2),(FR.of 2),(FR.of 2),(FR.of 2)])))) (OpR.call1 rfl c_8 (xClass_ok S.ok (S.g 0 rfl) (by decide) (by decide))) rfl fun a w G S=>?_
 refine S.m rfl (S.g 0 rfl) rfl fun a w G S=>?_
 refine S.s (OpR.ext2a S.ok rfl (S.g 0 rfl)) rfl fun a w G S=>?_
 refine S.s (OpR.ext2b S.ok rfl (S.g 1 rfl)) rfl fun a w G S=>?_
 refine S.s (τ:=NT 5) (OpR.asn S.ok rfl ((S.e 1 rfl).trans (iv_eq ex_cls2))) rfl fun a w G S=>?_
 refine S.s (τ:=MT.ex (errV 43 (0))) (OpR.asn S.ok rfl ((S.e 1 rfl).trans (congrArg (errV 43) ex_chk2))) rfl fun a w G S=>?_
 refine wn hK ?_;clear hK K
 replace S:=S.d10.d9.d8.d7.d6.d5.d4.d3.d2
 refine wp_seq_k fun K hK=>?_
 refine S.drawn [⟨26,.g (QC 64 2),[]⟩,⟨27,.g (QC 64 3),[]⟩,⟨28,.g (LS (some 3) (([FR.of 2,FR.of 3]).map (FX 64))),[0,1]⟩,⟨29,.g (QC 64 10),[]⟩,⟨30,.g (LS (some 3) (([FR.of 10]).map (FX 64))),[3]⟩,⟨31,.g (MT.tup2 (IT (cmpRes ([FR.of 2,FR.of 3]) ([FR.of 10]))) (MT.ex (errV 43 (cmpCode ([FR.of 2,FR.of 3]) ([FR.of 10]))))),[2,4]⟩,⟨25,.g (MT.tup2 (IT (cmpRes ([FR.of 2,FR.of 3]) ([FR.of 10]))) (MT.ex (errV 43 (cmpCode ([FR.of 2,FR.of 3]) ([FR.of 10]))))),[5]⟩,⟨32,.g (IT (cmpRes ([FR.of 2,FR.of 3]) ([FR.of 10]))),[6]⟩,⟨33,.g (MT.ex (errV 43 (cmpCode ([FR.of 2,FR.of 3]) ([FR.of 10])))),[6]⟩,⟨6,.g (IT (-1)),[7]⟩,⟨7,.g (MT.ex (errV 43 (0))),[8]⟩] mixedOrders (by kernel_rfl)
  ⟨fun a w G S=>.of rfl (OpR.ldBox S.ok rfl (S.e 2 rfl) (S.box 0 rfl) tS_24),
   fun a w G S=>.of rfl (OpR.conv' (OpR.call1 rfl c_21 (gOf_ok S.ok ((rfl : _ = nv .i64 3).trans (iv_eq (by first | rfl | omega | (simp only [Nat.zero_add,Nat.add_zero];done) | (simp;done) | (push_cast;omega)))) (by omega))) fun _ _ h=>(QC.eq h (by rfl))),
   fun a w G S=>.of rfl (OpR.buildS (k:=some 3) (τs:=[FR.of 2,FR.of 3].map (FX 64)) (us:=[a.eval (.tmp 26),a.eval (.tmp 27)]) S.ok rfl Tryz.underlying48 el_24 rfl (by decide) (by decide) (by simp [Act.eval]) rfl (Els.cons (sh (τ:=FX 64 (FR.of 2)) (FX.eq (FX.up (QC.toFX (S.g 0 rfl) (by first | decide | omega)) (by first | decide | omega)) (by first | rfl | omega | (simp only [Nat.zero_add,Nat.add_zero];done) | (simp;done) | (push_cast;omega)))) (FX.eq (FX.up (QC.toFX (S.g 0 rfl) (by first | decide | omega)) (by first | decide | omega)) (by first | rfl | omega | (simp only [Nat.zero_add,Nat.add_zero];done) | (simp;done) | (push_cast;omega))) (Els.cons (sh (τ:=FX 64 (FR.of 3)) (FX.eq (FX.up (QC.toFX (S.g 1 rfl) (by first | decide | omega)) (by first | decide | omega)) (by first | rfl | omega | (simp only [Nat.zero_add,Nat.add_zero];done) | (simp;done) | (push_cast;omega)))) (FX.eq (FX.up (QC.toFX (S.g 1 rfl) (by first | decide | omega)) (by first | decide | omega)) (by first | rfl | omega | (simp only [Nat.zero_add,Nat.add_zero];done) | (simp;done) | (push_cast;omega))) Els.nil))),
   fun a w G S=>.of rfl (OpR.conv' (OpR.call1 rfl c_21 (gOf_ok S.ok ((rfl : _ = nv .i64 10).trans (iv_eq (by first | rfl | omega | (simp only [Nat.zero_add,Nat.add_zero];done) | (simp;done) | (push_cast;omega)))) (by omega))) fun _ _ h=>(QC.eq h (by rfl))),
   fun a w G S=>.of rfl (OpR.buildS (k:=some 3) (τs:=[FR.of 10].map (FX 64)) (us:=[a.eval (.tmp 29)]) S.ok rfl Tryz.underlying48 el_24 rfl (by decide) (by decide) (by simp [Act.eval]) rfl (Els.cons (sh (τ:=FX 64 (FR.of 10)) (FX.eq (FX.up (QC.toFX (S.g 0 rfl) (by first | decide | omega)) (by first | decide | omega)) (by first | rfl | omega | (simp only [Nat.zero_add,Nat.add_zero];done) | (simp;done) | (push_cast;omega)))) (FX.eq (FX.up (QC.toFX (S.g 0 rfl) (by first | decide | omega)) (by first | decide | omega)) (by first | rfl | omega | (simp only [Nat.zero_add,Nat.add_zero];done) | (simp;done) | (push_cast;omega))) Els.nil)),
   fun a w G S=>.of rfl (OpR.call2 rfl c_22 (xCompare_ok S.ok (LS.eqM (S.g 0 rfl) (by first | rfl | omega | (simp only [Nat.zero_add,Nat.add_zero];done) | (simp;done) | (push_cast;omega))) (LS.eqM (S.g 1 rfl) (by first | rfl | omega | (simp only [Nat.zero_add,Nat.add_zero];done) | (simp;done) | (push_cast;omega))) (by decide) (by decide))),
   fun a w G S=>.of rfl (OpR.mv S.ok rfl (S.g 0 rfl)),
   fun a w G S=>.of rfl (OpR.ext2a S.ok rfl (S.g 0 rfl)),
   fun a w G S=>.of rfl (OpR.ext2b S.ok rfl (S.g 0 rfl)),
   fun a w G S=>.of rfl (OpR.asn S.ok rfl ((S.e 0 rfl).trans (iv_eq ex_cmp))),
   fun a w G S=>.of rfl (OpR.asn S.ok rfl ((S.e 0 rfl).trans (congrArg (errV 43) ex_cmpC))),trivial⟩ fun β a w G S=>?_
 replace S : St W0 G0 68 [(7,MT.ex (errV 43 (0))),(6,IT (-1)),(5,MT.ex (errV 43 (0))),(4,NT 5),(3,PB b3),(2,MT.ex (errV 43 (0))),(1,NT 0),(0,BT false)] [⟨b3,24,some 3,QC 64 2⟩] a _ _:=S.keep [0,1,11,12,13,14,15,16]
 refine wn hK ?_;clear hK K
 refine wp_reg fun K hK=>?_
 refine S.s (τ:=PTS [(some 3,FX 64 (FR.of 16)),(some 3,FX 64 (FR.of 1)),(some 3,FX 64 (FR.of 9)),(some 3,FX 64 (FR.of 9))]) (OpR.call0 rfl c_20 (lExample_ok S.ok )) rfl fun a w G S=>?_
 refine S.s (τ:=MT.tup2 (BT (rotF [(FR.of 16),(FR.of 1),(FR.of 9),(FR.of 9)] (((1 : Nat) : Int)))) (MT.ex (errV 43 (rotCode [(FR.of 16),(FR.of 1),(FR.of 9),(FR.of 9)] (((1 : Nat) : Int)))))) (OpR.call2 rfl c_14 (xRotates_ok S.ok (S.g 0 rfl) ((rfl : _ = nv .i64 1).trans (iv_eq (by first | rfl | omega | (simp only [Nat.zero_add,Nat.add_zero];done) | (simp;done) | (push_cast;omega)))) (by decide) (by decide))) rfl fun a w G S=>?_
 refine S.m rfl (S.g 0 rfl) rfl fun a w G S=>?_
 refine S.s (OpR.ext2a S.ok rfl (S.g 0 rfl)) rfl fun a w G S=>?_
 refine S.s (OpR.ext2b S.ok rfl (S.g 1 rfl)) rfl fun a w G S=>?_
 refine S.s (τ:=BT true) (OpR.asn S.ok rfl ((S.e 1 rfl).trans (bv_eq ex_rot))) rfl fun a w G S=>?_
 refine S.s (τ:=MT.ex (errV 43 (0))) (OpR.asn S.ok rfl ((S.e 1 rfl).trans (congrArg (errV 43) ex_rotC))) rfl fun a w G S=>?_
 refine wn hK ?_;clear hK K
 replace S:=S.d6.d5.d4.d3.d2
 refine wp_reg fun K hK=>?_
 refine S.m rfl (S.g 7 rfl) rfl fun a w G S=>?_
 refine S.s (τ:=BT true) (OpR.isB (errV_eql.trans (by rfl)) (OpR.errEqNil S.ok rfl if_30 (S.e 0 rfl) (by first | exact .inl rfl | exact .inr ⟨_,_,rfl⟩ | exact errV_or _) rfl)) rfl fun a w G S=>?_
 refine S.m rfl (S.g 0 rfl) rfl fun a w G S=>?_
 refine S.stepG 0 (OpR.mv S.ok rfl (S.g 7 rfl)) rfl rfl rfl rfl rfl rfl fun a w G S=>?_
 refine S.stepG (τ:=BT true) 1 (OpR.isB (errV_eql.trans (by rfl)) (OpR.errEqNil S.ok rfl if_30 (S.e 0 rfl) (by first | exact .inl rfl | exact .inr ⟨_,_,rfl⟩ | exact errV_or _) rfl)) rfl rfl rfl rfl rfl rfl fun a w G S=>?_
 refine S.s (τ:=BT true) (OpR.pick S.ok rfl (S.e 2 rfl) (S.g 0 rfl)) rfl fun a w G S=>?_
 refine S.m rfl (S.g 0 rfl) rfl fun a w G S=>?_
 refine S.stepG 0 (OpR.mv S.ok rfl (S.g 9 rfl)) rfl rfl rfl rfl rfl rfl fun a w G S=>?_
 refine S.stepG (τ:=BT true) 1 (OpR.isB (errV_eql.trans (by rfl)) (OpR.errEqNil S.ok rfl if_30 (S.e 0 rfl) (by first | exact .inl rfl | exact .inr ⟨_,_,rfl⟩ | exact errV_or _) rfl)) rfl rfl rfl rfl rfl rfl fun a w G S=>?_
 refine S.s (τ:=BT true) (OpR.pick S.ok rfl (S.e 2 rfl) (S.g 0 rfl)) rfl fun a w G S=>?_
 refine S.m rfl (S.g 0 rfl) rfl fun a w G S=>?_
 refine S.stepG 0 (OpR.mv S.ok rfl (S.g 11 rfl)) rfl rfl rfl rfl rfl rfl fun a w G S=>?_
 refine S.stepG (τ:=BT true) 1 (OpR.isB (errV_eql.trans (by rfl)) (OpR.errEqNil S.ok rfl if_30 (S.e 0 rfl) (by first | exact .inl rfl | exact .inr ⟨_,_,rfl⟩ | exact errV_or _) rfl)) rfl rfl rfl rfl rfl rfl fun a w G S=>?_
 refine S.s (τ:=BT true) (OpR.pick S.ok rfl (S.e 2 rfl) (S.g 0 rfl)) rfl fun a w G S=>?_
 refine S.m rfl (S.g 0 rfl) rfl fun a w G S=>?_
 refine S.stepG 0 (OpR.mv S.ok rfl (S.g 23 rfl)) rfl rfl rfl rfl rfl rfl fun a w G S=>?_
 refine S.stepG (τ:=BT true) 1 (OpR.neql S.ok rfl (S.e 0 rfl) (rfl : _ = nv .i64 0) (bv_eq rfl)) rfl rfl rfl rfl rfl rfl fun a w G S=>?_
 refine S.s (τ:=BT true) (OpR.pick S.ok rfl (S.e 2 rfl) (S.g 0 rfl)) rfl fun a w G S=>?_
 refine S.m rfl (S.g 0 rfl) rfl fun a w G S=>?_
 refine S.stepG 0 (OpR.mv S.ok rfl (S.g 24 rfl)) rfl rfl rfl rfl rfl rfl fun a w G S=>?_
 refine S.stepG (τ:=BT true) 1 (OpR.neql S.ok rfl (S.e 0 rfl) (rfl : _ = nv .i64 5) (bv_eq rfl)) rfl rfl rfl rfl rfl rfl fun a w G S=>?_
 refine S.s (τ:=BT true) (OpR.pick S.ok rfl (S.e 2 rfl) (S.g 0 rfl)) rfl fun a w G S=>?_
 refine S.m rfl (S.g 0 rfl) rfl fun a w G S=>?_
 refine S.stepG 0 (OpR.mv S.ok rfl (S.g 26 rfl)) rfl rfl rfl rfl rfl rfl fun a w G S=>?_
 refine S.stepG (τ:=BT true) 1 (OpR.zeql S.ok rfl (S.e 0 rfl) (rfl : _ = Value.int .i64 (-1)) (bv_eq (by decide))) rfl rfl rfl rfl rfl rfl fun a w G S=>?_
 refine S.s (τ:=BT true) (OpR.pick S.ok rfl (S.e 2 rfl) (S.g 0 rfl)) rfl fun a w G S=>?_
 refine S.m rfl (S.g 0 rfl) rfl fun a w G S=>?_
 refine S.stepG 0 (OpR.mv S.ok rfl (S.g 28 rfl)) rfl rfl rfl rfl rfl rfl fun a w G S=>?_
 refine S.s (τ:=BT true) (OpR.pick S.ok rfl (S.e 1 rfl) (S.g 0 rfl)) rfl fun a w G S=>?_
 replace S:=S.d38
 refine S.q rfl (S.g 0 rfl) rfl fun a w G S=>?_
 refine wn hK ?_;clear hK K
 replace S:=S.d38.d37.d35.d34.d33.d32.d31.d30.d29.d28.d27.d26.d25.d24.d23.d22.d21.d20.d19.d18.d17.d16.d15.d14.d13.d12.d11.d10.d9.d8.d7.d6.d5.d4.d3.d2.d1
 exact wp_ret (S.retTmp rfl (S.g 0 rfl))
end Go.Proofs.YtdeihehaheelmaaGreat
namespace Go.Proofs.YtdeihehaheelmaaGreat
def Cau (f : Nat → Rat) : Prop:=∀ e : Rat,0 < e → ∃ N,∀ i j,N ≤ i → N ≤ j → f i - f j < e
def Ceq (f g : Nat → Rat) : Prop:=∀ e : Rat,0 < e → ∃ N,∀ i,N ≤ i → f i - g i < e ∧ g i - f i < e
def Cnn (f : Nat → Rat) : Prop:=∀ e : Rat,0 < e → ∃ N,∀ i,N ≤ i → -e < f i
theorem half_pos {e : Rat} (h : 0 < e) : 0 < e / 2:=by grind
theorem rmul_pos {a b : Rat} (ha : 0 < a) (hb : 0 < b) : 0 < a * b:=Rat.mul_pos ha hb
theorem rdiv_pos {a b : Rat} (ha : 0 < a) (hb : 0 < b) : 0 < a / b:=by
  rw [Rat.div_def];exact Rat.mul_pos ha (Rat.inv_pos.2 hb)
theorem rmul_div {a b : Rat} (hb : 0 < b) : a / b * b = a:=by grind
theorem rmul_le {a b c d : Rat} (h1 : 0 ≤ a) (h2 : a ≤ b) (h3 : 0 ≤ c) (h4 : c ≤ d) : a * c ≤ b * d:=by
  have e1 : 0 ≤ (b - a) * c:=Rat.mul_nonneg (by grind) h3
  have e2 : 0 ≤ b * (d - c):=Rat.mul_nonneg (by grind) (by grind)
  grind
theorem Ceq.refl (f : Nat → Rat) : Ceq f f:=fun e he=>⟨0,fun i _=>by constructor <;> grind⟩
theorem Ceq.symm {f g : Nat → Rat} (h : Ceq f g) : Ceq g f:=fun e he=>by
  obtain ⟨N,hN⟩:=h e he;exact ⟨N,fun i hi=>⟨(hN i hi).2,(hN i hi).1⟩⟩
theorem Ceq.trans {f g k : Nat → Rat} (h : Ceq f g) (h' : Ceq g k) : Ceq f k:=fun e he=>by
  obtain ⟨N,hN⟩:=h (e / 2) (half_pos he);obtain ⟨M,hM⟩:=h' (e / 2) (half_pos he)
  refine ⟨max N M,fun i hi=>?_⟩
  have h1:=hN i (by omega);have h2:=hM i (by omega)
  constructor <;> grind
theorem Cau.const (q : Rat) : Cau fun _=>q:=fun e he=>⟨0,fun i j _ _=>by grind⟩
theorem Cau.add {f g : Nat → Rat} (h : Cau f) (h' : Cau g) : Cau fun n=>f n + g n:=fun e he=>by
  obtain ⟨N,hN⟩:=h (e / 2) (half_pos he);obtain ⟨M,hM⟩:=h' (e / 2) (half_pos he)
  refine ⟨max N M,fun i j hi hj=>?_⟩
  have h1:=hN i j (by omega) (by omega);have h2:=hM i j (by omega) (by omega)
  grind
theorem Cau.neg {f : Nat → Rat} (h : Cau f) : Cau fun n=>-f n:=fun e he=>by
  obtain ⟨N,hN⟩:=h e he
  exact ⟨N,fun i j hi hj=>by have:=hN j i hj hi;grind⟩
theorem Cau.bound {f : Nat → Rat} (h : Cau f) : ∃ B : Rat,0 < B ∧ ∀ i,-B < f i ∧ f i < B:=by
  obtain ⟨N,hN⟩:=h 1 (by grind)
  have hfin : ∀ n,∃ B : Rat,0 < B ∧ ∀ i,i ≤ n → -B < f i ∧ f i < B:=by
    intro n
    induction n with
    | zero =>
      rcases Rat.le_total (a:=0) (b:=(f 0)) with h0 | h0
      · exact ⟨f 0 + 1, by grind, fun i hi => by obtain rfl : i = 0 := by omega
                                                 constructor <;> grind⟩
      · exact ⟨1 - f 0, by grind, fun i hi => by obtain rfl : i = 0 := by omega
                                                 constructor <;> grind⟩
    | succ n ih =>
      obtain ⟨B,hB,hb⟩:=ih
      rcases Rat.le_total (a:=0) (b:=(f (n + 1))) with h0 | h0
      · refine ⟨B + f (n + 1) + 1,by grind,fun i hi=>?_⟩
        rcases Nat.lt_or_ge n i with h1 | h1
        · obtain rfl : i = n + 1:=by omega
          constructor <;> grind
        · have:=hb i h1;constructor <;> grind
      · refine ⟨B - f (n + 1) + 1,by grind,fun i hi=>?_⟩
        rcases Nat.lt_or_ge n i with h1 | h1
        · obtain rfl : i = n + 1:=by omega
          constructor <;> grind
        · have:=hb i h1;constructor <;> grind
  obtain ⟨B,hB,hb⟩:=hfin N
  refine ⟨B + 1,by grind,fun i=>?_⟩
  rcases Nat.lt_or_ge N i with h1 | h1
  · have a:=hN i N (by omega) (Nat.le_refl _);have b:=hN N i (Nat.le_refl _) (by omega);have c:=hb N (Nat.le_refl _)
    constructor <;> grind
  · have:=hb i h1;constructor <;> grind
theorem small_mul {a b e B : Rat} (hB : 0 < B) (h1 : -B < b ∧ b < B) (h2 : -(e / B) < a ∧ a < e / B) : -e < a * b ∧ a * b < e:=by
  have hd:=rmul_div (a:=e) hB
  generalize e / B = d at *
  have hd0 : 0 < d:=by grind
  rcases Rat.le_total (a:=0) (b:=a) with ha | ha <;> rcases Rat.le_total (a:=0) (b:=b) with hb | hb
  · have p:=Rat.mul_nonneg ha hb
    have q : 0 ≤ (d - a) * b:=Rat.mul_nonneg (by grind) hb
    have r : 0 < d * (B - b):=Rat.mul_pos hd0 (by grind)
    constructor <;> grind
  · have p : 0 ≤ a * -b:=Rat.mul_nonneg ha (by grind)
    have q : 0 ≤ (d - a) * -b:=Rat.mul_nonneg (by grind) (by grind)
    have r : 0 < d * (B + b):=Rat.mul_pos hd0 (by grind)
    constructor <;> grind
  · have p : 0 ≤ -a * b:=Rat.mul_nonneg (by grind) hb
    have q : 0 ≤ (d + a) * b:=Rat.mul_nonneg (by grind) hb
    have r : 0 < d * (B - b):=Rat.mul_pos hd0 (by grind)
    constructor <;> grind
  · have p : 0 ≤ -a * -b:=Rat.mul_nonneg (by grind) (by grind)
    have q : 0 ≤ (d + a) * -b:=Rat.mul_nonneg (by grind) (by grind)
    have r : 0 < d * (B + b):=Rat.mul_pos hd0 (by grind)
    constructor <;> grind
theorem Cau.mul {f g : Nat → Rat} (h : Cau f) (h' : Cau g) : Cau fun n=>f n * g n:=fun e he=>by
  obtain ⟨B,hB,hb⟩:=h.bound;obtain ⟨C,hC,hc⟩:=h'.bound
  have he1:=rdiv_pos (half_pos he) hC
  have he2:=rdiv_pos (half_pos he) hB
  obtain ⟨N,hN⟩:=h _ he1
  obtain ⟨M,hM⟩:=h' _ he2
  refine ⟨max N M,fun i j hi hj=>?_⟩
  have a1:=hN i j (by omega) (by omega);have a2:=hN j i (by omega) (by omega)
  have b1:=hM i j (by omega) (by omega);have b2:=hM j i (by omega) (by omega)
  have p:=small_mul (a:=f i - f j) (b:=g i) hC (hc i) ⟨by grind,a1⟩
  have q:=small_mul (a:=g i - g j) (b:=f j) hB (hb j) ⟨by grind,b1⟩
  grind
theorem Ceq.add {f g f' g' : Nat → Rat} (h : Ceq f f') (h' : Ceq g g') : Ceq (fun n=>f n + g n) fun n=>f' n + g' n:=fun e he=>by
  obtain ⟨N,hN⟩:=h (e / 2) (half_pos he);obtain ⟨M,hM⟩:=h' (e / 2) (half_pos he)
  refine ⟨max N M,fun i hi=>?_⟩
  have h1:=hN i (by omega);have h2:=hM i (by omega)
  constructor <;> grind
theorem Ceq.neg {f g : Nat → Rat} (h : Ceq f g) : Ceq (fun n=>-f n) fun n=>-g n:=fun e he=>by
  obtain ⟨N,hN⟩:=h e he
  exact ⟨N,fun i hi=>by have:=hN i hi;constructor <;> grind⟩
theorem Ceq.mul {f g f' g' : Nat → Rat} (cg : Cau g) (cf' : Cau f') (h : Ceq f f') (h' : Ceq g g') : Ceq (fun n=>f n * g n) fun n=>f' n * g' n:=fun e he=>by
  obtain ⟨B,hB,hb⟩:=cf'.bound;obtain ⟨C,hC,hc⟩:=cg.bound
  obtain ⟨N,hN⟩:=h _ (rdiv_pos (half_pos he) hC)
  obtain ⟨M,hM⟩:=h' _ (rdiv_pos (half_pos he) hB)
  refine ⟨max N M,fun i hi=>?_⟩
  have a:=hN i (by omega);have b:=hM i (by omega)
  have p:=small_mul (a:=f i - f' i) (b:=g i) hC (hc i) ⟨by grind,a.1⟩
  have q:=small_mul (a:=g i - g' i) (b:=f' i) hB (hb i) ⟨by grind,b.1⟩
  constructor <;> grind
theorem Cnn.ceq {f g : Nat → Rat} (h : Cnn f) (h' : Ceq f g) : Cnn g:=fun e he=>by
  obtain ⟨N,hN⟩:=h (e / 2) (half_pos he);obtain ⟨M,hM⟩:=h' (e / 2) (half_pos he)
  refine ⟨max N M,fun i hi=>?_⟩
  have h1:=hN i (by omega);have h2:=hM i (by omega)
  grind
theorem Cnn.add {f g : Nat → Rat} (h : Cnn f) (h' : Cnn g) : Cnn fun n=>f n + g n:=fun e he=>by
  obtain ⟨N,hN⟩:=h (e / 2) (half_pos he);obtain ⟨M,hM⟩:=h' (e / 2) (half_pos he)
  refine ⟨max N M,fun i hi=>?_⟩
  have h1:=hN i (by omega);have h2:=hM i (by omega)
  grind
theorem Cnn.mul {f g : Nat → Rat} (cf : Cau f) (cg : Cau g) (h : Cnn f) (h' : Cnn g) : Cnn fun n=>f n * g n:=fun e he=>by
  obtain ⟨B,hB,hb⟩:=cf.bound;obtain ⟨C,hC,hc⟩:=cg.bound
  obtain ⟨N,hN⟩:=h _ (rdiv_pos (half_pos he) hC)
  obtain ⟨M,hM⟩:=h' _ (rdiv_pos (half_pos he) hB)
  refine ⟨max N M,fun i hi=>?_⟩
  have a:=hN i (by omega);have b:=hM i (by omega)
  rcases Rat.le_total (a:=0) (b:=(f i)) with ha | ha <;> rcases Rat.le_total (a:=0) (b:=(g i)) with hb' | hb'
  · have:=Rat.mul_nonneg ha hb';grind
  · have:=(small_mul (e:=e / 2) (a:=g i) (b:=f i) hB (hb i) ⟨by grind,by have:=rdiv_pos (half_pos he) hB;grind⟩).1;grind
  · have:=(small_mul (e:=e / 2) (a:=f i) (b:=g i) hC (hc i) ⟨by grind,by have:=rdiv_pos (half_pos he) hC;grind⟩).1;grind
  · have : 0 ≤ -f i * -g i:=Rat.mul_nonneg (by grind) (by grind)
    grind
theorem Cau.away {f : Nat → Rat} (h : Cau f) (h0 : ¬ Cnn f) : ∃ e : Rat,0 < e ∧ ∃ N,∀ i,N ≤ i → f i < -e:=by
  unfold Cnn at h0
  have h1 : ∃ e : Rat,0 < e ∧ ∀ N,∃ i,N ≤ i ∧ f i ≤ -e:=by
    refine Classical.byContradiction fun hn=>h0 fun e he=>Classical.byContradiction fun hN=>hn ⟨e,he,fun N=>Classical.byContradiction fun hi=>hN ⟨N,fun i hNi=>?_⟩⟩
    exact Rat.not_le.1 fun hle=>hi ⟨i,hNi,hle⟩
  obtain ⟨e,he,hi⟩:=h1
  obtain ⟨N,hN⟩:=h (e / 2) (half_pos he)
  obtain ⟨k,hk,hfk⟩:=hi N
  exact ⟨e / 2,half_pos he,N,fun i hi=>by have:=hN i k hi hk;grind⟩
theorem Cnn.total {f : Nat → Rat} (h : Cau f) : Cnn f ∨ Cnn fun n=>-f n:=by
  by_cases h0 : Cnn f
  · exact .inl h0
  · obtain ⟨e,he,N,hN⟩:=h.away h0
    exact .inr fun d hd=>⟨N,fun i hi=>by have:=hN i hi;grind⟩
theorem Cnn.anti {f : Nat → Rat} (h : Cnn f) (h' : Cnn fun n=>-f n) : Ceq f fun _=>0:=fun e he=>by
  obtain ⟨N,hN⟩:=h e he;obtain ⟨M,hM⟩:=h' e he
  refine ⟨max N M,fun i hi=>?_⟩
  have h1:=hN i (by omega);have h2:=hM i (by omega)
  constructor <;> grind
theorem Cau.inv {f : Nat → Rat} (h : Cau f) {e : Rat} (he : 0 < e) {N : Nat} (hN : ∀ i,N ≤ i → e < f i ∨ f i < -e) : Cau fun n=>(f n)⁻¹:=fun d hd=>by
  obtain ⟨M,hM⟩:=h (d * (e * e)) (rmul_pos hd (rmul_pos he he))
  refine ⟨max N M,fun i j hi hj=>?_⟩
  have a:=hN i (by omega);have b:=hN j (by omega);have c:=hM i j (by omega) (by omega);have c':=hM j i (by omega) (by omega)
  have hi0 : f i ≠ 0:=by rintro hz;rw [hz] at a;grind
  have hj0 : f j ≠ 0:=by rintro hz;rw [hz] at b;grind
  have hsq : ∀ x : Rat,e < x ∨ x < -e → ∀ y : Rat,e < y ∨ y < -e → e * e ≤ x * y ∨ x * y ≤ -(e * e):=fun x hx y hy=>by
    rcases hx with hx | hx <;> rcases hy with hy | hy
    · exact .inl (rmul_le (by grind) (by grind) (by grind) (by grind))
    · have:=rmul_le (a:=e) (b:=x) (c:=e) (d:=-y) (by grind) (by grind) (by grind) (by grind);exact .inr (by grind)
    · have:=rmul_le (a:=e) (b:=-x) (c:=e) (d:=y) (by grind) (by grind) (by grind) (by grind);exact .inr (by grind)
    · have:=rmul_le (a:=e) (b:=-x) (c:=e) (d:=-y) (by grind) (by grind) (by grind) (by grind);exact .inl (by grind)
  have hp:=hsq _ a _ b
  have heq : (f i)⁻¹ - (f j)⁻¹ = (f j - f i) / (f i * f j):=by grind
  rw [heq]
  have hne : f i * f j ≠ 0:=by grind
  replace c : -(f j - f i) < d * (e * e):=by grind
  have hee:=rmul_pos he he
  generalize f i * f j = m at *
  generalize f j - f i = t at *
  generalize e * e = E at *
  have hde : d * E ≤ d * m ∨ d * E ≤ -(d * m):=by
    rcases hp with hp | hp
    · have:=Rat.mul_nonneg (a:=d) (b:=m - E) (by grind) (by grind);exact .inl (by grind)
    · have:=Rat.mul_nonneg (a:=d) (b:=-m - E) (by grind) (by grind);exact .inr (by grind)
  rcases hp with hp | hp
  · have hm : 0 < m:=by grind
    have hd' : d * E ≤ d * m:=by have:=Rat.mul_nonneg (a:=d) (b:=m - E) (by grind) (by grind);grind
    refine Rat.not_le.1 fun hle=>?_
    have e2 : t / m * m = t:=rmul_div hm
    have:=Rat.mul_nonneg (a:=t / m - d) (b:=m) (by grind) (by grind)
    generalize t / m = q at *
    grind
  · have hm : 0 < -m:=by grind
    have hd' : d * E ≤ d * -m:=by have:=Rat.mul_nonneg (a:=d) (b:=-m - E) (by grind) (by grind);grind
    refine Rat.not_le.1 fun hle=>?_
    have e2 : t / m * m = t:=by grind
    have:=Rat.mul_nonneg (a:=t / m - d) (b:=-m) (by grind) (by grind)
    generalize t / m = q at *
    grind
def CS : Type:={ f : Nat → Rat // Cau f }
instance csSetoid : Setoid CS:=⟨fun f g=>Ceq f.1 g.1,fun f=>Ceq.refl f.1,fun h=>h.symm,fun h k=>h.trans k⟩
def RR : Type:=Quotient csSetoid
def RR.mk (f : Nat → Rat) (h : Cau f) : RR:=Quotient.mk csSetoid ⟨f,h⟩
theorem RR.rep (x : RR) : ∃ f hf,x = RR.mk f hf:=Quotient.ind (motive:=fun x=>∃ f hf,x = RR.mk f hf) (fun a=>⟨a.1,a.2,rfl⟩) x
theorem RR.ind {p : RR → Prop} (h : ∀ f hf,p (RR.mk f hf)) (x : RR) : p x:=Quotient.ind (fun a=>h a.1 a.2) x
theorem RR.ext {f g : Nat → Rat} {hf : Cau f} {hg : Cau g} (h : ∀ n,f n = g n) : RR.mk f hf = RR.mk g hg:=by
  have : f = g:=funext h
  subst this;rfl
theorem RR.sound {f g : Nat → Rat} {hf : Cau f} {hg : Cau g} (h : Ceq f g) : RR.mk f hf = RR.mk g hg:=Quotient.sound h
theorem RR.exact {f g : Nat → Rat} {hf : Cau f} {hg : Cau g} (h : RR.mk f hf = RR.mk g hg) : Ceq f g:=Quotient.exact h
def RR.of (q : Rat) : RR:=RR.mk (fun _=>q) (Cau.const q)
def RR.add (x y : RR) : RR:=Quotient.lift₂ (fun f g : CS=>Quotient.mk csSetoid ⟨fun n=>f.1 n + g.1 n,f.2.add g.2⟩) (fun _ _ _ _ h k=>Quotient.sound (Ceq.add h k)) x y
def RR.neg (x : RR) : RR:=Quotient.lift (fun f : CS=>Quotient.mk csSetoid ⟨fun n=>-f.1 n,f.2.neg⟩) (fun _ _ h=>Quotient.sound (Ceq.neg h)) x
def RR.mul (x y : RR) : RR:=Quotient.lift₂ (fun f g : CS=>Quotient.mk csSetoid ⟨fun n=>f.1 n * g.1 n,f.2.mul g.2⟩) (fun _ g f' _ h k=>Quotient.sound (Ceq.mul g.2 f'.2 h k)) x y
instance : Add RR:=⟨RR.add⟩
instance : Neg RR:=⟨RR.neg⟩
instance : Mul RR:=⟨RR.mul⟩
instance : Sub RR:=⟨fun x y=>x + -y⟩
instance (n : Nat) : OfNat RR n:=⟨RR.of (n : Rat)⟩
def RR.nn (x : RR) : Prop:=Quotient.lift (fun f : CS=>Cnn f.1) (fun _ _ h=>propext ⟨fun k=>k.ceq h,fun k=>k.ceq h.symm⟩) x
instance : LE RR:=⟨fun x y=>RR.nn (y - x)⟩
instance : LT RR:=⟨fun x y=>¬ y ≤ x⟩
theorem RR.add_comm (x y : RR) : x + y = y + x:=by
  obtain ⟨f,hf,rfl⟩:=RR.rep x;obtain ⟨g,hg,rfl⟩:=RR.rep y
  exact RR.ext fun n=>by grind
theorem RR.add_assoc (x y z : RR) : x + y + z = x + (y + z):=by
  obtain ⟨f,hf,rfl⟩:=RR.rep x;obtain ⟨g,hg,rfl⟩:=RR.rep y;obtain ⟨k,hk,rfl⟩:=RR.rep z
  exact RR.ext fun n=>by grind
theorem RR.mul_comm (x y : RR) : x * y = y * x:=by
  obtain ⟨f,hf,rfl⟩:=RR.rep x;obtain ⟨g,hg,rfl⟩:=RR.rep y
  exact RR.ext fun n=>by grind
theorem RR.mul_assoc (x y z : RR) : x * y * z = x * (y * z):=by
  obtain ⟨f,hf,rfl⟩:=RR.rep x;obtain ⟨g,hg,rfl⟩:=RR.rep y;obtain ⟨k,hk,rfl⟩:=RR.rep z
  exact RR.ext fun n=>by grind
theorem RR.mul_add (x y z : RR) : x * (y + z) = x * y + x * z:=by
  obtain ⟨f,hf,rfl⟩:=RR.rep x;obtain ⟨g,hg,rfl⟩:=RR.rep y;obtain ⟨k,hk,rfl⟩:=RR.rep z
  exact RR.ext fun n=>by grind
theorem RR.add_mul (x y z : RR) : (x + y) * z = x * z + y * z:=by
  obtain ⟨f,hf,rfl⟩:=RR.rep x;obtain ⟨g,hg,rfl⟩:=RR.rep y;obtain ⟨k,hk,rfl⟩:=RR.rep z
  exact RR.ext fun n=>by grind
theorem RR.add_zero (x : RR) : x + 0 = x:=by
  obtain ⟨f,hf,rfl⟩:=RR.rep x
  exact RR.ext fun n=>by grind
theorem RR.zero_add (x : RR) : 0 + x = x:=by
  obtain ⟨f,hf,rfl⟩:=RR.rep x
  exact RR.ext fun n=>by grind
theorem RR.mul_one (x : RR) : x * 1 = x:=by
  obtain ⟨f,hf,rfl⟩:=RR.rep x
  exact RR.ext fun n=>by grind
theorem RR.one_mul (x : RR) : 1 * x = x:=by
  obtain ⟨f,hf,rfl⟩:=RR.rep x
  exact RR.ext fun n=>by grind
theorem RR.mul_zero (x : RR) : x * 0 = 0:=by
  obtain ⟨f,hf,rfl⟩:=RR.rep x
  exact RR.ext fun n=>by grind
theorem RR.zero_mul (x : RR) : 0 * x = 0:=by
  obtain ⟨f,hf,rfl⟩:=RR.rep x
  exact RR.ext fun n=>by grind
theorem RR.sub_self (x : RR) : x - x = 0:=by
  obtain ⟨f,hf,rfl⟩:=RR.rep x
  exact RR.ext fun n=>by grind
theorem RR.sub_zero (x : RR) : x - 0 = x:=by
  obtain ⟨f,hf,rfl⟩:=RR.rep x
  exact RR.ext fun n=>by grind
theorem RR.zero_sub (x : RR) : 0 - x = -x:=by
  obtain ⟨f,hf,rfl⟩:=RR.rep x
  exact RR.ext fun n=>by grind
theorem RR.neg_neg (x : RR) : - -x = x:=by
  obtain ⟨f,hf,rfl⟩:=RR.rep x
  exact RR.ext fun n=>by grind
theorem RR.neg_mul (x y : RR) : -x * y = -(x * y):=by
  obtain ⟨f,hf,rfl⟩:=RR.rep x;obtain ⟨g,hg,rfl⟩:=RR.rep y
  exact RR.ext fun n=>by grind
theorem RR.mul_neg (x y : RR) : x * -y = -(x * y):=by
  obtain ⟨f,hf,rfl⟩:=RR.rep x;obtain ⟨g,hg,rfl⟩:=RR.rep y
  exact RR.ext fun n=>by grind
theorem RR.neg_add (x y : RR) : -(x + y) = -x + -y:=by
  obtain ⟨f,hf,rfl⟩:=RR.rep x;obtain ⟨g,hg,rfl⟩:=RR.rep y
  exact RR.ext fun n=>by grind
theorem RR.sub_eq (x y : RR) : x - y = x + -y:=by
  obtain ⟨f,hf,rfl⟩:=RR.rep x;obtain ⟨g,hg,rfl⟩:=RR.rep y
  exact RR.ext fun n=>by grind
theorem RR.neg_sub (x y : RR) : -(x - y) = y - x:=by
  obtain ⟨f,hf,rfl⟩:=RR.rep x;obtain ⟨g,hg,rfl⟩:=RR.rep y
  exact RR.ext fun n=>by grind
theorem RR.sub_add (x y : RR) : x - y + y = x:=by
  obtain ⟨f,hf,rfl⟩:=RR.rep x;obtain ⟨g,hg,rfl⟩:=RR.rep y
  exact RR.ext fun n=>by grind
theorem RR.add_sub (x y : RR) : x + y - y = x:=by
  obtain ⟨f,hf,rfl⟩:=RR.rep x;obtain ⟨g,hg,rfl⟩:=RR.rep y
  exact RR.ext fun n=>by grind
theorem RR.sub_trans (x y z : RR) : (y - x) + (z - y) = z - x:=by
  obtain ⟨f,hf,rfl⟩:=RR.rep x;obtain ⟨g,hg,rfl⟩:=RR.rep y;obtain ⟨k,hk,rfl⟩:=RR.rep z
  exact RR.ext fun n=>by grind
theorem RR.neg_zero : -(0 : RR) = 0:=RR.ext fun n=>by grind
theorem RR.le_def {x y : RR} : x ≤ y ↔ RR.nn (y - x):=Iff.rfl
theorem RR.lt_def {x y : RR} : x < y ↔ ¬ y ≤ x:=Iff.rfl
theorem RR.nn_iff {x : RR} : RR.nn x ↔ 0 ≤ x:=by rw [RR.le_def,RR.sub_zero]
theorem RR.nn_add {x y : RR} : RR.nn x → RR.nn y → RR.nn (x + y):=by
  obtain ⟨f,hf,rfl⟩:=RR.rep x;obtain ⟨g,hg,rfl⟩:=RR.rep y;exact fun h k=>Cnn.add h k
theorem RR.nn_mul {x y : RR} : RR.nn x → RR.nn y → RR.nn (x * y):=by
  obtain ⟨f,hf,rfl⟩:=RR.rep x;obtain ⟨g,hg,rfl⟩:=RR.rep y;exact fun h k=>Cnn.mul hf hg h k
theorem RR.nn_total (x : RR) : RR.nn x ∨ RR.nn (-x):=by
  obtain ⟨f,hf,rfl⟩:=RR.rep x;exact Cnn.total hf
theorem RR.nn_anti {x : RR} : RR.nn x → RR.nn (-x) → x = 0:=by
  obtain ⟨f,hf,rfl⟩:=RR.rep x;exact fun h k=>RR.sound (Cnn.anti h k)
theorem RR.nn_of {q : Rat} : RR.nn (RR.of q) ↔ 0 ≤ q:=by
  constructor
  · intro h
    refine Rat.not_lt.1 fun hlt=>?_
    obtain ⟨N,hN⟩:=(show Cnn (fun _=>q) from h) (-q) (by grind)
    have:=hN N (Nat.le_refl _);grind
  · intro h
    show Cnn (fun _=>q)
    exact fun e he=>⟨0,fun i _=>by grind⟩
theorem RR.le_refl (x : RR) : x ≤ x:=by rw [RR.le_def,RR.sub_self];exact RR.nn_of.2 (by decide)
theorem RR.le_trans {x y z : RR} (h : x ≤ y) (k : y ≤ z) : x ≤ z:=by
  rw [RR.le_def,← RR.sub_trans x y z];exact RR.nn_add h k
theorem RR.le_antisymm {x y : RR} (h : x ≤ y) (k : y ≤ x) : x = y:=by
  have:=RR.nn_anti (x:=y - x) h (by rw [RR.neg_sub];exact k)
  rw [← RR.sub_add y x,this,RR.zero_add]
theorem RR.le_total (x y : RR) : x ≤ y ∨ y ≤ x:=by
  rcases RR.nn_total (y - x) with h | h
  · exact .inl h
  · rw [RR.neg_sub] at h;exact .inr h
theorem RR.not_le {x y : RR} : ¬ x ≤ y ↔ y < x:=Iff.rfl
theorem RR.not_lt {x y : RR} : ¬ x < y ↔ y ≤ x:=Classical.not_not
theorem RR.le_of_lt {x y : RR} (h : x < y) : x ≤ y:=(RR.le_total x y).elim id fun k=>absurd k h
theorem RR.lt_irrefl (x : RR) : ¬ x < x:=fun h=>h (RR.le_refl x)
theorem RR.lt_of_lt_of_le {x y z : RR} (h : x < y) (k : y ≤ z) : x < z:=fun j=>h (RR.le_trans k j)
theorem RR.lt_of_le_of_lt {x y z : RR} (h : x ≤ y) (k : y < z) : x < z:=fun j=>k (RR.le_trans j h)
theorem RR.lt_trans {x y z : RR} (h : x < y) (k : y < z) : x < z:=RR.lt_of_lt_of_le h (RR.le_of_lt k)
theorem RR.ne_of_lt {x y : RR} (h : x < y) : x ≠ y:=fun e=>RR.lt_irrefl y (e ▸ h)
theorem RR.lt_of_ne {x y : RR} (h : x ≤ y) (k : x ≠ y) : x < y:=fun j=>k (RR.le_antisymm h j)
theorem RR.lt_tri (x y : RR) : x < y ∨ x = y ∨ y < x:=by
  by_cases h : x = y
  · exact .inr (.inl h)
  · rcases RR.le_total x y with k | k
    · exact .inl (RR.lt_of_ne k h)
    · exact .inr (.inr (RR.lt_of_ne k (Ne.symm h)))
theorem RR.le_iff_sub {x y : RR} : x ≤ y ↔ 0 ≤ y - x:=by rw [RR.le_def,RR.nn_iff]
theorem RR.lt_iff_sub {x y : RR} : x < y ↔ 0 < y - x:=by
  rw [RR.lt_def,RR.lt_def,RR.le_def,RR.le_def,RR.zero_sub,RR.neg_sub]
theorem RR.add_nn {x y : RR} (h : 0 ≤ x) (k : 0 ≤ y) : 0 ≤ x + y:=RR.nn_iff.1 (RR.nn_add (RR.nn_iff.2 h) (RR.nn_iff.2 k))
theorem RR.mul_nn {x y : RR} (h : 0 ≤ x) (k : 0 ≤ y) : 0 ≤ x * y:=RR.nn_iff.1 (RR.nn_mul (RR.nn_iff.2 h) (RR.nn_iff.2 k))
theorem RR.add_pos {x y : RR} (h : 0 < x) (k : 0 ≤ y) : 0 < x + y:=by
  refine RR.lt_of_ne (RR.add_nn (RR.le_of_lt h) k) fun e=>?_
  refine h ?_
  have : y = -x:=by rw [← RR.zero_add (-x),e,RR.add_comm x y,← RR.sub_eq,RR.add_sub]
  rw [RR.le_def,RR.zero_sub,← this];exact RR.nn_iff.2 k
theorem RR.neg_nn {x : RR} : 0 ≤ -x ↔ x ≤ 0:=by rw [RR.le_def,RR.le_def,RR.sub_zero,RR.zero_sub]
theorem RR.neg_pos {x : RR} : 0 < -x ↔ x < 0:=by rw [RR.lt_def,RR.lt_def,← RR.neg_nn,RR.neg_neg]
theorem RR.of_add (p q : Rat) : RR.of (p + q) = RR.of p + RR.of q:=rfl
theorem RR.of_mul (p q : Rat) : RR.of (p * q) = RR.of p * RR.of q:=rfl
theorem RR.of_neg (p : Rat) : RR.of (-p) = -RR.of p:=rfl
theorem RR.of_sub (p q : Rat) : RR.of (p - q) = RR.of p - RR.of q:=by rw [Rat.sub_eq_add_neg];rfl
theorem RR.of_le {p q : Rat} : RR.of p ≤ RR.of q ↔ p ≤ q:=by
  rw [RR.le_def,← RR.of_sub,RR.nn_of];constructor <;> intro h <;> grind
theorem RR.of_lt {p q : Rat} : RR.of p < RR.of q ↔ p < q:=by rw [RR.lt_def,RR.of_le,Rat.not_le]
theorem RR.has_inv_neg {x : RR} : ¬ RR.nn x → ∃ y,x * y = 1:=by
  obtain ⟨f,hf,rfl⟩:=RR.rep x
  intro h
  obtain ⟨e,he,N,hN⟩:=Cau.away hf h
  refine ⟨RR.mk _ (hf.inv he fun i hi=>.inr (hN i hi)),RR.sound fun d hd=>⟨N,fun i hi=>?_⟩⟩
  have h1 : f i ≠ 0:=fun hz=>by have:=hN i hi;rw [hz] at this;grind
  have h2 : f i * (f i)⁻¹ = 1:=by grind
  have h3 : ((1 : Nat) : Rat) = 1:=rfl
  simp only [h2,h3]
  constructor <;> grind
theorem RR.has_inv {x : RR} (h : x ≠ 0) : ∃ y,x * y = 1:=by
  by_cases h1 : RR.nn x
  · by_cases h2 : RR.nn (-x)
    · exact absurd (RR.nn_anti h1 h2) h
    · obtain ⟨y,hy⟩:=RR.has_inv_neg h2
      exact ⟨-y,by rw [RR.mul_neg,← RR.neg_mul,hy]⟩
  · exact RR.has_inv_neg h1
theorem RR.mul_pos {x y : RR} (h : 0 < x) (k : 0 < y) : 0 < x * y:=by
  refine RR.lt_of_ne (RR.mul_nn (RR.le_of_lt h) (RR.le_of_lt k)) fun e=>?_
  obtain ⟨z,hz⟩:=RR.has_inv (Ne.symm (RR.ne_of_lt h))
  have : y = 0:=by rw [← RR.one_mul y,← hz,RR.mul_comm x z,RR.mul_assoc,← e,RR.mul_zero]
  exact RR.ne_of_lt k this.symm
open Classical in
noncomputable def RR.inv (x : RR) : RR:=if h : x = 0 then 0 else (RR.has_inv h).choose
theorem rat_arch (q : Rat) : ∃ n : Nat,q < n:=by
  refine ⟨(q.floor + 1).toNat,?_⟩
  have h:=Rat.lt_floor_add_one q
  have h2 : q.floor + 1 ≤ (((q.floor + 1).toNat : Nat) : Int):=Int.self_le_toNat _
  have h3 : ((q.floor + 1 : Int) : Rat) ≤ ((((q.floor + 1).toNat : Nat) : Int) : Rat):=Rat.intCast_le_intCast.2 h2
  have h4 : ((((q.floor + 1).toNat : Nat) : Int) : Rat) = (((q.floor + 1).toNat : Nat) : Rat):=rfl
  grind
theorem nat_step {p : Nat → Prop} (h0 : p 0) {m : Nat} (hm : ¬ p m) : ∃ k,p k ∧ ¬ p (k + 1):=by
  induction m with
  | zero=>exact absurd h0 hm
  | succ m ih =>
    by_cases h : p m
    · exact ⟨m,h,hm⟩
    · exact ih h
theorem root_near (q : Rat) (hq : 0 ≤ q) (n : Nat) : ∃ y : Rat,0 ≤ y ∧ y * y ≤ q ∧ q < (y + 1 / ((n : Rat) + 1)) * (y + 1 / ((n : Rat) + 1)):=by
  have hn : (0 : Rat) < (n : Rat) + 1:=by have : (0 : Rat) ≤ (n : Rat):=Rat.natCast_nonneg;grind
  generalize (n : Rat) + 1 = m at *
  clear n
  obtain ⟨M,hM⟩:=rat_arch (q * (m * m) + 1)
  have hmm:=rmul_pos hn hn
  obtain ⟨k,h1,h2⟩:=nat_step (p:=fun k=>(k : Rat) * k ≤ q * (m * m)) (by show ((0 : Nat) : Rat) * ((0 : Nat) : Rat) ≤ _;have:=Rat.mul_nonneg hq (Rat.le_of_lt hmm);have e : ((0 : Nat) : Rat) = 0:=rfl;rw [e];grind) (m:=M) (by
    intro h
    have h : (M : Rat) * M ≤ q * (m * m):=h
    have hM1 : (1 : Rat) < M:=by have:=Rat.mul_nonneg hq (Rat.le_of_lt hmm);grind
    have:=rmul_le (a:=1) (b:=M) (c:=(M : Rat)) (d:=M) (by decide) (Rat.le_of_lt hM1) (by grind) (by grind)
    grind)
  have h2_1:=h2
  have h2 : ¬ ((k + 1 : Nat) : Rat) * ((k + 1 : Nat) : Rat) ≤ q * (m * m):=h2
  have ek : ((k + 1 : Nat) : Rat) = (k : Rat) + 1:=by push_cast;rfl
  rw [ek] at h2
  have hk : (0 : Rat) ≤ (k : Rat):=Rat.natCast_nonneg
  generalize (k : Rat) = K at *
  clear ek hM
  refine ⟨K / m,?_,?_,?_⟩
  · rw [Rat.div_def];exact Rat.mul_nonneg hk (Rat.le_of_lt (Rat.inv_pos.2 hn))
  · refine Rat.not_lt.1 fun h=>?_
    have:=rmul_pos (show 0 < K / m * (K / m) - q by grind) hmm
    have e1 : K / m * m = K:=rmul_div hn
    generalize K / m = r at *
    have e3 : r * m * (r * m) = K * K:=by rw [e1]
    clear h2_1 h2
    grind
  · refine Rat.not_le.1 fun h=>?_
    have:=Rat.mul_nonneg (show 0 ≤ q - (K / m + 1 / m) * (K / m + 1 / m) by grind) (Rat.le_of_lt hmm)
    have e1 : K / m * m = K:=rmul_div hn
    have e2 : 1 / m * m = 1:=rmul_div hn
    generalize K / m = r at *
    generalize 1 / m = s at *
    have e3 : (r + s) * m * ((r + s) * m) = (K + 1) * (K + 1):=by rw [show (r + s) * m = K + 1 by grind]
    clear h2_1 h1
    grind
theorem inv_small {e : Rat} (he : 0 < e) : ∃ N : Nat,∀ n : Nat,N ≤ n → 0 < 1 / ((n : Rat) + 1) ∧ 1 / ((n : Rat) + 1) < e:=by
  obtain ⟨N,hN⟩:=rat_arch (1 / e)
  refine ⟨N,fun n hn=>?_⟩
  have h0 : (N : Rat) ≤ (n : Rat):=Rat.natCast_le_natCast.2 hn
  have h1:=rdiv_pos (a:=1) (by decide) he
  have h2 : 1 / e * e = 1:=rmul_div he
  have h3 : (0 : Rat) < (n : Rat) + 1:=by grind
  refine ⟨rdiv_pos (by decide) h3,?_⟩
  have h4 : 1 / ((n : Rat) + 1) * ((n : Rat) + 1) = 1:=rmul_div h3
  have h5:=rdiv_pos (a:=1) (by decide) h3
  generalize 1 / ((n : Rat) + 1) = u at *
  generalize 1 / e = v at *
  refine Rat.not_le.1 fun hle=>?_
  have:=rmul_pos (show 0 < (n : Rat) + 1 - v by grind) he
  have:=Rat.mul_nonneg (show 0 ≤ u - e by grind) (Rat.le_of_lt h3)
  grind
theorem max0_cau {f : Nat → Rat} (h : Cau f) : Cau fun n=>if 0 ≤ f n then f n else 0:=fun e he=>by
  obtain ⟨N,hN⟩:=h e he
  refine ⟨N,fun i j hi hj=>?_⟩
  have:=hN i j hi hj
  simp only
  split <;> split <;> grind
theorem max0_eq {f : Nat → Rat} (h : Cnn f) : Ceq (fun n=>if 0 ≤ f n then f n else 0) f:=fun e he=>by
  obtain ⟨N,hN⟩:=h e he
  refine ⟨N,fun i hi=>?_⟩
  have:=hN i hi
  simp only
  split <;> constructor <;> grind
theorem RR.has_root {x : RR} : RR.nn x → ∃ y,RR.nn y ∧ y * y = x:=by
  obtain ⟨f,hf,rfl⟩:=RR.rep x
  intro h
  have h : Cnn f:=h
  have hg:=max0_cau hf
  have he:=max0_eq h
  have hg0 : ∀ n,0 ≤ (fun n=>if 0 ≤ f n then f n else 0) n:=fun n=>by simp only;split <;> grind
  generalize (fun n=>if 0 ≤ f n then f n else 0) = g at *
  have hy : ∀ n,∃ y : Rat,0 ≤ y ∧ y * y ≤ g n ∧ g n < (y + 1 / ((n : Rat) + 1)) * (y + 1 / ((n : Rat) + 1)):=fun n=>root_near (g n) (hg0 n) n
  obtain ⟨y,hy⟩ : ∃ y : Nat → Rat,∀ n,0 ≤ y n ∧ y n * y n ≤ g n ∧ g n < (y n + 1 / ((n : Rat) + 1)) * (y n + 1 / ((n : Rat) + 1)):=⟨fun n=>(hy n).choose,fun n=>(hy n).choose_spec⟩
  have hc : Cau y:=fun e he=>by
    have hE:=rmul_pos (half_pos he) (half_pos he)
    obtain ⟨N,hN⟩:=hg _ hE
    obtain ⟨M,hM⟩:=inv_small (half_pos he)
    refine ⟨max N M,fun i j hi hj=>?_⟩
    have a:=hN i j (by omega) (by omega)
    obtain ⟨u0,u1⟩:=hM j (by omega)
    obtain ⟨p1,p2,p3⟩:=hy i
    obtain ⟨q1,q2,q3⟩:=hy j
    generalize 1 / ((j : Rat) + 1) = u at *
    generalize y i = Y at *
    generalize y j = Z at *
    generalize g i = A at *
    generalize g j = B at *
    refine Rat.not_le.1 fun hle=>?_
    have r1:=rmul_le (a:=Z + e) (b:=Y) (c:=Z + e) (d:=Y) (by grind) (by grind) (by grind) (by grind)
    have r2:=rmul_le (a:=Z + u) (b:=Z + e / 2) (c:=Z + u) (d:=Z + e / 2) (by grind) (by grind) (by grind) (by grind)
    have r3:=Rat.mul_nonneg q1 (Rat.le_of_lt he)
    have r4:=rmul_pos he he
    grind
  obtain ⟨B,hB,hb⟩:=hc.bound
  refine ⟨RR.mk y hc,fun e he=>⟨0,fun i _=>by have:=(hy i).1;grind⟩,RR.sound (Ceq.trans ?_ he)⟩
  intro e he'
  have hd:=rdiv_pos he' (show 0 < 2 * B + 1 by grind)
  obtain ⟨M,hM⟩:=inv_small hd
  obtain ⟨M2,hM2⟩:=inv_small (show (0 : Rat) < 1 by decide)
  refine ⟨max M M2,fun i hi=>?_⟩
  obtain ⟨u0,u1⟩:=hM i (by omega)
  obtain ⟨_,u2⟩:=hM2 i (by omega)
  obtain ⟨q1,q2,q3⟩:=hy i
  have hbi:=hb i
  have e1 : e / (2 * B + 1) * (2 * B + 1) = e:=rmul_div (by grind)
  generalize e / (2 * B + 1) = d at *
  generalize 1 / ((i : Rat) + 1) = u at *
  simp only
  generalize y i = Y at *
  generalize g i = A at *
  have r1:=Rat.mul_nonneg (show 0 ≤ B - Y by grind) (Rat.le_of_lt u0)
  have r2:=Rat.mul_nonneg (show 0 ≤ 1 - u by grind) (Rat.le_of_lt u0)
  have r3:=rmul_pos (show 0 < d - u by grind) (show 0 < 2 * B + 1 by grind)
  constructor <;> grind
open Classical in
noncomputable def RR.sq (x : RR) : RR:=if h : 0 ≤ x then (RR.has_root (RR.nn_iff.2 h)).choose else 0
theorem RR.sq_nonneg (x : RR) : 0 ≤ x.sq:=by
  unfold RR.sq;split
  · rename_i h;exact RR.nn_iff.1 (RR.has_root (RR.nn_iff.2 h)).choose_spec.1
  · exact RR.le_refl 0
theorem RR.sq_sq {x : RR} (h : 0 ≤ x) : x.sq * x.sq = x:=by
  unfold RR.sq;rw [dif_pos h];exact (RR.has_root (RR.nn_iff.2 h)).choose_spec.2
end Go.Proofs.YtdeihehaheelmaaGreat
namespace Go.Proofs.YtdeihehaheelmaaGreat
open Classical in
noncomputable def sgR (x : RR) : Int:=if x < 0 then -1 else if 0 < x then 1 else 0
theorem RR.lt_asymm {x y : RR} (h : x < y) : ¬ y < x:=fun k=>RR.lt_irrefl x (RR.lt_trans h k)
theorem sgR_cases (x : RR) : (x < 0 ∧ sgR x = -1) ∨ (x = 0 ∧ sgR x = 0) ∨ (0 < x ∧ sgR x = 1):=by
  rcases RR.lt_tri x 0 with h | h | h
  · exact .inl ⟨h,by unfold sgR;rw [if_pos h]⟩
  · subst h;exact .inr (.inl ⟨rfl,by unfold sgR;rw [if_neg (RR.lt_irrefl 0),if_neg (RR.lt_irrefl 0)]⟩)
  · exact .inr (.inr ⟨h,by unfold sgR;rw [if_neg (RR.lt_asymm h),if_pos h]⟩)
theorem sgR_pos {x : RR} (h : 0 < x) : sgR x = 1:=by
  unfold sgR;rw [if_neg (RR.lt_asymm h),if_pos h]
theorem sgR_neg {x : RR} (h : x < 0) : sgR x = -1:=by unfold sgR;rw [if_pos h]
theorem sgR_zero : sgR 0 = 0:=by unfold sgR;rw [if_neg (RR.lt_irrefl 0),if_neg (RR.lt_irrefl 0)]
theorem sgR_negate (x : RR) : sgR (-x) = -sgR x:=by
  rcases sgR_cases x with ⟨h,e⟩ | ⟨h,e⟩ | ⟨h,e⟩
  · rw [e,sgR_pos (RR.neg_pos.2 h)];rfl
  · subst h;rw [RR.neg_zero,sgR_zero];rfl
  · rw [e,sgR_neg];rw [← RR.neg_pos,RR.neg_neg];exact h
theorem sgR_mul (x y : RR) : sgR (x * y) = sgR x * sgR y:=by
  have pp : ∀ {x y : RR},0 < x → 0 < y → sgR (x * y) = sgR x * sgR y:=fun h k=>by rw [sgR_pos h,sgR_pos k,sgR_pos (RR.mul_pos h k)];rfl
  have np : ∀ {x y : RR},x < 0 → 0 < y → sgR (x * y) = sgR x * sgR y:=fun {x y} h k=>by
    have:=pp (RR.neg_pos.2 h) k
    rw [RR.neg_mul,sgR_negate,sgR_negate] at this
    rw [Int.neg_mul] at this;omega
  rcases RR.lt_tri x 0 with h | h | h
  · rcases RR.lt_tri y 0 with k | k | k
    · have:=np h (RR.neg_pos.2 k)
      rw [RR.mul_neg,sgR_negate,sgR_negate,Int.mul_neg] at this;omega
    · subst k;rw [RR.mul_zero,sgR_zero,Int.mul_zero]
    · exact np h k
  · subst h;rw [RR.zero_mul,sgR_zero,Int.zero_mul]
  · rcases RR.lt_tri y 0 with k | k | k
    · rw [RR.mul_comm,Int.mul_comm];exact np k h
    · subst k;rw [RR.mul_zero,sgR_zero,Int.mul_zero]
    · exact pp h k
theorem sgR_of (q : Rat) : sgR (RR.of q) = q.num.sign:=by
  rcases sgn_cases q.num with ⟨h,e⟩ | ⟨h,e⟩ | ⟨h,e⟩
  all_goals first
    | (rw [e];exact sgR_pos (RR.of_lt (p:=0) |>.2 (rat_pos_iff.2 (by omega))))
    | (rw [e]; have : q = 0 := (@Rat.num_eq_zero q).1 (by omega)
       subst this;exact sgR_zero)
    | (rw [e]; refine sgR_neg (RR.of_lt (q := 0) |>.2 ?_)
       have h1:=@Rat.num_nonneg q
       rcases Classical.em (0 ≤ q) with h2 | h2
       · have:=h1.2 h2;omega
       · exact Rat.not_le.1 h2)
theorem sgR_cmp (p q : Rat) : sgR (RR.of p - RR.of q) = cmpQ p q:=by
  rw [← RR.of_sub]
  unfold cmpQ
  split
  · exact sgR_neg (RR.of_lt (q:=0) |>.2 (by grind))
  · split
    · exact sgR_pos (RR.of_lt (p:=0) |>.2 (by grind))
    · have : p - q = 0:=by grind
      rw [this];exact sgR_zero
theorem RR.sub_def (x y : RR) : x - y = x + -y:=rfl
theorem sgR_add {u v : RR} : sgR (u + v) = if sgR u = 0 ∨ sgR u = sgR v then sgR v else if sgR v = 0 then sgR u else sgR u * sgR (u * u - v * v):=by
  have hf : u * u - v * v = (u + v) * (u - v):=by
    obtain ⟨f,hf,rfl⟩:=RR.rep u;obtain ⟨g,hg,rfl⟩:=RR.rep v
    exact RR.ext fun n=>by grind
  have hm:=sgR_mul (u + v) (u - v)
  rw [← hf] at hm
  rcases sgR_cases u with ⟨h,e⟩ | ⟨h,e⟩ | ⟨h,e⟩
  · rcases sgR_cases v with ⟨k,e2⟩ | ⟨k,e2⟩ | ⟨k,e2⟩
    · rw [e,e2,if_pos (.inr rfl)]
      refine sgR_neg ?_
      have h1:=RR.add_pos (RR.neg_pos.2 h) (RR.le_of_lt (RR.neg_pos.2 k))
      rw [← RR.neg_add] at h1
      exact RR.neg_pos.1 h1
    · subst k;rw [RR.add_zero,e,sgR_zero,if_neg (by decide),if_pos rfl]
    · rw [e,e2,if_neg (by decide),if_neg (by decide)]
      have h1 : sgR (u - v) = -1:=by
        refine sgR_neg ?_
        have h1:=RR.add_pos (RR.neg_pos.2 h) (RR.le_of_lt k)
        rw [← RR.neg_pos,RR.neg_sub,RR.sub_def,RR.add_comm];exact h1
      rw [h1] at hm;omega
  · subst h;rw [RR.zero_add,sgR_zero,if_pos (.inl rfl)]
  · rcases sgR_cases v with ⟨k,e2⟩ | ⟨k,e2⟩ | ⟨k,e2⟩
    · rw [e,e2,if_neg (by decide),if_neg (by decide)]
      have h1 : sgR (u - v) = 1:=by
        refine sgR_pos ?_
        exact RR.add_pos h (RR.le_of_lt (RR.neg_pos.2 k))
      rw [h1] at hm;omega
    · subst k;rw [RR.add_zero,e,sgR_zero,if_neg (by decide),if_pos rfl]
    · rw [e,e2,if_pos (.inr rfl)];exact sgR_pos (RR.add_pos h (RR.le_of_lt k))
theorem sgR_sq {w t : RR} (hw : 0 ≤ w) (ht : 0 ≤ t) : sgR (w - t) = sgR (w * w - t * t):=by
  have hf : w * w - t * t = (w - t) * (w + t):=by
    obtain ⟨f,hf,rfl⟩:=RR.rep w;obtain ⟨g,hg,rfl⟩:=RR.rep t
    exact RR.ext fun n=>by grind
  rw [hf,sgR_mul]
  rcases sgR_cases (w + t) with ⟨h,e⟩ | ⟨h,e⟩ | ⟨h,e⟩
  · exact absurd (RR.add_nn hw ht) h
  · have hw0 : w = 0 := by
      refine RR.le_antisymm ?_ hw
      refine RR.not_lt.1 fun k=>?_
      have:=RR.add_pos k ht
      rw [h] at this;exact RR.lt_irrefl 0 this
    have ht0 : t = 0:=by rw [hw0,RR.zero_add] at h;exact h
    rw [hw0,ht0,RR.sub_self,sgR_zero,Int.zero_mul]
  · rw [e,Int.mul_one]
noncomputable def rt (q : Rat) : RR:=(RR.of q).sq
theorem rt_nn (q : Rat) : 0 ≤ rt q:=RR.sq_nonneg _
theorem rt_sq {q : Rat} (h : 0 ≤ q) : rt q * rt q = RR.of q:=RR.sq_sq (RR.of_le (p:=0) |>.2 h)
theorem sgR_rt {q : Rat} (h : 0 ≤ q) : sgR (rt q) = q.num.sign:=by
  have h1:=sgR_mul (rt q) (rt q)
  rw [rt_sq h,sgR_of] at h1
  rcases sgR_cases (rt q) with ⟨k,e⟩ | ⟨k,e⟩ | ⟨k,e⟩
  · exact absurd (rt_nn q) k
  · rw [e] at h1 ⊢;omega
  · rw [e] at h1 ⊢;omega
theorem mixed_sg {x y d : Rat} (hd : 0 ≤ d) : mixedF x y d = sgR (RR.of x + RR.of y * rt d):=by
  rw [sgR_add,sgR_mul,sgR_of,sgR_of,sgR_rt hd]
  have hq : RR.of x * RR.of x - RR.of y * rt d * (RR.of y * rt d) = RR.of (x * x) - RR.of (y * y * d):=by
    rw [RR.of_mul,RR.of_mul,RR.of_mul,← rt_sq hd]
    generalize RR.of x = a;generalize RR.of y = b;generalize rt d = c
    obtain ⟨f,hf,rfl⟩:=RR.rep a;obtain ⟨g,hg,rfl⟩:=RR.rep b;obtain ⟨k,hk,rfl⟩:=RR.rep c
    exact RR.ext fun n=>by grind
  rw [hq,sgR_cmp]
  rfl
theorem roots_sg {x d f : Rat} (hd : 0 ≤ d) (hf : 0 ≤ f) : rootsF x d f = sgR (RR.of x + RR.of 2 * rt d - RR.of 2 * rt f):=by
  unfold rootsF
  rw [mixed_sg hd,mixed_sg hd]
  have ht : 0 ≤ RR.of 2 * rt f:=RR.mul_nn (RR.of_le (p:=0) |>.2 (by decide)) (rt_nn f)
  split
  · rename_i h
    symm
    refine sgR_neg ?_
    have hw : RR.of x + RR.of 2 * rt d < 0:=by
      rcases sgR_cases (RR.of x + RR.of 2 * rt d) with ⟨k,e⟩ | ⟨k,e⟩ | ⟨k,e⟩
      · exact k
      · omega
      · omega
    have h2:=RR.add_pos (RR.neg_pos.2 hw) ht
    rw [← RR.neg_pos,RR.neg_sub,RR.sub_def,RR.add_comm];exact h2
  · rename_i h
    have hw : 0 ≤ RR.of x + RR.of 2 * rt d:=by
      rcases sgR_cases (RR.of x + RR.of 2 * rt d) with ⟨k,e⟩ | ⟨k,e⟩ | ⟨k,e⟩
      · omega
      · rw [k];exact RR.le_refl 0
      · exact RR.le_of_lt k
    rw [sgR_sq hw ht]
    congr 1
    have e : RR.of (x * x + 4 * d - 4 * f) = RR.of x * RR.of x + RR.of 4 * (rt d * rt d) - RR.of 4 * (rt f * rt f):=by
      rw [rt_sq hd,rt_sq hf,RR.of_sub,RR.of_add,RR.of_mul,RR.of_mul,RR.of_mul]
    rw [e,RR.of_mul]
    generalize RR.of x = a;generalize rt d = b;generalize rt f = c
    obtain ⟨f,hf,rfl⟩:=RR.rep a;obtain ⟨g,hg,rfl⟩:=RR.rep b;obtain ⟨k,hk,rfl⟩:=RR.rep c
    exact RR.ext fun n=>by grind
theorem rt_eq {a b : RR} (ha : 0 ≤ a) (hb : 0 ≤ b) (h : a * a = b * b) : a = b:=by
  have h1:=sgR_sq ha hb
  rw [h,RR.sub_self,sgR_zero] at h1
  rcases sgR_cases (a - b) with ⟨k,e⟩ | ⟨k,e⟩ | ⟨k,e⟩
  · omega
  · rw [← RR.sub_add a b,k,RR.zero_add]
  · omega
theorem rt_mul {a b : Rat} (ha : 0 ≤ a) (hb : 0 ≤ b) : rt (a * b) = rt a * rt b:=by
  refine rt_eq (rt_nn _) (RR.mul_nn (rt_nn a) (rt_nn b)) ?_
  rw [rt_sq (Rat.mul_nonneg ha hb),RR.of_mul,← rt_sq ha,← rt_sq hb]
  generalize rt a = x;generalize rt b = y
  obtain ⟨f,hf,rfl⟩:=RR.rep x;obtain ⟨g,hg,rfl⟩:=RR.rep y
  exact RR.ext fun n=>by grind
theorem rt_le {a b : Rat} (ha : 0 ≤ a) (hab : a ≤ b) : rt a ≤ rt b:=by
  have h1:=sgR_sq (rt_nn a) (rt_nn b)
  rw [rt_sq ha,rt_sq (by grind),sgR_cmp] at h1
  rcases sgR_cases (rt a - rt b) with ⟨k,e⟩ | ⟨k,e⟩ | ⟨k,e⟩
  · refine RR.le_of_lt (RR.lt_iff_sub.2 ?_)
    rw [← RR.neg_sub];exact RR.neg_pos.2 k
  · rw [← RR.sub_add (rt a) (rt b),k,RR.zero_add];exact RR.le_refl _
  · rw [e] at h1;unfold cmpQ at h1
    split at h1
    · omega
    · split at h1
      · grind
      · omega
theorem roots_four {a b c d : Rat} (ha : 0 ≤ a) (hb : 0 ≤ b) (hc : 0 ≤ c) (hd : 0 ≤ d) : rootsF (a + b - (c + d)) (a * b) (c * d) = sgR ((rt a + rt b) - (rt c + rt d)):=by
  rw [roots_sg (Rat.mul_nonneg ha hb) (Rat.mul_nonneg hc hd),rt_mul ha hb,rt_mul hc hd,sgR_sq (RR.add_nn (rt_nn a) (rt_nn b)) (RR.add_nn (rt_nn c) (rt_nn d))]
  congr 1
  rw [RR.of_sub,RR.of_add,RR.of_add,← rt_sq ha,← rt_sq hb,← rt_sq hc,← rt_sq hd]
  generalize rt a = x;generalize rt b = y;generalize rt c = z;generalize rt d = u
  obtain ⟨f,hf,rfl⟩:=RR.rep x;obtain ⟨g,hg,rfl⟩:=RR.rep y;obtain ⟨k,hk,rfl⟩:=RR.rep z;obtain ⟨l,hl,rfl⟩:=RR.rep u
  exact RR.ext fun n=>by grind
end Go.Proofs.YtdeihehaheelmaaGreat
namespace Go.Proofs.YtdeihehaheelmaaGreat
end Go.Proofs.YtdeihehaheelmaaGreat
namespace Go.Proofs.YtdeihehaheelmaaGreat
open Go.RowKit (Below)
section
variable {P : Program} {o : Oper} {a : Act} {w : World} {G : Gh} {τ : MT}
theorem OpR.ixAr {x y : Operand} {t e : TypeId} {b n i : Nat} {m : Int} {k : IntKind} {s : Option Nat} (hok : Gok w G) (ho : o.op = .indexAddr t x y) (ht : P.underlying t = some (.array n e)) (hs : tyS P e s = true)
    (hx : a.eval x = .pointer (some ⟨b,0,none⟩)) (hy : a.eval y = .int k m) (hm : m = (i : Int)) (hi : i < n) (h : τ.t (.pointer (some ⟨b,i * s.getD 1,none⟩)) G) : OpR P o a w G τ:=by
  subst hm
  refine .run hok (v:=.pointer (some ⟨b,i * s.getD 1,none⟩)) ?_ h
  simp [execOp,ho,Instr.indexAt,Instr.sureAddr,hx,hy,asIntOf,run_underlying ht,tyS_size hs,addr_add,hi]
theorem OpR.slAr {x : Operand} {t e : TypeId} {b n : Nat} {s : Option Nat} (hok : Gok w G) (ho : o.op = .slice t x none none none) (ht : P.underlying t = some (.array n e)) (hs : tyS P e s = true)
    (hx : a.eval x = .pointer (some ⟨b,0,none⟩)) (hn : (decide (0 < n)) = true) (h : τ.t (.slice (some ⟨b,0,none⟩) n n) G) : OpR P o a w G τ:=by
  have hn:=of_decide_eq_true hn
  refine .run hok (v:=.slice (some ⟨b,0,none⟩) n n) ?_ h
  simp [execOp,ho,Instr.sliceAt,Instr.sureAddr,Instr.sliceBounds,Instr.sliceBound,hx,run_underlying ht,tyS_size hs,addr_add]
end
def ARN (k : Option Nat) (τs : List MT) : MT:=⟨fun v G=>∃ us,v = .agg (flat us).toArray ∧ Els k τs us G,fun hle ⟨us,h1,h2⟩=>⟨us,h1,h2.mono hle⟩⟩
section
variable {k : Option Nat} {τs : List MT} {v : Value} {G : Gh}
theorem ARN.shaped (h : (ARN k τs).t v G) : Shaped (some (τs.length * k.getD 1)) v:=by
  obtain ⟨us,rfl,hE⟩:=h
  exact ⟨_,rfl,by show (flat us).length = _;rw [flat_len hE.sizes,hE.1],flat_one hE.shaped⟩
instance : Shp (ARN k τs) (some (τs.length * k.getD 1)):=⟨fun {_ _} h=>ARN.shaped h⟩
theorem ARN.rows (h : (ARN k τs).t v G) : (ROWS k τs).t v G:=by
  obtain ⟨us,rfl,hE⟩:=h
  exact ⟨us,[],by rw [List.append_nil],hE⟩
theorem ROWS.arn {n : Nat} (h : (ROWS k τs).t v G) (hs : Shaped (some n) v) (hn : τs.length * k.getD 1 = n) : (ARN k τs).t v G:=by
  obtain ⟨us,r,rfl,hE⟩:=h
  obtain ⟨cs,e1,hsz,_⟩:=hs
  injection e1 with e1
  have : (flat us ++ r).length = n:=by rw [← hsz,← e1];simp
  rw [List.length_append,flat_len hE.sizes,hE.1,hn] at this
  have hr : r = []:=List.length_eq_zero_iff.1 (by omega)
  subst hr
  exact ⟨us,by rw [List.append_nil],hE⟩
theorem PTS.arn (h : (PTS (τs.map fun τ=>(k,τ))).t v G) : (ARN k τs).t v G:=by
  obtain ⟨us,rfl,hl,hE⟩:=h
  refine ⟨us,rfl,by simpa using hl,fun i τ u h1 h2=>hE i (k,τ) u (by rw [List.getElem?_map,h1];rfl) h2⟩
theorem ARN.eqM {α : Type} {T : α → MT} {xs ys : List α} (h : (ARN k (xs.map T)).t v G) (e : xs = ys) : (ARN k (ys.map T)).t v G:=e ▸ h
theorem ARN.convM {α β : Type} {T : α → MT} {U : β → MT} {f : α → β} {xs : List α} {ys : List β} (h : (ARN k (xs.map T)).t v G) (e : ys = xs.map f) (hc : ∀ x,x ∈ xs → ∀ v G,(T x).t v G → (U (f x)).t v G) : (ARN k (ys.map U)).t v G:=by
  subst e
  obtain ⟨us,rfl,hE⟩:=h
  refine ⟨us,rfl,by rw [hE.1];simp,fun i τ u h1 h2=>?_⟩
  rw [List.map_map,List.getElem?_map] at h1
  cases hx : xs[i]? with
  | none=>rw [hx] at h1;cases h1
  | some x =>
    rw [hx] at h1;cases h1
    have:=hE.2 i (T x) u (by rw [List.getElem?_map,hx];rfl) h2
    exact ⟨this.1,hc x (List.mem_of_getElem? hx) u G this.2⟩
theorem OpR.ldArr {P : Program} {o : Oper} {a : Act} {w W0 : World} {x : Operand} {t ty : TypeId} {b n : Nat} (hok : Gok w G) (ho : o.op = .load t x) (hx : a.eval x = .pointer (some ⟨b,0,none⟩)) (hb : BX.ok ⟨b,ty,some n,ROWS k τs⟩ W0 w G) (hT : tyS P t (some n) = true) (hn : τs.length * k.getD 1 = n) : OpR P o a w G (ARN k τs):=by
  obtain ⟨_,_,v,hv,hs,ht⟩:=hb
  exact .run hok (by simp [execOp,ho,hx,Instr.loadAt,Instr.sureAddr,load_whole hT hv hs]) (ROWS.arn ht hs hn)
end
end Go.Proofs.YtdeihehaheelmaaGreat
namespace Go.Proofs.YtdeihehaheelmaaGreat
open Go.RowKit (Below)
def surdF (x y d : Rat) : Int :=
  if x.num.sign = 0 ∨ y.num.sign * d.num.sign = 0 ∨ x.num.sign = y.num.sign * d.num.sign then (if x.num.sign = 0 then y.num.sign * d.num.sign else x.num.sign) else x.num.sign * cmpQ (x * x) (y * y * d)
def surdsF (x y d z e : Rat) : Int :=
  if surdF x y d = 0 ∨ z.num.sign * e.num.sign = 0 ∨ surdF x y d = z.num.sign * e.num.sign then (if surdF x y d = 0 then z.num.sign * e.num.sign else surdF x y d) else surdF x y d * surdF (x * x + y * y * d - z * z * e) (2 * (x * y)) d
def sumsF (p q r s : Rat) : Int:=surdsF (p + q - (r + s)) 2 (p * q) (-2) (r * s)
theorem surd_mixed {x y d : Rat} : surdF x y d = mixedF x y d:=by
  unfold surdF mixedF
  generalize x.num.sign = s;generalize y.num.sign * d.num.sign = t;generalize cmpQ (x * x) (y * y * d) = c
  by_cases h1 : s = 0
  · rw [if_pos (.inl h1),if_pos h1,if_pos (.inl h1)]
  · by_cases h2 : s = t
    · rw [if_pos (.inr (.inr h2)),if_neg h1,if_pos (.inr h2),h2]
    · by_cases h3 : t = 0
      · rw [if_pos (.inr (.inl h3)),if_neg h1,if_neg (by omega),if_pos h3]
      · rw [if_neg (by omega),if_neg (by omega),if_neg h3]
theorem surd_sg {x y d : Rat} (hd : 0 ≤ d) : surdF x y d = sgR (RR.of x + RR.of y * rt d):=by rw [surd_mixed];exact mixed_sg hd
theorem surds_sg {x y d z e : Rat} (hd : 0 ≤ d) (he : 0 ≤ e) : surdsF x y d z e = sgR (RR.of x + RR.of y * rt d + RR.of z * rt e):=by
  unfold surdsF
  rw [surd_sg hd,surd_sg hd,sgR_add (u:=RR.of x + RR.of y * rt d)]
  rw [sgR_mul (RR.of z),sgR_of z,sgR_rt he]
  have hq : (RR.of x + RR.of y * rt d) * (RR.of x + RR.of y * rt d) - RR.of z * rt e * (RR.of z * rt e) = RR.of (x * x + y * y * d - z * z * e) + RR.of (2 * (x * y)) * rt d:=by
    have e1 : RR.of (x * x + y * y * d - z * z * e) = RR.of x * RR.of x + RR.of y * RR.of y * (rt d * rt d) - RR.of z * RR.of z * (rt e * rt e):=by
      rw [rt_sq hd,rt_sq he,RR.of_sub,RR.of_add,RR.of_mul,RR.of_mul,RR.of_mul,RR.of_mul,RR.of_mul]
    rw [e1,RR.of_mul,RR.of_mul]
    generalize RR.of x = a;generalize RR.of y = b;generalize rt d = c;generalize RR.of z = f;generalize rt e = g
    obtain ⟨a,ha,rfl⟩:=RR.rep a;obtain ⟨b,hb,rfl⟩:=RR.rep b;obtain ⟨c,hc,rfl⟩:=RR.rep c;obtain ⟨f,hf,rfl⟩:=RR.rep f;obtain ⟨g,hg,rfl⟩:=RR.rep g
    exact RR.ext fun n=>by grind
  rw [hq]
  generalize sgR (RR.of x + RR.of y * rt d) = s;generalize z.num.sign * e.num.sign = t;generalize sgR (RR.of (x * x + y * y * d - z * z * e) + RR.of (2 * (x * y)) * rt d) = c
  by_cases h1 : s = 0
  · rw [if_pos (.inl h1),if_pos h1,if_pos (.inl h1)]
  · by_cases h2 : s = t
    · rw [if_pos (.inr (.inr h2)),if_neg h1,if_pos (.inr h2),h2]
    · by_cases h3 : t = 0
      · rw [if_pos (.inr (.inl h3)),if_neg h1,if_neg (by omega),if_pos h3]
      · rw [if_neg (by omega),if_neg (by omega),if_neg h3]
theorem sums_four {p q r s : Rat} (hp : 0 ≤ p) (hq : 0 ≤ q) (hr : 0 ≤ r) (hs : 0 ≤ s) : sumsF p q r s = sgR ((rt p + rt q) - (rt r + rt s)):=by
  unfold sumsF
  rw [← roots_four hp hq hr hs,roots_sg (Rat.mul_nonneg hp hq) (Rat.mul_nonneg hr hs),surds_sg (Rat.mul_nonneg hp hq) (Rat.mul_nonneg hr hs)]
  congr 1
  rw [show RR.of (-2) = -RR.of 2 from rfl,RR.neg_mul,RR.sub_def]
theorem surd_bd (x y d : Rat) : -1 ≤ surdF x y d ∧ surdF x y d ≤ 1:=by
  have h0:=sgn_cases x.num;have h1:=sgn_cases y.num;have h2:=sgn_cases d.num
  have h3:=cmpQ_cases (x * x) (y * y * d)
  unfold surdF
  rcases h0 with ⟨_,e0⟩ | ⟨_,e0⟩ | ⟨_,e0⟩ <;> rcases h1 with ⟨_,e1⟩ | ⟨_,e1⟩ | ⟨_,e1⟩ <;> rcases h2 with ⟨_,e2⟩ | ⟨_,e2⟩ | ⟨_,e2⟩ <;> rcases h3 with e3 | e3 | e3 <;> rw [e0,e1,e2,e3] <;> decide
theorem surd_mul_bd (x y d x' y' d' : Rat) : -9223372036854775808 ≤ surdF x y d * surdF x' y' d' ∧ surdF x y d * surdF x' y' d' ≤ 9223372036854775807:=by
  have h1:=surd_bd x y d;have h2:=surd_bd x' y' d'
  generalize surdF x y d = u at *;generalize surdF x' y' d' = v at *
  have : (u = -1 ∨ u = 0 ∨ u = 1):=by omega
  rcases this with h | h | h <;> subst h <;> omega
theorem val_default : (default : FR).val = 0:=by
  show qval false [] [] = 0;simp [qval]
end Go.Proofs.YtdeihehaheelmaaGreat
namespace Go.Proofs.YtdeihehaheelmaaGreat
open Go.RowKit (Below)
theorem quad_toFX {a b c d : FR} {v : Value} {G : Gh} (h : (PTS [(some 3,RX a),(some 3,RX b),(some 3,RX c),(some 3,RX d)]).t v G) (hs : shortF [a,b,c,d] = true) : (PTS [(some 3,FX 64 a),(some 3,FX 64 b),(some 3,FX 64 c),(some 3,FX 64 d)]).t v G:=by
  unfold shortF at hs;simp at hs
  obtain ⟨us,e,hl,hE⟩:=h
  refine ⟨us,e,hl,fun i f u hf hu=>?_⟩
  match i,hf with
  | 0,hf=>cases hf;have:=hE 0 _ u rfl hu;exact ⟨this.1,RX.toFX this.2 hs.1⟩
  | 1,hf=>cases hf;have:=hE 1 _ u rfl hu;exact ⟨this.1,RX.toFX this.2 hs.2.1⟩
  | 2,hf=>cases hf;have:=hE 2 _ u rfl hu;exact ⟨this.1,RX.toFX this.2 hs.2.2.1⟩
  | 3,hf=>cases hf;have:=hE 3 _ u rfl hu;exact ⟨this.1,RX.toFX this.2 hs.2.2.2⟩
theorem posR_val {r : FR} (h : posR r = true) : 0 < r.val:=by unfold posR at h;simp at h;exact h.2
theorem vals_pos {l : List FR} (h : l.all posR = true) (j : Nat) : 0 ≤ (l.getD j default).val:=by
  rw [List.getD_eq_getElem?_getD]
  cases hj : l[j]? with
  | none=>show 0 ≤ (default : FR).val;rw [val_default];exact Rat.le_refl
  | some z=>have:=posR_val (List.all_eq_true.1 h z (List.mem_of_getElem? hj));show 0 ≤ z.val;grind
theorem lk_nn {l : List FR} (h : l.all posR = true) (j : Nat) : 0 ≤ lk l j:=vals_pos h _
theorem chk_pos {l : List FR} (h : chkF l = 0) : l.all posR = true:=by
  unfold chkF at h
  cases hp : l.all posR with
  | true=>rfl
  | false=>rw [hp,if_neg (by decide)] at h;exact absurd h (by decide)
end Go.Proofs.YtdeihehaheelmaaGreat
namespace Go.Proofs.YtdeihehaheelmaaGreat
open Go.RowKit (Below)
def befR (xs : List Rat) (p q : Nat) : Prop:=if p < q then xs.getD p default ≤ xs.getD q default else xs.getD p default < xs.getD q default
theorem cmpQ_lt0 {x y : Rat} : cmpQ x y < 0 ↔ x < y:=by unfold cmpQ;split <;> (try split) <;> simp_all
section
variable {xs : List Rat} {p q i j k m : Nat}
theorem bef_t (hpq : q < p) (h : cmpQ (xs.getD p default) (xs.getD q default) < 0) : befR xs p q:=by unfold befR;rw [if_neg (by omega)];exact cmpQ_lt0.1 h
theorem bef_f (hpq : q < p) (h : ¬ cmpQ (xs.getD p default) (xs.getD q default) < 0) : befR xs q p:=by unfold befR;rw [if_pos hpq];rw [cmpQ_lt0] at h;exact Rat.not_lt.1 h
theorem ins1 : insF xs 1 [i,j,k,m] = if cmpQ (xs.getD j default) (xs.getD i default) < 0 then [j,i,k,m] else [i,j,k,m]:=rfl
theorem ins2 : insF xs 2 [i,j,k,m] = if cmpQ (xs.getD k default) (xs.getD j default) < 0 then insF xs 1 [i,k,j,m] else [i,j,k,m]:=rfl
theorem ins3 : insF xs 3 [i,j,k,m] = if cmpQ (xs.getD m default) (xs.getD k default) < 0 then insF xs 2 [i,j,m,k] else [i,j,k,m]:=rfl
theorem ins1_spec (hj : i < j) : (insF xs 1 [i,j,k,m] = [j,i,k,m] ∧ befR xs j i) ∨ (insF xs 1 [i,j,k,m] = [i,j,k,m] ∧ befR xs i j):=by
  rw [ins1];split
  · exact .inl ⟨rfl,bef_t hj ‹_›⟩
  · exact .inr ⟨rfl,bef_f hj ‹_›⟩
theorem ins2_spec (hi : i < k) (hj : j < k) (h : befR xs i j) : (insF xs 2 [i,j,k,m] = [k,i,j,m] ∧ befR xs k i ∧ befR xs i j) ∨ (insF xs 2 [i,j,k,m] = [i,k,j,m] ∧ befR xs i k ∧ befR xs k j) ∨ (insF xs 2 [i,j,k,m] = [i,j,k,m] ∧ befR xs i j ∧ befR xs j k):=by
  rw [ins2];split
  · rename_i h1
    rcases ins1_spec (xs:=xs) (k:=j) (m:=m) hi with ⟨e,b⟩ | ⟨e,b⟩
    · exact .inl ⟨e,b,h⟩
    · exact .inr (.inl ⟨e,b,bef_t hj h1⟩)
  · exact .inr (.inr ⟨rfl,h,bef_f hj ‹_›⟩)
theorem ins3_spec (hi : i < m) (hj : j < m) (hk : k < m) (h1 : befR xs i j) (h2 : befR xs j k) : (insF xs 3 [i, j, k, m] = [m, i, j, k] ∧ befR xs m i ∧ befR xs i j ∧ befR xs j k) ∨ (insF xs 3 [i, j, k, m] = [i, m, j, k] ∧ befR xs i m ∧ befR xs m j ∧ befR xs j k) ∨
    (insF xs 3 [i,j,k,m] = [i,j,m,k] ∧ befR xs i j ∧ befR xs j m ∧ befR xs m k) ∨ (insF xs 3 [i,j,k,m] = [i,j,k,m] ∧ befR xs i j ∧ befR xs j k ∧ befR xs k m):=by
  rw [ins3];split
  · rename_i h
    rcases ins2_spec (xs:=xs) (m:=k) hi hj h1 with ⟨e,b1,b2⟩ | ⟨e,b1,b2⟩ | ⟨e,b1,b2⟩
    · exact .inl ⟨e,b1,b2,h2⟩
    · exact .inr (.inl ⟨e,b1,b2,h2⟩)
    · exact .inr (.inr (.inl ⟨e,b1,b2,bef_t hk h⟩))
  · exact .inr (.inr (.inr ⟨rfl,h1,h2,bef_f hk ‹_›⟩))
end
def ordO (xs : List Rat) (o : List Nat) : Prop:=∃ i j k m,o = [i,j,k,m] ∧ [i,j,k,m].Perm [0,1,2,3] ∧ befR xs i j ∧ befR xs j k ∧ befR xs k m
theorem order_ok (xs : List Rat) : ordO xs (orderF xs):=by
  have e : orderF xs = insF xs 3 (insF xs 2 (insF xs 1 [0,1,2,3])):=rfl
  rw [e]
  rcases ins1_spec (xs:=xs) (i:=0) (j:=1) (k:=2) (m:=3) (by decide) with ⟨e1,b1⟩ | ⟨e1,b1⟩ <;> rw [e1]
  · rcases ins2_spec (xs:=xs) (i:=1) (j:=0) (k:=2) (m:=3) (by decide) (by decide) b1 with ⟨e2,c1,c2⟩ | ⟨e2,c1,c2⟩ | ⟨e2,c1,c2⟩ <;> rw [e2]
    all_goals rcases ins3_spec (xs:=xs) (m:=3) (by decide) (by decide) (by decide) c1 c2 with ⟨e3,d1,d2,d3⟩ | ⟨e3,d1,d2,d3⟩ | ⟨e3,d1,d2,d3⟩ | ⟨e3,d1,d2,d3⟩ <;> exact ⟨_,_,_,_,e3,by decide,d1,d2,d3⟩
  · rcases ins2_spec (xs:=xs) (i:=0) (j:=1) (k:=2) (m:=3) (by decide) (by decide) b1 with ⟨e2,c1,c2⟩ | ⟨e2,c1,c2⟩ | ⟨e2,c1,c2⟩ <;> rw [e2]
    all_goals rcases ins3_spec (xs:=xs) (m:=3) (by decide) (by decide) (by decide) c1 c2 with ⟨e3,d1,d2,d3⟩ | ⟨e3,d1,d2,d3⟩ | ⟨e3,d1,d2,d3⟩ | ⟨e3,d1,d2,d3⟩ <;> exact ⟨_,_,_,_,e3,by decide,d1,d2,d3⟩
theorem bef_le {xs : List Rat} {p q : Nat} (h : befR xs p q) : xs.getD p default ≤ xs.getD q default:=by
  unfold befR at h;split at h
  · exact h
  · grind
theorem bef_trans {xs : List Rat} {p q r : Nat} (h : befR xs p q) (k : befR xs q r) : befR xs p r:=by
  unfold befR at *
  split at h <;> split at k <;> split <;> first | grind | omega
theorem bef_asymm {xs : List Rat} {p q : Nat} (h : befR xs p q) (k : befR xs q p) : False:=by
  unfold befR at *
  split at h <;> split at k <;> first | grind | omega
theorem ordO_uniq {xs : List Rat} {o o' : List Nat} (h : ordO xs o) (h' : ordO xs o') : o = o':=by
  obtain ⟨i,j,k,m,rfl,hp,b1,b2,b3⟩:=h
  obtain ⟨i',j',k',m',rfl,hp',c1,c2,c3⟩:=h'
  have hperm:=hp.trans hp'.symm
  have hs : ∀ {i j k m : Nat},befR xs i j → befR xs j k → befR xs k m → [i,j,k,m].Pairwise (befR xs):=fun b1 b2 b3=>by
    simp only [List.pairwise_cons,List.mem_cons,List.not_mem_nil,or_false,forall_eq_or_imp,forall_eq,List.Pairwise.nil,and_true]
    exact ⟨⟨b1,bef_trans b1 b2,bef_trans (bef_trans b1 b2) b3⟩,⟨b2,bef_trans b2 b3⟩,b3,by simp⟩
  exact hperm.eq_of_pairwise (le:=befR xs) (fun a b _ _ h k=>(bef_asymm h k).elim) (hs b1 b2 b3) (hs c1 c2 c3)
end Go.Proofs.YtdeihehaheelmaaGreat
namespace Go.Proofs.YtdeihehaheelmaaGreat
open Go.RowKit (Below)
theorem sgR_le {x y : RR} : sgR (x - y) ≤ 0 ↔ x ≤ y:=by
  rcases sgR_cases (x - y) with ⟨h,e⟩ | ⟨h,e⟩ | ⟨h,e⟩ <;> rw [e]
  · refine ⟨fun _=>RR.le_of_lt (RR.lt_iff_sub.2 ?_),fun _=>by decide⟩
    rw [← RR.neg_sub];exact RR.neg_pos.2 h
  · refine ⟨fun _=>?_,fun _=>by decide⟩
    rw [← RR.sub_add x y,h,RR.zero_add];exact RR.le_refl _
  · refine ⟨fun h2=>absurd h2 (by decide),fun h2=>?_⟩
    have h3 : y < x:=RR.lt_iff_sub.2 h
    exact absurd h2 h3
theorem sgR_ge {x y : RR} : sgR (x - y) ≥ 0 ↔ y ≤ x:=by
  rw [← RR.neg_sub,sgR_negate]
  have:=@sgR_le y x
  constructor
  · intro h;exact this.1 (by omega)
  · intro h;have:=this.2 h;omega
section
variable {a b c d s p q m : Rat}
theorem cmp4 (ha : 0 ≤ a) (hb : 0 ≤ b) (hc : 0 ≤ c) (hd : 0 ≤ d) : compareF [a,b] [c,d] = sgR ((rt a + rt b) - (rt c + rt d)):=roots_four ha hb hc hd
theorem min_comm : minQ a b = minQ b a:=by unfold minQ;split <;> split <;> grind
theorem max_le (h : a ≤ b) : maxQ a b = b:=by unfold maxQ;split <;> grind
theorem min_le (h : a ≤ b) : minQ a b = a:=by unfold minQ;rw [if_pos h]
variable (h0 : 0 ≤ s) (h1 : s ≤ p) (h2 : p ≤ q) (h3 : q ≤ m)
include h0 h1 h2 h3
end
end Go.Proofs.YtdeihehaheelmaaGreat
namespace Go.Proofs.YtdeihehaheelmaaGreat
theorem sgR_nn {x : RR} : sgR x ≥ 0 ↔ 0 ≤ x:=by
  have:=@sgR_ge x 0
  rwa [RR.sub_zero] at this
theorem closes_iff {p q r s : Rat} (hp : 0 ≤ p) (hq : 0 ≤ q) (hr : 0 ≤ r) (hs : 0 ≤ s) (hsp : s ≤ p) : closesF p q r s = true ↔ rt p ≤ rt q + rt r + rt s:=by
  have hqr:=Rat.mul_nonneg hq hr
  have hps:=Rat.mul_nonneg hp hs
  have hv : 0 ≤ rt p - rt s:=RR.le_iff_sub.1 (rt_le hs hsp)
  have e1 : sgR (rt q + rt r + rt s - rt p) = sgR (RR.of (q + r - (p + s)) + RR.of 2 * rt (q * r) + RR.of 2 * rt (p * s)):=by
    have e0 : rt q + rt r + rt s - rt p = (rt q + rt r) - (rt p - rt s):=by
      generalize rt p = a;generalize rt q = b;generalize rt r = c;generalize rt s = d
      obtain ⟨f,hf,rfl⟩:=RR.rep a;obtain ⟨g,hg,rfl⟩:=RR.rep b;obtain ⟨k,hk,rfl⟩:=RR.rep c;obtain ⟨l,hl,rfl⟩:=RR.rep d
      exact RR.ext fun n=>by grind
    rw [e0,sgR_sq (RR.add_nn (rt_nn q) (rt_nn r)) hv,rt_mul hq hr,rt_mul hp hs]
    congr 1
    rw [RR.of_sub,RR.of_add,RR.of_add,← rt_sq hp,← rt_sq hq,← rt_sq hr,← rt_sq hs]
    generalize rt p = a;generalize rt q = b;generalize rt r = c;generalize rt s = d
    obtain ⟨f,hf,rfl⟩:=RR.rep a;obtain ⟨g,hg,rfl⟩:=RR.rep b;obtain ⟨k,hk,rfl⟩:=RR.rep c;obtain ⟨l,hl,rfl⟩:=RR.rep d
    exact RR.ext fun n=>by grind
  rw [← sgR_ge,e1]
  have m1:=mixed_sg (x:=q + r - (p + s)) (y:=2) hqr
  have m2:=mixed_sg (x:=(q + r - (p + s)) * (q + r - (p + s)) + 4 * (q * r) - 4 * (p * s)) (y:=4 * (q + r - (p + s))) hqr
  have ht : 0 ≤ RR.of 2 * rt (p * s):=RR.mul_nn (RR.of_le (p:=0) |>.2 (by decide)) (rt_nn _)
  unfold closesF
  by_cases h : mixedF (q + r - (p + s)) 2 (q * r) ≥ 0
  · rw [if_pos h]
    rw [m1] at h
    exact ⟨fun _=>sgR_nn.2 (RR.add_nn (sgR_nn.1 h) ht),fun _=>rfl⟩
  · rw [if_neg h,decide_eq_true_iff,m2]
    rw [m1,sgR_nn] at h
    have hw : 0 ≤ -(RR.of (q + r - (p + s)) + RR.of 2 * rt (q * r)):=RR.neg_nn.2 (RR.le_of_lt h)
    have e2 : sgR (RR.of (q + r - (p + s)) + RR.of 2 * rt (q * r) + RR.of 2 * rt (p * s)) = -sgR (RR.of ((q + r - (p + s)) * (q + r - (p + s)) + 4 * (q * r) - 4 * (p * s)) + RR.of (4 * (q + r - (p + s))) * rt (q * r)):=by
      have e3 : RR.of (q + r - (p + s)) + RR.of 2 * rt (q * r) + RR.of 2 * rt (p * s) = -(-(RR.of (q + r - (p + s)) + RR.of 2 * rt (q * r)) - RR.of 2 * rt (p * s)):=by
        generalize RR.of 2 * rt (p * s) = a;generalize RR.of (q + r - (p + s)) + RR.of 2 * rt (q * r) = b
        obtain ⟨f,hf,rfl⟩:=RR.rep a;obtain ⟨g,hg,rfl⟩:=RR.rep b
        exact RR.ext fun n=>by grind
      rw [e3,sgR_negate,sgR_sq hw ht]
      congr 2
      generalize q + r - (p + s) = X
      rw [RR.of_sub,RR.of_add,RR.of_mul,RR.of_mul 4,RR.of_mul 4,RR.of_mul 4,← rt_sq hqr,← rt_sq hps]
      generalize RR.of X = a;generalize rt (q * r) = b;generalize rt (p * s) = c
      obtain ⟨f,hf,rfl⟩:=RR.rep a;obtain ⟨g,hg,rfl⟩:=RR.rep b;obtain ⟨k,hk,rfl⟩:=RR.rep c
      exact RR.ext fun n=>by grind
    rw [e2];omega
end Go.Proofs.YtdeihehaheelmaaGreat
namespace Go.Proofs.YtdeihehaheelmaaGreat
def sw1 (xs : List Rat) (o : List Nat) (i : Nat) : List Nat:=if cmpQ (xs.getD (o.getD i default) default) (xs.getD (o.getD (i + 1) default) default) > 0 then (o.set i (o.getD (i + 1) default)).set (i + 1) (o.getD i default) else o
def bubP (xs : List Rat) (o : List Nat) : Nat → List Nat
  | 0=>o
  | k + 1=>sw1 xs (bubP xs o k) k
def bub (xs : List Rat) : Nat → List Nat
  | 0=>[0,1,2,3]
  | n + 1=>bubP xs (bub xs n) 3
theorem cmpQ_gt0 {x y : Rat} : cmpQ x y > 0 ↔ y < x:=by unfold cmpQ;split <;> (try split) <;> simp_all <;> grind
section
variable {xs : List Rat} {a b c d : Nat}
def st2 (xs : List Rat) (p q : Nat) : Prop:=xs.getD p default = xs.getD q default → p < q
def stb (xs : List Rat) (a b c d : Nat) : Prop:=st2 xs a b ∧ st2 xs a c ∧ st2 xs a d ∧ st2 xs b c ∧ st2 xs b d ∧ st2 xs c d
theorem bef_keep (h : st2 xs a b) (k : ¬ cmpQ (xs.getD a default) (xs.getD b default) > 0) : befR xs a b:=by
  rw [cmpQ_gt0] at k;unfold st2 at h;unfold befR;split
  · grind
  · rename_i n;rcases Rat.le_iff_lt_or_eq.1 (Rat.not_lt.1 k) with e | e
    · exact e
    · exact absurd (h e) n
theorem bef_swap (k : cmpQ (xs.getD a default) (xs.getD b default) > 0) : befR xs b a ∧ st2 xs b a:=by
  rw [cmpQ_gt0] at k
  refine ⟨?_,fun e=>by grind⟩
  unfold befR;split
  · grind
  · exact k
theorem sw_0 (h : stb xs a b c d) : (sw1 xs [a,b,c,d] 0 = [a,b,c,d] ∧ befR xs a b) ∨ (sw1 xs [a,b,c,d] 0 = [b,a,c,d] ∧ befR xs b a ∧ [b,a,c,d].Perm [a,b,c,d] ∧ stb xs b a c d):=by
  obtain ⟨h1,h2,h3,h4,h5,h6⟩:=h
  show ((if cmpQ (xs.getD a default) (xs.getD b default) > 0 then [b,a,c,d] else [a,b,c,d]) = _ ∧ _) ∨ ((if cmpQ (xs.getD a default) (xs.getD b default) > 0 then [b,a,c,d] else [a,b,c,d]) = _ ∧ _)
  by_cases k : cmpQ (xs.getD a default) (xs.getD b default) > 0
  · rw [if_pos k];exact .inr ⟨rfl,(bef_swap k).1,.swap ..,(bef_swap k).2,h4,h5,h2,h3,h6⟩
  · rw [if_neg k];exact .inl ⟨rfl,bef_keep h1 k⟩
theorem sw_1 (h : stb xs a b c d) : (sw1 xs [a,b,c,d] 1 = [a,b,c,d] ∧ befR xs b c) ∨ (sw1 xs [a,b,c,d] 1 = [a,c,b,d] ∧ befR xs c b ∧ [a,c,b,d].Perm [a,b,c,d] ∧ stb xs a c b d):=by
  obtain ⟨h1,h2,h3,h4,h5,h6⟩:=h
  show ((if cmpQ (xs.getD b default) (xs.getD c default) > 0 then [a,c,b,d] else [a,b,c,d]) = _ ∧ _) ∨ ((if cmpQ (xs.getD b default) (xs.getD c default) > 0 then [a,c,b,d] else [a,b,c,d]) = _ ∧ _)
  by_cases k : cmpQ (xs.getD b default) (xs.getD c default) > 0
  · rw [if_pos k];exact .inr ⟨rfl,(bef_swap k).1,.cons _ (.swap ..),h2,h1,h3,(bef_swap k).2,h6,h5⟩
  · rw [if_neg k];exact .inl ⟨rfl,bef_keep h4 k⟩
theorem sw_2 (h : stb xs a b c d) : (sw1 xs [a,b,c,d] 2 = [a,b,c,d] ∧ befR xs c d) ∨ (sw1 xs [a,b,c,d] 2 = [a,b,d,c] ∧ befR xs d c ∧ [a,b,d,c].Perm [a,b,c,d] ∧ stb xs a b d c):=by
  obtain ⟨h1,h2,h3,h4,h5,h6⟩:=h
  show ((if cmpQ (xs.getD c default) (xs.getD d default) > 0 then [a,b,d,c] else [a,b,c,d]) = _ ∧ _) ∨ ((if cmpQ (xs.getD c default) (xs.getD d default) > 0 then [a,b,d,c] else [a,b,c,d]) = _ ∧ _)
  by_cases k : cmpQ (xs.getD c default) (xs.getD d default) > 0
  · rw [if_pos k];exact .inr ⟨rfl,(bef_swap k).1,.cons _ (.cons _ (.swap ..)),h1,h3,h2,h5,h4,(bef_swap k).2⟩
  · rw [if_neg k];exact .inl ⟨rfl,bef_keep h6 k⟩
def top1 (xs : List Rat) (a b c d : Nat) : Prop:=befR xs a d ∧ befR xs b d ∧ befR xs c d
def top2 (xs : List Rat) (a b c d : Nat) : Prop:=top1 xs a b c d ∧ befR xs a c ∧ befR xs b c
def top3 (xs : List Rat) (a b c d : Nat) : Prop:=top2 xs a b c d ∧ befR xs a b
theorem pass_ok (h : stb xs a b c d) : ∃ a' b' c' d',bubP xs [a,b,c,d] 3 = [a',b',c',d'] ∧ [a',b',c',d'].Perm [a,b,c,d] ∧ stb xs a' b' c' d' ∧ top1 xs a' b' c' d' ∧ (top1 xs a b c d → top2 xs a' b' c' d') ∧ (top2 xs a b c d → top3 xs a' b' c' d'):=by
  have e : bubP xs [a,b,c,d] 3 = sw1 xs (sw1 xs (sw1 xs [a,b,c,d] 0) 1) 2:=rfl
  rw [e]
  have T:=@bef_trans xs
  have A:=@bef_asymm xs
  have p1:=List.Perm.refl [a,b,c,d]
  rcases sw_0 h with ⟨e1,b1⟩ | ⟨e1,b1,p,h⟩ <;> rw [e1]
  all_goals try replace p1:=p.trans p1
  all_goals rcases sw_1 h with ⟨e2,b2⟩ | ⟨e2,b2,p,h⟩ <;> rw [e2]
  all_goals try replace p1:=p.trans p1
  all_goals rcases sw_2 h with ⟨e3,b3⟩ | ⟨e3,b3,p,h⟩ <;> rw [e3]
  all_goals try replace p1:=p.trans p1
  all_goals refine ⟨_,_,_,_,rfl,p1,h,?_⟩
  all_goals unfold top3 top2 top1;clear p1 h e e1 e2 e3
  all_goals grind
end
theorem bub_ok (xs : List Rat) : bub xs 4 = orderF xs:=by
  obtain ⟨a,b,c,d,e1,p1,h1,t1,_⟩:=pass_ok (xs:=xs) (a:=0) (b:=1) (c:=2) (d:=3) ⟨fun _=>by decide,fun _=>by decide,fun _=>by decide,fun _=>by decide,fun _=>by decide,fun _=>by decide⟩
  obtain ⟨a2,b2,c2,d2,e2,p2,h2,_,t2,_⟩:=pass_ok h1
  obtain ⟨a3,b3,c3,d3,e3,p3,h3,_,_,t3⟩:=pass_ok h2
  obtain ⟨a4,b4,c4,d4,e4,p4,_,_,_,t4⟩:=pass_ok h3
  have ht:=t4 (t3 (t2 t1)).1
  have e : bub xs 4 = [a4,b4,c4,d4]:=by
    show bubP xs (bubP xs (bubP xs (bubP xs [0,1,2,3] 3) 3) 3) 3 = _
    rw [e1,e2,e3,e4]
  exact ordO_uniq ⟨a4,b4,c4,d4,e,p4.trans (p3.trans (p2.trans p1)),ht.2,ht.1.2.2,ht.1.1.2.2⟩ (order_ok xs)
theorem sw1_len {xs : List Rat} {o : List Nat} {i : Nat} : (sw1 xs o i).length = o.length:=by unfold sw1;split <;> simp
theorem sw1_lt {xs : List Rat} {o : List Nat} {i : Nat} (h : ∀ x ∈ o,x < 4) (ho : o.length = 4) (hi : i < 3) : ∀ x ∈ sw1 xs o i,x < 4:=by
  unfold sw1;split
  · intro x hx
    rcases List.mem_or_eq_of_mem_set hx with e | e
    · rcases List.mem_or_eq_of_mem_set e with e | e
      · exact h x e
      · rw [e];exact getD_lt h (by omega)
    · rw [e];exact getD_lt h (by omega)
  · exact h
end Go.Proofs.YtdeihehaheelmaaGreat
namespace Go.Proofs.YtdeihehaheelmaaGreat
set_option maxHeartbeats 1000000
set_option maxRecDepth 100000
open Go.RowKit (Below)
private theorem ap_49 : ∀ {u0 : Value} {u1 : Value} {u2 : Value} {u3 : Value} (h0 : Shaped (some 3) u0) (h1 : Shaped (some 3) u1) (h2 : Shaped (some 3) u2) (h3 : Shaped (some 3) u3),Tryz.prog.built 49 [(0,u0),(1,u1),(2,u2),(3,u3)] = some (flat [u0,u1,u2,u3]).toArray:=by
 intro u0 u1 u2 u3 h0 h1 h2 h3
 obtain ⟨c0_0,c0_1,c0_2,rfl⟩:=agg3 h0
 obtain ⟨c1_0,c1_1,c1_2,rfl⟩:=agg3 h1
 obtain ⟨c2_0,c2_1,c2_2,rfl⟩:=agg3 h2
 obtain ⟨c3_0,c3_1,c3_2,rfl⟩:=agg3 h3
 kernel_rfl
private theorem c_23 : callable Tryz.prog 23 = true:=by kernel_rfl
private theorem c_24 : callable Tryz.prog 24 = true:=by kernel_rfl
private theorem tS_49 : tyS Tryz.prog 49 (some 12) = true:=by kernel_rfl
private theorem z_49 : (Tryz.prog.info? 49).bind (·.zero) = some (.agg #[.bool false,.slice none 0 0,.slice none 0 0,.bool false,.slice none 0 0,.slice none 0 0,.bool false,.slice none 0 0,.slice none 0 0,.bool false,.slice none 0 0,.slice none 0 0]):=by kernel_rfl
private theorem zs_49 : Shaped (some 12) (.agg #[.bool false,.slice none 0 0,.slice none 0 0,.bool false,.slice none 0 0,.slice none 0 0,.bool false,.slice none 0 0,.slice none 0 0,.bool false,.slice none 0 0,.slice none 0 0]):=⟨_,rfl,rfl,by simp [Value.oneCell']⟩
theorem rSquaresX_ok {rg ra rb rc : FR} {v1 : Value} {W0 : World} {G0 : Gh} (hok : Gok W0 G0) (h1 : (PTS [(some 3,RX rg),(some 3,RX ra),(some 3,RX rb),(some 3,RX rc)]).t v1 G0)  : Calls Tryz.prog 23 #[v1] W0 (Ret W0 G0 (ARN (some 3) (([rg,ra,rb,rc]).map (RX)))):=by
 refine St.enter (N:=12) (L:=[(0,PTS [(some 3,RX rg),(some 3,RX ra),(some 3,RX rb),(some 3,RX rc)])]) (args:=[v1]) Tryz.func23 rfl rfl rfl hok (enter1 h1) fun a S=>?_
 refine wp_reg fun K hK=>?_
 refine S.boxop (x:=.tmp 0) (τ:=PTS [(some 3,RX rg),(some 3,RX ra),(some 3,RX rb),(some 3,RX rc)]) (S.g 0 rfl) (sh (τ:=PTS [(some 3,RX rg),(some 3,RX ra),(some 3,RX rb),(some 3,RX rc)]) (S.g 0 rfl)) rfl rfl rfl rfl rfl fun b1 a w G S=>?_
 refine S.alloc rfl rfl rfl z_49 zs_49 rfl rfl fun b2 a w G S=>?_
 refine wn hK ?_;clear hK K
 replace S:=S.d2
 refine wp_reg fun K hK=>?_
 refine S.s (τ:=PB b1) (OpR.fldA S.ok rfl (S.e 1 rfl) fo_26_0 rfl) rfl fun a w G S=>?_
 refine S.s (OpR.ldPart S.ok rfl (S.e 0 rfl) (S.box 1 rfl) tS_24 fun _ h hs=>part_load (PTS.part 0 rfl rfl h hs) rfl) rfl fun a w G S=>?_
 refine S.s (τ:=MT.ex (Value.pointer (some ⟨b1,3,none⟩))) (OpR.fldA S.ok rfl (S.e 3 rfl) fo_26_1 rfl) rfl fun a w G S=>?_
 refine S.s (OpR.ldPart S.ok rfl (S.e 0 rfl) (S.box 1 rfl) tS_24 fun _ h hs=>part_load (PTS.part 1 rfl rfl h hs) rfl) rfl fun a w G S=>?_
 refine S.s (τ:=MT.ex (Value.pointer (some ⟨b1,6,none⟩))) (OpR.fldA S.ok rfl (S.e 5 rfl) fo_26_2 rfl) rfl fun a w G S=>?_
 refine S.s (OpR.ldPart S.ok rfl (S.e 0 rfl) (S.box 1 rfl) tS_24 fun _ h hs=>part_load (PTS.part 2 rfl rfl h hs) rfl) rfl fun a w G S=>?_
 refine S.s (τ:=MT.ex (Value.pointer (some ⟨b1,9,none⟩))) (OpR.fldA S.ok rfl (S.e 7 rfl) fo_26_3 rfl) rfl fun a w G S=>?_
 refine S.s (OpR.ldPart S.ok rfl (S.e 0 rfl) (S.box 1 rfl) tS_24 fun _ h hs=>part_load (PTS.part 3 rfl rfl h hs) rfl) rfl fun a w G S=>?_
 refine S.s (τ:=ARN (some 3) (([rg,ra,rb,rc]).map (RX))) (OpR.conv' (OpR.bldP (us:=[a.eval (.tmp 4),a.eval (.tmp 6),a.eval (.tmp 8),a.eval (.tmp 10)]) (fs:=(List.map (RX) [rg,ra,rb,rc]).map fun τ=>(some 3,τ)) S.ok rfl (by simp only [List.map_toArray,List.map_cons,List.map_nil];exact ap_49 (u0:=a.eval (.tmp 4)) (u1:=a.eval (.tmp 6)) (u2:=a.eval (.tmp 8)) (u3:=a.eval (.tmp 10)) (sh (τ:=RX rg) (S.g 6 rfl)) (sh (τ:=RX ra) (S.g 4 rfl)) (sh (τ:=RX rb) (S.g 2 rfl)) (sh (τ:=RX rc) (S.g 0 rfl))) rfl (pts_cons (sh (τ:=RX rg) (S.g 6 rfl)) (S.g 6 rfl) (pts_cons (sh (τ:=RX ra) (S.g 4 rfl)) (S.g 4 rfl) (pts_cons (sh (τ:=RX rb) (S.g 2 rfl)) (S.g 2 rfl) (pts_cons (sh (τ:=RX rc) (S.g 0 rfl)) (S.g 0 rfl) pts_nil))))) fun _ _ h=>PTS.arn h) rfl fun a w G S=>?_
 refine S.store (τ:=ARN (some 3) (([rg,ra,rb,rc]).map (RX))) 0 rfl rfl rfl rfl (S.e 9 rfl) tS_49 (S.g 0 rfl) (sh (τ:=ARN (some 3) (([rg,ra,rb,rc]).map (RX))) (S.g 0 rfl)) fun w S=>?_
 replace S:=S.n0
 replace S:=(S.castBox (τ':=ROWS (some 3) (([rg,ra,rb,rc]).map (RX))) 0 rfl fun _ h _=>ARN.rows h).n0
 refine wn hK ?_;clear hK K
 replace S:=S.d10.d8.d7.d6.d5.d4.d3.d2.d1.d0
 replace S:=(S.castBox (τ':=ARN (some 3) (([rg,ra,rb,rc]).map (RX))) 0 rfl fun _ h hs=>ROWS.arn h hs (by first | rfl | (simp;done) | (simp;omega))).n0
 exact wp_ret (S.retCell (i:=0) rfl (S.e 0 rfl) rfl tS_49 (fun _ h=>h))
theorem rSquares_ok {n : Nat} {rg ra rb rc : FR} {v1 : Value} {W0 : World} {G0 : Gh} (hok : Gok W0 G0) (h1 : (PTS [(some 3,FX n rg),(some 3,FX n ra),(some 3,FX n rb),(some 3,FX n rc)]).t v1 G0)  : Calls Tryz.prog 23 #[v1] W0 (Ret W0 G0 (ARN (some 3) (([rg,ra,rb,rc]).map (FX n)))):=by
 refine St.enter (N:=12) (L:=[(0,PTS [(some 3,FX n rg),(some 3,FX n ra),(some 3,FX n rb),(some 3,FX n rc)])]) (args:=[v1]) Tryz.func23 rfl rfl rfl hok (enter1 h1) fun a S=>?_
 refine wp_reg fun K hK=>?_
 refine S.boxop (x:=.tmp 0) (τ:=PTS [(some 3,FX n rg),(some 3,FX n ra),(some 3,FX n rb),(some 3,FX n rc)]) (S.g 0 rfl) (sh (τ:=PTS [(some 3,FX n rg),(some 3,FX n ra),(some 3,FX n rb),(some 3,FX n rc)]) (S.g 0 rfl)) rfl rfl rfl rfl rfl fun b1 a w G S=>?_
 refine S.alloc rfl rfl rfl z_49 zs_49 rfl rfl fun b2 a w G S=>?_
 refine wn hK ?_;clear hK K
 replace S:=S.d2
 refine wp_reg fun K hK=>?_
 refine S.s (τ:=PB b1) (OpR.fldA S.ok rfl (S.e 1 rfl) fo_26_0 rfl) rfl fun a w G S=>?_
 refine S.s (OpR.ldPart S.ok rfl (S.e 0 rfl) (S.box 1 rfl) tS_24 fun _ h hs=>part_load (PTS.part 0 rfl rfl h hs) rfl) rfl fun a w G S=>?_
 refine S.s (τ:=MT.ex (Value.pointer (some ⟨b1,3,none⟩))) (OpR.fldA S.ok rfl (S.e 3 rfl) fo_26_1 rfl) rfl fun a w G S=>?_
 refine S.s (OpR.ldPart S.ok rfl (S.e 0 rfl) (S.box 1 rfl) tS_24 fun _ h hs=>part_load (PTS.part 1 rfl rfl h hs) rfl) rfl fun a w G S=>?_
 refine S.s (τ:=MT.ex (Value.pointer (some ⟨b1,6,none⟩))) (OpR.fldA S.ok rfl (S.e 5 rfl) fo_26_2 rfl) rfl fun a w G S=>?_
 refine S.s (OpR.ldPart S.ok rfl (S.e 0 rfl) (S.box 1 rfl) tS_24 fun _ h hs=>part_load (PTS.part 2 rfl rfl h hs) rfl) rfl fun a w G S=>?_
 refine S.s (τ:=MT.ex (Value.pointer (some ⟨b1,9,none⟩))) (OpR.fldA S.ok rfl (S.e 7 rfl) fo_26_3 rfl) rfl fun a w G S=>?_
 refine S.s (OpR.ldPart S.ok rfl (S.e 0 rfl) (S.box 1 rfl) tS_24 fun _ h hs=>part_load (PTS.part 3 rfl rfl h hs) rfl) rfl fun a w G S=>?_
 refine S.s (τ:=ARN (some 3) (([rg,ra,rb,rc]).map (FX n))) (OpR.conv' (OpR.bldP (us:=[a.eval (.tmp 4),a.eval (.tmp 6),a.eval (.tmp 8),a.eval (.tmp 10)]) (fs:=(List.map (FX n) [rg,ra,rb,rc]).map fun τ=>(some 3,τ)) S.ok rfl (by simp only [List.map_toArray,List.map_cons,List.map_nil];exact ap_49 (u0:=a.eval (.tmp 4)) (u1:=a.eval (.tmp 6)) (u2:=a.eval (.tmp 8)) (u3:=a.eval (.tmp 10)) (sh (τ:=FX n rg) (S.g 6 rfl)) (sh (τ:=FX n ra) (S.g 4 rfl)) (sh (τ:=FX n rb) (S.g 2 rfl)) (sh (τ:=FX n rc) (S.g 0 rfl))) rfl (pts_cons (sh (τ:=FX n rg) (S.g 6 rfl)) (S.g 6 rfl) (pts_cons (sh (τ:=FX n ra) (S.g 4 rfl)) (S.g 4 rfl) (pts_cons (sh (τ:=FX n rb) (S.g 2 rfl)) (S.g 2 rfl) (pts_cons (sh (τ:=FX n rc) (S.g 0 rfl)) (S.g 0 rfl) pts_nil))))) fun _ _ h=>PTS.arn h) rfl fun a w G S=>?_
 refine S.store (τ:=ARN (some 3) (([rg,ra,rb,rc]).map (FX n))) 0 rfl rfl rfl rfl (S.e 9 rfl) tS_49 (S.g 0 rfl) (sh (τ:=ARN (some 3) (([rg,ra,rb,rc]).map (FX n))) (S.g 0 rfl)) fun w S=>?_
 replace S:=S.n0
 replace S:=(S.castBox (τ':=ROWS (some 3) (([rg,ra,rb,rc]).map (FX n))) 0 rfl fun _ h _=>ARN.rows h).n0
 refine wn hK ?_;clear hK K
 replace S:=S.d10.d8.d7.d6.d5.d4.d3.d2.d1.d0
 replace S:=(S.castBox (τ':=ARN (some 3) (([rg,ra,rb,rc]).map (FX n))) 0 rfl fun _ h hs=>ROWS.arn h hs (by first | rfl | (simp;done) | (simp;omega))).n0
 exact wp_ret (S.retCell (i:=0) rfl (S.e 0 rfl) rfl tS_49 (fun _ h=>h))
theorem lshort_ok {rg ra rb rc : FR} {v1 : Value} {W0 : World} {G0 : Gh} (hok : Gok W0 G0) (h1 : (PTS [(some 3,RX rg),(some 3,RX ra),(some 3,RX rb),(some 3,RX rc)]).t v1 G0)  : Calls Tryz.prog 6 #[v1] W0 (Ret W0 G0 (BT (shortF [rg,ra,rb,rc]))):=by
 refine St.enter (N:=8) (L:=[(0,PTS [(some 3,RX rg),(some 3,RX ra),(some 3,RX rb),(some 3,RX rc)])]) (args:=[v1]) Tryz.func6 rfl rfl rfl hok (enter1 h1) fun a S=>?_
 refine wp_reg fun K hK=>?_
 refine S.boxop (x:=.tmp 0) (τ:=PTS [(some 3,RX rg),(some 3,RX ra),(some 3,RX rb),(some 3,RX rc)]) (S.g 0 rfl) (sh (τ:=PTS [(some 3,RX rg),(some 3,RX ra),(some 3,RX rb),(some 3,RX rc)]) (S.g 0 rfl)) rfl rfl rfl rfl rfl fun b1 a w G S=>?_
 refine S.s (τ:=BT false) (OpR.asn S.ok rfl rfl) rfl fun a w G S=>?_
 refine wn hK ?_;clear hK K
 replace S:=S.d2
 refine wp_reg fun K hK=>?_
 refine S.s (OpR.ldBox S.ok rfl (S.e 1 rfl) (S.box 0 rfl) tS_26) rfl fun a w G S=>?_
 refine S.s (τ:=ARN (some 3) (([rg,ra,rb,rc]).map (RX))) (OpR.call1 rfl c_23 (rSquaresX_ok S.ok (S.g 0 rfl))) rfl fun a w G S=>?_
 refine S.alloc rfl rfl rfl z_49 zs_49 rfl rfl fun b3 a w G S=>?_
 refine S.store (τ:=ARN (some 3) (([rg,ra,rb,rc]).map (RX))) 0 rfl rfl rfl rfl (S.e 0 rfl) tS_49 (S.g 1 rfl) (sh (τ:=ARN (some 3) (([rg,ra,rb,rc]).map (RX))) (S.g 1 rfl)) fun w S=>?_
 replace S:=S.n0
 replace S:=(S.castBox (τ':=ROWS (some 3) (([rg,ra,rb,rc]).map (RX))) 0 rfl fun _ h _=>ARN.rows h).n0
 refine wn hK ?_;clear hK K
 replace S:=S.d4.d2.d1
 refine wp_reg fun K hK=>?_
 refine S.s (τ:=MT.ex (Value.slice (some ⟨b3,0,none⟩) (4) (4))) (OpR.slAr S.ok rfl Tryz.underlying49 tS_24 (S.e 0 rfl) rfl rfl) rfl fun a w G S=>?_
 obtain ⟨vz1,Gz1,hz1,hs1,hg1,hle1,S⟩:=S.freeze 0 rfl
 have hsl1:=ROWS.slM hz1 hg1 rfl (Nat.le_refl _) (show 4 ≤ LIM by decide) (rfl : _ = Value.slice (some ⟨b3,0,none⟩) (4) (4))
 replace S:=S.also (t:=6) (τ:=LS (some 3) (([rg,ra,rb,rc]).map (RX))) ((S.e 0 rfl).symm ▸ hsl1)
 replace S : St W0 G0 8 [(6,LS (some 3) (([rg,ra,rb,rc]).map (RX))),(3,PB b3),(2,BT false)] [⟨b1,26,some 12,PTS [(some 3,RX rg),(some 3,RX ra),(some 3,RX rb),(some 3,RX rc)]⟩] a _ _:=S.keep [0,2,3]
 refine S.s (τ:=BT (shortF ([rg,ra,rb,rc]))) (OpR.call1 rfl c_24 (rShort_ok S.ok (LS.eqM (S.g 0 rfl) (by first | rfl | omega | (simp only [Nat.zero_add,Nat.add_zero];done) | (simp;done) | (push_cast;omega))))) rfl fun a w G S=>?_
 replace S:=S.d3
 refine S.q rfl (S.g 0 rfl) rfl fun a w G S=>?_
 refine wn hK ?_;clear hK K
 replace S:=S.d2.d1
 exact wp_ret (S.retTmp rfl ((S.e 0 rfl).trans (bv_eq (by first | rfl | omega | (simp only [Nat.zero_add,Nat.add_zero];done) | (simp;done) | (push_cast;omega)))))
end Go.Proofs.YtdeihehaheelmaaGreat
namespace Go.Proofs.YtdeihehaheelmaaGreat
open Go.RowKit (Below)
section
variable {P : Program} {W0 : World} {a : Act} {w : World} {G : Gh} {o : Oper}
theorem ARN.shN {k : Option Nat} {τs : List MT} {v : Value} {n : Nat} (h : (ARN k τs).t v G) (e : τs.length * k.getD 1 = n) : Shaped (some n) v:=e ▸ ARN.shaped h
theorem run_part {k : Option Nat} {t : TypeId} {us : List Value} {i : Nat} {u : Value} (hs : tyS P t k = true) (hE : ∀ v ∈ us,Shaped k v) (hi : us[i]? = some u) : (part t (flat us).toArray (i * k.getD 1)).run P w = .ok u w:=by
  have hsz : ∀ v ∈ us,v.cells.size = k.getD 1:=fun v hv=>shaped_size (hE v hv)
  have hu:=hE u (List.mem_of_getElem? hi)
  cases k with
  | none =>
    have h1:=flat_get (j:=0) hsz hi (by decide)
    have hc : u.cells = #[u]:=hu.1
    rw [hc] at h1
    have h2 : (flat us)[i]? = some u:=by simpa using h1
    simp [part,(tyS_none hs w).1,h2]
  | some n =>
    obtain ⟨cs,rfl,hn,_⟩:=hu
    have he : (flat us).toArray.extract (i * n) (i * n + n) = cs:=by
      have hil:=(List.getElem?_eq_some_iff.1 hi).1
      have hfl:=flat_len hsz
      have hle : (i + 1) * n ≤ us.length * n:=Nat.mul_le_mul_right n hil
      rw [Nat.add_mul,Nat.one_mul] at hle
      have hfl' : (flat us).length = us.length * n:=hfl
      apply Array.ext
      · simp;omega
      · intro j h1 h2
        have h3:=flat_get (j:=j) hsz hi (show j < n by omega)
        have h3' : (flat us)[i * n + j]? = cs[j]?:=h3
        rw [Array.getElem?_eq_getElem h2] at h3'
        have h4:=(List.getElem?_eq_some_iff.1 h3').2
        simpa using h4
    have he' : (List.take n (List.drop (i * n) (flat us))).toArray = cs:=by simpa using he
    simp [part,(tyS_some hs w).1,(tyS_some hs w).2,he']
theorem OpR.ixV {α : Type} [Inhabited α] {T : α → MT} {xs : List α} {kk : Option Nat} {x y : Operand} {t e : TypeId} {n i : Nat} {m : Int} {k : IntKind} (hok : Gok w G) (ho : o.op = .index t x y) (ht : P.underlying t = some (.array n e)) (hs : tyS P e kk = true)
    (hx : (ARN kk (xs.map T)).t (a.eval x) G) (hy : a.eval y = .int k m) (hm : m = (i : Int)) (hn : n = xs.length) (hi : i < n) : OpR P o a w G (T (xs.getD i default)):=by
  subst hm
  obtain ⟨us,hu,hE⟩:=hx
  have hl : us.length = n:=by rw [hE.1,List.length_map,hn]
  have hiu : i < us.length:=by omega
  have hE2:=hE.2 i (T (xs.getD i default)) us[i] (by rw [List.getElem?_map,List.getD_eq_getElem?_getD,List.getElem?_eq_getElem (by omega)];rfl) (List.getElem?_eq_getElem hiu)
  refine .run hok (v:=us[i]) ?_ hE2.2
  simp [execOp,ho,Instr.index,hu,hy,asIntOf,run_underlying ht,tyS_size hs,hi,run_part hs hE.shaped (List.getElem?_eq_getElem hiu)]
end
end Go.Proofs.YtdeihehaheelmaaGreat
namespace Go.Proofs.YtdeihehaheelmaaGreat
theorem vgetD (l : List FR) (j : Nat) : (l.map FR.val).getD j default = (l.getD j default).val:=by
  rw [List.getD_eq_getElem?_getD,List.getD_eq_getElem?_getD,List.getElem?_map]
  cases l[j]? <;> rfl
theorem lkD (l : List FR) (j : Nat) : lk l j = (l.map FR.val).getD ((orderF (l.map FR.val)).getD j default) default:=by rw [vgetD];rfl
theorem bub_t {xs : List Rat} {o : List Nat} {j : Nat} (h : cmpQ (xs.getD ((bubP xs o j).getD j default) default) (xs.getD ((bubP xs o j).getD (j + 1) default) default) > 0) : ((bubP xs o j).set j ((bubP xs o j).getD (j + 1) default)).set (j + 1) ((bubP xs o j).getD j default) = bubP xs o (j + 1):=(if_pos h).symm
theorem bub_f {xs : List Rat} {o : List Nat} {j : Nat} (h : ¬ cmpQ (xs.getD ((bubP xs o j).getD j default) default) (xs.getD ((bubP xs o j).getD (j + 1) default) default) > 0) : bubP xs o j = bubP xs o (j + 1):=(if_neg h).symm
theorem bubP_n {xs : List Rat} {j : Nat} (hj : ¬ j < 3) (hk : j ≤ 3) (p : Nat) : bubP xs (bub xs p) j = bub xs (p + 1):=by
  obtain rfl : j = 3:=by omega
  rfl
theorem bubP_len {xs : List Rat} {o : List Nat} (ho : o.length = 4) : ∀ j,(bubP xs o j).length = 4
  | 0=>ho
  | j + 1=>sw1_len.trans (bubP_len ho j)
theorem bubP_lt {xs : List Rat} {o : List Nat} (ho : o.length = 4) (h : ∀ x ∈ o,x < 4) : ∀ j,j ≤ 3 → ∀ x ∈ bubP xs o j,x < 4
  | 0,_=>h
  | j + 1,hj=>sw1_lt (bubP_lt ho h j (by omega)) (bubP_len ho j) (by omega)
theorem bub_len {xs : List Rat} : ∀ p,(bub xs p).length = 4
  | 0=>rfl
  | p + 1=>bubP_len (bub_len p) 3
theorem bub_lt {xs : List Rat} : ∀ p,∀ x ∈ bub xs p,x < 4
  | 0=>fun x hx=>by simp [bub] at hx;omega
  | p + 1=>bubP_lt (bub_len p) (bub_lt p) 3 (by omega)
theorem lk_le23 (l : List FR) : lk l 2 ≤ lk l 3:=by
  obtain ⟨i,j,k,m,e,hp,b1,b2,b3⟩:=order_ok (l.map FR.val)
  rw [lkD,lkD,e];exact bef_le b3
def rcloseF (l : List FR) : Int:=surdsF (lk l 3 + lk l 0 - (lk l 1 + lk l 2)) (-2) (lk l 3 * lk l 0) (-2) (lk l 1 * lk l 2)
theorem rclose_eq {l : List FR} (h : l.all posR = true) : rcloseF l > 0 ↔ ¬ closesF (lk l 3) (lk l 0) (lk l 1) (lk l 2) = true:=by
  have h0:=lk_nn h 0;have h1:=lk_nn h 1;have h2:=lk_nn h 2;have h3:=lk_nn h 3
  have h30 : lk l 0 ≤ lk l 3:=by
    obtain ⟨i,j,k,m,e,hp,b1,b2,b3⟩:=order_ok (l.map FR.val)
    rw [lkD,lkD,e];exact bef_le (bef_trans b1 (bef_trans b2 b3))
  rw [closes_iff h3 h0 h1 h2 (lk_le23 l)]
  unfold rcloseF
  rw [surds_sg (Rat.mul_nonneg h3 h0) (Rat.mul_nonneg h1 h2),rt_mul h3 h0,rt_mul h1 h2]
  have e : RR.of (lk l 3 + lk l 0 - (lk l 1 + lk l 2)) + RR.of (-2) * (rt (lk l 3) * rt (lk l 0)) + RR.of (-2) * (rt (lk l 1) * rt (lk l 2)) = (rt (lk l 3) - rt (lk l 0)) * (rt (lk l 3) - rt (lk l 0)) - (rt (lk l 1) + rt (lk l 2)) * (rt (lk l 1) + rt (lk l 2)):=by
    rw [RR.of_sub,RR.of_add,RR.of_add,← rt_sq h0,← rt_sq h1,← rt_sq h2,← rt_sq h3,show RR.of (-2) = -RR.of 2 from rfl]
    generalize rt (lk l 3) = a;generalize rt (lk l 0) = b;generalize rt (lk l 1) = c;generalize rt (lk l 2) = d
    obtain ⟨f,hf,rfl⟩:=RR.rep a;obtain ⟨g,hg,rfl⟩:=RR.rep b;obtain ⟨k,hk,rfl⟩:=RR.rep c;obtain ⟨m,hm,rfl⟩:=RR.rep d
    exact RR.ext fun n=>by grind
  rw [e,← sgR_sq (RR.le_iff_sub.1 (rt_le h0 h30)) (RR.add_nn (rt_nn _) (rt_nn _))]
  have e2 : rt (lk l 0) + rt (lk l 1) + rt (lk l 2) - rt (lk l 3) = -(rt (lk l 3) - rt (lk l 0) - (rt (lk l 1) + rt (lk l 2))):=by
    generalize rt (lk l 3) = a;generalize rt (lk l 0) = b;generalize rt (lk l 1) = c;generalize rt (lk l 2) = d
    obtain ⟨f,hf,rfl⟩:=RR.rep a;obtain ⟨g,hg,rfl⟩:=RR.rep b;obtain ⟨k,hk,rfl⟩:=RR.rep c;obtain ⟨m,hm,rfl⟩:=RR.rep d
    exact RR.ext fun n=>by grind
  rw [← sgR_ge,e2,sgR_negate];omega
theorem rchk16 {l : List FR} (h : l.all posR = true) (k : rcloseF l > 0) : (16 : Int) = chkF l:=(chk16 h (Bool.eq_false_iff.2 ((rclose_eq h).1 k))).symm
theorem rchk0 {l : List FR} (h : l.all posR = true) (k : ¬ rcloseF l > 0) : (0 : Int) = chkF l:=(chk0 h (Classical.not_not.1 fun n=>k ((rclose_eq h).2 n))).symm
end Go.Proofs.YtdeihehaheelmaaGreat
namespace Go.Proofs.YtdeihehaheelmaaGreat
open Go.RowKit (Below)
theorem md4_lt (k : Int) : md4 k < 4:=by
  have h : md4 k = (k % 4).toNat:=rfl
  omega
theorem tmod4 (k : Int) : k.tmod 4 = k % 4 ∨ (k.tmod 4 = k % 4 - 4 ∧ k % 4 ≠ 0):=by
  rw [Int.tmod_eq_emod]
  split
  · left;omega
  · rename_i h
    right
    have h2 : ¬ (4 : Int) ∣ k:=fun h3=>h (.inr h3)
    refine ⟨by simp,fun h3=>h2 (Int.dvd_of_emod_eq_zero h3)⟩
theorem tmod4_bd (k : Int) : -9223372036854775808 ≤ k.tmod 4 + 4 ∧ k.tmod 4 + 4 ≤ 9223372036854775807:=by
  have:=tmod4 k;omega
theorem md4_eq (k : Int) : (k.tmod 4 + 4).tmod 4 = ((md4 k : Nat) : Int):=by
  have h:=tmod4 k
  have h1 : (k.tmod 4 + 4).tmod 4 = (k.tmod 4 + 4) % 4:=Int.tmod_eq_emod_of_nonneg (by omega)
  rw [h1]
  have h2 : ((md4 k : Nat) : Int) = k % 4:=by unfold md4;exact Int.toNat_of_nonneg (Int.emod_nonneg k (by decide))
  rw [h2]
  omega
def invL (l : List FR) (m n : Nat) : List FR:=(List.range n).map fun j=>FR.of ((l.getD ((j + m) % 4) default).val)
theorem inv_next {l : List FR} {m n : Nat} : invL l m n ++ [FR.of ((l.getD ((n + m) % 4) default).val)] = invL l m (n + 1):=by unfold invL;rw [List.range_succ,List.map_append];rfl
theorem inv_len {l : List FR} {m n : Nat} : (invL l m n).length = n:=by unfold invL;simp
theorem inv_at {l : List FR} {k : Int} {j : Nat} (h : chkF l = 0) (hj : j < 4) : (invL l (md4 k) 4).getD j default = invF l k j:=by
  unfold invF invL;rw [if_pos h]
  rw [List.getD_eq_getElem?_getD,List.getElem?_map,List.getElem?_range hj];rfl
theorem inv_bad {l : List FR} {k : Int} {j : Nat} (h : chkF l ≠ 0) : default = invF l k j:=by unfold invF;rw [if_neg h]
end Go.Proofs.YtdeihehaheelmaaGreat
namespace Go.Proofs.YtdeihehaheelmaaGreat
theorem fr_self {r : FR} (hw : wfl r.p ∧ wfl r.q) (hok : r.ok = true) : FR.of r.val = r:=by
  obtain ⟨s,p,q⟩:=r
  have hw : wfl p ∧ wfl q:=hw
  have hok : qok s p q = true:=hok
  by_cases hp : p.length = 0
  · have e:=List.length_eq_zero_iff.1 hp
    subst e
    have h : qok s [] q = true:=hok
    have hv : FR.val ⟨s,[],q⟩ = 0:=qval_nil rfl
    unfold qok at h
    split at h
    · rename_i k
      obtain rfl:=k.2
      rw [hv]
      have : s = false:=by simpa using h
      subst this
      unfold FR.of dwords
      rw [if_pos rfl,show (0 : Rat).num.natAbs = 0 from rfl,words_zero];rfl
    · simp at h
  · obtain ⟨_,h3,h4,h5,h6⟩:=qval_parts hw hok hp
    have hp0 : val p ≠ 0:=fun e=>ne_of_len hp (val_eq_zero h3 e)
    have hne : FR.val ⟨s,p,q⟩ ≠ 0:=fun e=>by
      have h5' : (FR.val ⟨s,p,q⟩).num = sg s (val p):=h5
      rw [e] at h5'
      have:=congrArg Int.natAbs h5'
      rw [sg_abs] at this;exact hp0 this.symm
    have hs : decide (FR.val ⟨s,p,q⟩ < 0) = s:=by
      have h5' : (FR.val ⟨s,p,q⟩).num = sg s (val p):=h5
      have h7 : FR.val ⟨s,p,q⟩ < 0 ↔ (FR.val ⟨s,p,q⟩).num < 0:=by
        rw [← Rat.not_le,← Rat.num_nonneg];omega
      rw [Bool.eq_iff_iff,decide_eq_true_iff,h7,h5']
      cases s <;> simp [sg] <;> omega
    unfold FR.of dwords
    rw [if_neg hne,hs]
    have e1 : (FR.val ⟨s,p,q⟩).num.natAbs = val p:=(congrArg Int.natAbs h5).trans sg_abs
    have e2 : (FR.val ⟨s,p,q⟩).den = val q:=h6
    rw [e1,e2,words_val hw.1 h3,words_val hw.2 h4]
theorem FX.self {n : Nat} {r : FR} {v : Value} {G : Gh} (h : (FX n r).t v G) (hok : r.ok = true) : (FX n (FR.of r.val)).t v G:=FX.eq h (fr_self (QR.wf (FX.qr h)) hok).symm
theorem FX.inv {n : Nat} {ra rb rc rd : FR} {k : Int} {j : Nat} {v : Value} {G : Gh} (hck : chkF [ra,rb,rc,rd] = 0) (h : (FX n ([ra,rb,rc,rd].getD ((j + md4 k) % 4) default)).t v G) : (FX n (invF [ra,rb,rc,rd] k j)).t v G:=by
  have hp:=chk_pos hck
  unfold invF;rw [if_pos hck]
  refine FX.self h ?_
  have hlt : (j + md4 k) % 4 < [ra,rb,rc,rd].length:=Nat.mod_lt _ (by decide)
  have hm : [ra,rb,rc,rd].getD ((j + md4 k) % 4) default ∈ [ra,rb,rc,rd]:=by
    rw [List.getD_eq_getElem?_getD,List.getElem?_eq_getElem hlt];exact List.getElem_mem hlt
  have:=List.all_eq_true.1 hp _ hm
  unfold posR at this
  exact (Bool.and_eq_true_iff.1 this).1
section
variable {a b c d A B C D : Rat}
theorem sums_cmp (ha : 0 ≤ a) (hb : 0 ≤ b) (hc : 0 ≤ c) (hd : 0 ≤ d) (hA : (A = a ∧ B = b) ∨ (A = b ∧ B = a)) (hC : (C = c ∧ D = d) ∨ (C = d ∧ D = c)) : sumsF A B C D = compareF [a,b] [c,d]:=by
  rw [cmp4 ha hb hc hd]
  rcases hA with ⟨rfl,rfl⟩ | ⟨rfl,rfl⟩ <;> rcases hC with ⟨rfl,rfl⟩ | ⟨rfl,rfl⟩
  · rw [sums_four ha hb hc hd]
  · rw [sums_four ha hb hd hc,RR.add_comm (rt C)]
  · rw [sums_four hb ha hc hd,RR.add_comm (rt A)]
  · rw [sums_four hb ha hd hc,RR.add_comm (rt A),RR.add_comm (rt C)]
theorem mm_t (h : cmpQ a b < 0) : maxQ a b = b ∧ minQ a b = a:=by
  have:=cmpQ_lt0.1 h
  exact ⟨max_le (by grind),min_le (by grind)⟩
theorem mm_f (h : ¬ cmpQ a b < 0) : maxQ a b = a ∧ minQ a b = b:=by
  rw [cmpQ_lt0] at h
  unfold maxQ minQ
  refine ⟨if_pos (Rat.not_lt.1 h),?_⟩
  split <;> grind
theorem sums_cmp2 (ha : 0 ≤ a) (hb : 0 ≤ b) (hc : 0 ≤ c) (hd : 0 ≤ d) (hA : maxQ a b = A ∧ minQ a b = B) (hC : maxQ c d = C ∧ minQ c d = D) : sumsF A D B C = compareF [maxQ a b,minQ c d] [minQ a b,maxQ c d]:=by
  have n1 : 0 ≤ maxQ a b:=by unfold maxQ;split <;> assumption
  have n2 : 0 ≤ minQ a b:=by unfold minQ;split <;> assumption
  have n3 : 0 ≤ maxQ c d:=by unfold maxQ;split <;> assumption
  have n4 : 0 ≤ minQ c d:=by unfold minQ;split <;> assumption
  rw [← hA.1,← hA.2,← hC.1,← hC.2,sums_four n1 n4 n2 n3,cmp4 n1 n4 n2 n3]
end
theorem rrot_t {l : List FR} {k : Nat} (c : compareF [(l.getD k default).val, (l.getD ((k + 3) % 4) default).val] [(l.getD ((k + 1) % 4) default).val, (l.getD ((k + 2) % 4) default).val] ≤ 0) :
    decide (compareF [maxQ (l.getD k default).val (l.getD ((k + 3) % 4) default).val,minQ (l.getD ((k + 1) % 4) default).val (l.getD ((k + 2) % 4) default).val] [minQ (l.getD k default).val (l.getD ((k + 3) % 4) default).val,maxQ (l.getD ((k + 1) % 4) default).val (l.getD ((k + 2) % 4) default).val] ≥ 0) = rotL l k:=by
  unfold rotL;rw [decide_eq_true c,Bool.true_and]
theorem rrot_f {l : List FR} {k : Nat} (c : ¬ compareF [(l.getD k default).val,(l.getD ((k + 3) % 4) default).val] [(l.getD ((k + 1) % 4) default).val,(l.getD ((k + 2) % 4) default).val] ≤ 0) : false = rotL l k:=by
  unfold rotL;rw [decide_eq_false c,Bool.false_and]
theorem rotF_in2 {l : List FR} {k : Int} (h : chkF l = 0) (hk : 0 ≤ k ∧ k ≤ 3) : rotF l k = rotL l k.toNat:=rotF_ok (by omega) hk
end Go.Proofs.YtdeihehaheelmaaGreat
