/- GrashofTurns returns true for every input, and every argument reads afterwards as it did. Conditions: none. -/
import Derived.ChangeArms
import Derived.SizedLaws
import Derived.WideShapes
import Derived.Test.YtdeihehaheelmaaGreatRows
import Derived.WalkKit
import Derived.ProofKit
import Derived.OpenShut
import Derived.ShutString
import Derived.ChangeOld
import Derived.Below
import Derived.Test.YtdeihehaheelmaaGreatQe
set_option linter.unusedVariables false
set_option linter.unusedSimpArgs false
namespace Go.Proofs.YtdeihehaheelmaaGreat
set_option maxHeartbeats 1000000
set_option maxRecDepth 100000
open Go.RowKit (Below)
private theorem c_21 : callable Tryz.prog 21 = true:=by kernel_rfl
private theorem c_29 : callable Tryz.prog 29 = true:=by kernel_rfl
private theorem c_31 : callable Tryz.prog 31 = true:=by kernel_rfl
private theorem c_32 : callable Tryz.prog 32 = true:=by kernel_rfl
private theorem c_33 : callable Tryz.prog 33 = true:=by kernel_rfl
private theorem c_34 : callable Tryz.prog 34 = true:=by kernel_rfl
private theorem c_44 : callable Tryz.prog 44 = true:=by kernel_rfl
private theorem c_54 : callable Tryz.prog 54 = true:=by kernel_rfl
private theorem c_57 : callable Tryz.prog 57 = true:=by kernel_rfl
private theorem mixedOrders : Tryz.prog.follows .mixedOrders = true:=by kernel_rfl
private theorem tS_24 : tyS Tryz.prog 24 (some 3) = true:=by kernel_rfl
private theorem z_24 : (Tryz.prog.info? 24).bind (·.zero) = some (.agg #[.bool false,.slice none 0 0,.slice none 0 0]):=by kernel_rfl
private theorem zs_24 : Shaped (some 3) (.agg #[.bool false,.slice none 0 0,.slice none 0 0]):=⟨_,rfl,rfl,by simp [Value.oneCell']⟩
theorem rSurd_ok {n0 n1 n2 : Nat} {x y d : Rat} {v1 v2 v3 : Value} {W0 : World} {G0 : Gh} (hok : Gok W0 G0) (h1 : (QV n0 x).t v1 G0) (h2 : (QV n1 y).t v2 G0) (h3 : (QV n2 d).t v3 G0) (hn : 2 * n0 + 2 * n1 + n2 + 1 ≤ BIG) : Calls Tryz.prog 57 #[v1,v2,v3] W0 (Ret W0 G0 (IT (surdF x y d))):=by
 refine St.enter (N:=44) (L:=[(2,QV n2 d),(1,QV n1 y),(0,QV n0 x)]) (args:=[v1,v2,v3]) Tryz.func57 rfl rfl rfl hok (enter3 h1 h2 h3) fun a S=>?_
 refine wp_reg fun K hK=>?_
 refine S.boxop (x:=.tmp 0) (τ:=QV n0 x) (S.g 2 rfl) (sh (τ:=QV n0 x) (S.g 2 rfl)) rfl rfl rfl rfl rfl fun b3 a w G S=>?_
 refine S.boxop (x:=.tmp 1) (τ:=QV n1 y) (S.g 2 rfl) (sh (τ:=QV n1 y) (S.g 2 rfl)) rfl rfl rfl rfl rfl fun b4 a w G S=>?_
 refine S.boxop (x:=.tmp 2) (τ:=QV n2 d) (S.g 2 rfl) (sh (τ:=QV n2 d) (S.g 2 rfl)) rfl rfl rfl rfl rfl fun b5 a w G S=>?_
 refine S.s (τ:=NT 0) (OpR.asn S.ok rfl (rfl : _ = nv .i64 0)) rfl fun a w G S=>?_
 refine wn hK ?_;clear hK K
 replace S:=S.d6.d5.d4
 refine wp_seq_k fun K hK=>?_
 refine S.drawn [⟨10,.g (QV n0 x),[]⟩,⟨11,.g (IT x.num.sign),[0]⟩,⟨12,.g (QV n1 y),[]⟩,⟨13,.g (IT y.num.sign),[2]⟩,⟨14,.g (QV n2 d),[]⟩,⟨15,.g (IT d.num.sign),[4]⟩,⟨16,.g (IT (y.num.sign * d.num.sign)),[3,5]⟩,⟨7,.g (IT x.num.sign),[1]⟩,⟨8,.g (IT (y.num.sign * d.num.sign)),[6]⟩] mixedOrders (by kernel_rfl)
  ⟨fun a w G S=>.of rfl (OpR.ldBox S.ok rfl (S.e 3 rfl) (S.box 2 rfl) tS_24),
   fun a w G S=>.of rfl (OpR.call1 rfl c_29 (gSign_ok S.ok (S.g 0 rfl) (by omega))),
   fun a w G S=>.of rfl (OpR.ldBox S.ok rfl (S.e 2 rfl) (S.box 1 rfl) tS_24),
   fun a w G S=>.of rfl (OpR.call1 rfl c_29 (gSign_ok S.ok (S.g 0 rfl) (by omega))),
   fun a w G S=>.of rfl (OpR.ldBox S.ok rfl (S.e 1 rfl) (S.box 0 rfl) tS_24),
   fun a w G S=>.of rfl (OpR.call1 rfl c_29 (gSign_ok S.ok (S.g 0 rfl) (by omega))),
   fun a w G S=>.of rfl (OpR.imul S.ok rfl (S.e 0 rfl) (S.e 1 rfl) (iw_i64 rfl (sg_mul_bd _ _))),
   fun a w G S=>.of rfl (OpR.asn S.ok rfl (S.g 0 rfl)),
   fun a w G S=>.of rfl (OpR.asn S.ok rfl (S.g 0 rfl)),trivial⟩ fun β a w G S=>?_
 replace S : St W0 G0 44 [(8,IT (y.num.sign * d.num.sign)),(7,IT x.num.sign),(6,NT 0),(5,PB b5),(4,PB b4),(3,PB b3)] [⟨b5,24,some 3,QV n2 d⟩,⟨b4,24,some 3,QV n1 y⟩,⟨b3,24,some 3,QV n0 x⟩] a _ _:=S.keep [0,1,9,10,11,12]
 refine wn hK ?_;clear hK K
 refine wp_seq_k fun K hK=>?_
 refine wp_reg fun K hK=>?_
 refine S.m rfl (S.g 1 rfl) rfl fun a w G S=>?_
 refine S.s (OpR.zeql S.ok rfl (S.e 0 rfl) (rfl : _ = nv .i64 0) MT.self) rfl fun a w G S=>?_
 refine S.m rfl (S.g 0 rfl) rfl fun a w G S=>?_
 rcases Bool.eq_false_or_eq_true (decide (x.num.sign = 0)) with hc1 | hc1
 ·
  have hp2:=of_decide_eq_true hc1
  replace S:=S.boolIs 0 rfl hc1
  refine S.skipG 0 rfl rfl rfl rfl rfl rfl fun a w G S=>?_
  refine S.skipG 1 rfl rfl rfl rfl rfl rfl fun a w G S=>?_
  refine S.s (τ:=BT true) (OpR.pick S.ok rfl (S.e 2 rfl) rfl) rfl fun a w G S=>?_
  refine S.m rfl (S.g 0 rfl) rfl fun a w G S=>?_
  refine S.skipG 0 rfl rfl rfl rfl rfl rfl fun a w G S=>?_
  refine S.skipG 1 rfl rfl rfl rfl rfl rfl fun a w G S=>?_
  refine S.skipG 2 rfl rfl rfl rfl rfl rfl fun a w G S=>?_
  refine S.s (τ:=BT true) (OpR.pick S.ok rfl (S.e 3 rfl) rfl) rfl fun a w G S=>?_
  refine wn hK ?_;clear hK K
  replace S:=S.d11.d10.d9.d8.d7.d6.d5.d4.d3.d2.d1
  refine wp_cond_true (S.e 0 rfl) ?_
  refine wp_seq_k fun K hK=>?_
  refine wp_reg fun K hK=>?_
  refine S.m rfl (S.g 2 rfl) rfl fun a w G S=>?_
  refine S.s (OpR.zeql S.ok rfl (S.e 0 rfl) (rfl : _ = nv .i64 0) MT.self) rfl fun a w G S=>?_
  refine wn hK ?_;clear hK K
  replace S:=S.d1
  refine S.cond 0 rfl (fun hc3=>?_) (fun hc3=>?_)
  ·
   have hp4:=of_decide_eq_true hc3
   refine wp_reg fun K hK=>?_
   refine S.m rfl (S.g 2 rfl) rfl fun a w G S=>?_
   replace S:=S.d5
   refine S.q rfl (S.g 0 rfl) rfl fun a w G S=>?_
   refine wn hK ?_;clear hK K
   replace S:=S.d1
   exact wp_ret (then_ret (then_ret (S.retTmp rfl ((S.e 0 rfl).trans (iv_eq (by first | (exfalso;omega) | (unfold surdF;first | rw [if_pos (by omega),if_pos (by omega)] | rw [if_pos (by omega),if_neg (by omega)] | rw [if_neg (by omega)])))))))
  ·
   have hp5:=of_decide_eq_false hc3
   refine wp_skip ?_
   refine hK _ _ ?_;clear hK K
   refine wp_reg fun K hK=>?_
   refine S.m rfl (S.g 3 rfl) rfl fun a w G S=>?_
   replace S:=S.d5
   refine S.q rfl (S.g 0 rfl) rfl fun a w G S=>?_
   refine wn hK ?_;clear hK K
   replace S:=S.d1
   exact wp_ret (then_ret (S.retTmp rfl ((S.e 0 rfl).trans (iv_eq (by first | (exfalso;omega) | (unfold surdF;first | rw [if_pos (by omega),if_pos (by omega)] | rw [if_pos (by omega),if_neg (by omega)] | rw [if_neg (by omega)]))))))
 ·
  have hp6:=of_decide_eq_false hc1
  replace S:=S.boolIs 0 rfl hc1
  refine S.stepG 0 (OpR.mv S.ok rfl (S.g 4 rfl)) rfl rfl rfl rfl rfl rfl fun a w G S=>?_
  refine S.stepG 1 (OpR.zeql S.ok rfl (S.e 0 rfl) (rfl : _ = nv .i64 0) MT.self) rfl rfl rfl rfl rfl rfl fun a w G S=>?_
  refine S.s (τ:=BT (decide ((y.num.sign * d.num.sign) = 0))) (OpR.pick S.ok rfl (S.e 2 rfl) (S.g 0 rfl)) rfl fun a w G S=>?_
  refine S.m rfl (S.g 0 rfl) rfl fun a w G S=>?_
  rcases Bool.eq_false_or_eq_true (decide ((y.num.sign * d.num.sign) = 0)) with hc7 | hc7
  ·
   have hp8:=of_decide_eq_true hc7
   replace S:=S.boolIs 0 rfl hc7
   refine S.skipG 0 rfl rfl rfl rfl rfl rfl fun a w G S=>?_
   refine S.skipG 1 rfl rfl rfl rfl rfl rfl fun a w G S=>?_
   refine S.skipG 2 rfl rfl rfl rfl rfl rfl fun a w G S=>?_
   refine S.s (τ:=BT true) (OpR.pick S.ok rfl (S.e 3 rfl) rfl) rfl fun a w G S=>?_
   refine wn hK ?_;clear hK K
   replace S:=S.d12.d11.d10.d9.d8.d7.d6.d5.d4.d3.d2.d1
   refine wp_cond_true (S.e 0 rfl) ?_
   refine wp_seq_k fun K hK=>?_
   refine wp_reg fun K hK=>?_
   refine S.m rfl (S.g 2 rfl) rfl fun a w G S=>?_
   refine S.s (OpR.zeql S.ok rfl (S.e 0 rfl) (rfl : _ = nv .i64 0) MT.self) rfl fun a w G S=>?_
   refine wn hK ?_;clear hK K
   replace S:=S.d1
   refine S.cond 0 rfl (fun hc9=>?_) (fun hc9=>?_)
   ·
    have hp10:=of_decide_eq_true hc9
    refine wp_reg fun K hK=>?_
    refine S.m rfl (S.g 2 rfl) rfl fun a w G S=>?_
    replace S:=S.d5
    refine S.q rfl (S.g 0 rfl) rfl fun a w G S=>?_
    refine wn hK ?_;clear hK K
    replace S:=S.d1
    exact wp_ret (then_ret (then_ret (S.retTmp rfl ((S.e 0 rfl).trans (iv_eq (by first | (exfalso;omega) | (unfold surdF;first | rw [if_pos (by omega),if_pos (by omega)] | rw [if_pos (by omega),if_neg (by omega)] | rw [if_neg (by omega)])))))))
   ·
    have hp11:=of_decide_eq_false hc9
    refine wp_skip ?_
    refine hK _ _ ?_;clear hK K
    refine wp_reg fun K hK=>?_
    refine S.m rfl (S.g 3 rfl) rfl fun a w G S=>?_
    replace S:=S.d5
    refine S.q rfl (S.g 0 rfl) rfl fun a w G S=>?_
    refine wn hK ?_;clear hK K
    replace S:=S.d1
    exact wp_ret (then_ret (S.retTmp rfl ((S.e 0 rfl).trans (iv_eq (by first | (exfalso;omega) | (unfold surdF;first | rw [if_pos (by omega),if_pos (by omega)] | rw [if_pos (by omega),if_neg (by omega)] | rw [if_neg (by omega)]))))))
  ·
   have hp12:=of_decide_eq_false hc7
   replace S:=S.boolIs 0 rfl hc7
   refine S.stepG 0 (OpR.mv S.ok rfl (S.g 10 rfl)) rfl rfl rfl rfl rfl rfl fun a w G S=>?_
   refine S.stepG 1 (OpR.mv S.ok rfl (S.g 10 rfl)) rfl rfl rfl rfl rfl rfl fun a w G S=>?_
   refine S.stepG 2 (OpR.zeql S.ok rfl (S.e 1 rfl) (S.e 0 rfl) MT.self) rfl rfl rfl rfl rfl rfl fun a w G S=>?_
   refine S.s (τ:=BT (decide (x.num.sign = (y.num.sign * d.num.sign)))) (OpR.pick S.ok rfl (S.e 3 rfl) (S.g 0 rfl)) rfl fun a w G S=>?_
   refine wn hK ?_;clear hK K
   replace S:=S.d12.d11.d10.d9.d8.d7.d6.d5.d4.d3.d2.d1
   refine S.cond 0 rfl (fun hc13=>?_) (fun hc13=>?_)
   ·
    have hp14:=of_decide_eq_true hc13
    refine wp_seq_k fun K hK=>?_
    refine wp_reg fun K hK=>?_
    refine S.m rfl (S.g 2 rfl) rfl fun a w G S=>?_
    refine S.s (OpR.zeql S.ok rfl (S.e 0 rfl) (rfl : _ = nv .i64 0) MT.self) rfl fun a w G S=>?_
    refine wn hK ?_;clear hK K
    replace S:=S.d1
    refine S.cond 0 rfl (fun hc15=>?_) (fun hc15=>?_)
    ·
     have hp16:=of_decide_eq_true hc15
     refine wp_reg fun K hK=>?_
     refine S.m rfl (S.g 2 rfl) rfl fun a w G S=>?_
     replace S:=S.d5
     refine S.q rfl (S.g 0 rfl) rfl fun a w G S=>?_
     refine wn hK ?_;clear hK K
     replace S:=S.d1
     exact wp_ret (then_ret (then_ret (S.retTmp rfl ((S.e 0 rfl).trans (iv_eq (by first | (exfalso;omega) | (unfold surdF;first | rw [if_pos (by omega),if_pos (by omega)] | rw [if_pos (by omega),if_neg (by omega)] | rw [if_neg (by omega)])))))))
    ·
     have hp17:=of_decide_eq_false hc15
     refine wp_skip ?_
     refine hK _ _ ?_;clear hK K
     refine wp_reg fun K hK=>?_
     refine S.m rfl (S.g 3 rfl) rfl fun a w G S=>?_
     replace S:=S.d5
     refine S.q rfl (S.g 0 rfl) rfl fun a w G S=>?_
     refine wn hK ?_;clear hK K
     replace S:=S.d1
     exact wp_ret (then_ret (S.retTmp rfl ((S.e 0 rfl).trans (iv_eq (by first | (exfalso;omega) | (unfold surdF;first | rw [if_pos (by omega),if_pos (by omega)] | rw [if_pos (by omega),if_neg (by omega)] | rw [if_neg (by omega)]))))))
   ·
    have hp18:=of_decide_eq_false hc13
    refine wp_skip ?_
    refine hK _ _ ?_;clear hK K
    refine wp_seq_k fun K hK=>?_
    refine S.drawn [⟨32,.g (QV n1 y),[]⟩,⟨33,.g (QV n1 y),[]⟩,⟨34,.g (QC (n1 + n1) (y * y)),[0,1]⟩,⟨35,.g (QV n2 d),[]⟩,⟨36,.g (QC ((n1 + n1) + n2) ((y * y) * d)),[2,3]⟩,⟨9,.al mkP 24 (some 3) (MT.ex (.agg #[.bool false,.slice none 0 0,.slice none 0 0])),[]⟩] mixedOrders (by kernel_rfl)
     ⟨fun a w G S=>.of rfl (OpR.ldBox S.ok rfl (S.e 5 rfl) (S.box 1 rfl) tS_24),
      fun a w G S=>.of rfl (OpR.ldBox S.ok rfl (S.e 5 rfl) (S.box 1 rfl) tS_24),
      fun a w G S=>.of rfl (OpR.call2 rfl c_34 (gMul_ok S.ok (S.g 0 rfl) (S.g 1 rfl) (by omega))),
      fun a w G S=>.of rfl (OpR.ldBox S.ok rfl (S.e 4 rfl) (S.box 0 rfl) tS_24),
      fun a w G S=>.of rfl (OpR.call2 rfl c_34 (gMul_ok S.ok (QC.toQV (S.g 0 rfl)) (S.g 1 rfl) (by omega))),
      ⟨fun _=>rfl,rfl,fun a w G S=>OpB.alloc S.ok rfl z_24 zs_24⟩,trivial⟩ fun β a w G S=>?_
    replace S : St W0 G0 44 [(9,PB (β 5)),(36,QC ((n1 + n1) + n2) ((y * y) * d)),(27,BT (decide (x.num.sign = (y.num.sign * d.num.sign)))),(8,IT (y.num.sign * d.num.sign)),(7,IT x.num.sign),(6,NT 0),(5,PB b5),(4,PB b4),(3,PB b3)] [⟨(β 5),24,some 3,MT.ex ((.agg #[.bool false,.slice none 0 0,.slice none 0 0] : Value))⟩,⟨b5,24,some 3,QV n2 d⟩,⟨b4,24,some 3,QV n1 y⟩,⟨b3,24,some 3,QV n0 x⟩] a _ _:=S.keep [0,1,6,7,8,9,10,11,12]
    generalize β 5 = b9 at S
    refine S.store (τ:=QC ((n1 + n1) + n2) ((y * y) * d)) 0 rfl rfl rfl rfl (S.e 0 rfl) tS_24 (S.g 1 rfl) (sh (τ:=QC ((n1 + n1) + n2) ((y * y) * d)) (S.g 1 rfl)) fun w S=>?_
    replace S:=S.n0
    refine wn hK ?_;clear hK K
    replace S:=S.d1
    refine wp_seq_k fun K hK=>?_
    replace S:=S.d4
    refine S.drawn [⟨37,.g (IT x.num.sign),[]⟩,⟨38,.g (QV n0 x),[]⟩,⟨39,.g (QV n0 x),[]⟩,⟨40,.g (QC (n0 + n0) (x * x)),[1,2]⟩,⟨41,.g (QC ((n1 + n1) + n2) ((y * y) * d)),[]⟩,⟨42,.g (IT (cmpQ (x * x) ((y * y) * d))),[3,4]⟩,⟨43,.g (IT (x.num.sign * cmpQ (x * x) (y * y * d))),[0,5]⟩,⟨6,.g (IT (x.num.sign * cmpQ (x * x) (y * y * d))),[6]⟩] mixedOrders (by kernel_rfl)
     ⟨fun a w G S=>.of rfl (OpR.mv S.ok rfl (S.g 3 rfl)),
      fun a w G S=>.of rfl (OpR.ldBox S.ok rfl (S.e 6 rfl) (S.box 3 rfl) tS_24),
      fun a w G S=>.of rfl (OpR.ldBox S.ok rfl (S.e 6 rfl) (S.box 3 rfl) tS_24),
      fun a w G S=>.of rfl (OpR.call2 rfl c_34 (gMul_ok S.ok (S.g 0 rfl) (S.g 1 rfl) (by omega))),
      fun a w G S=>.of rfl (OpR.ldBox S.ok rfl (S.e 0 rfl) (S.box 0 rfl) tS_24),
      fun a w G S=>.of rfl (OpR.call2 rfl c_44 (gCmp_ok S.ok (QC.toQV (S.g 0 rfl)) (QC.toQV (S.g 1 rfl)) (by omega))),
      fun a w G S=>.of rfl (OpR.imul S.ok rfl (S.e 0 rfl) (S.e 1 rfl) (iw_i64 rfl (sg_cmp_bd _ _ _))),
      fun a w G S=>.of rfl (OpR.asn S.ok rfl (S.g 0 rfl)),trivial⟩ fun β a w G S=>?_
    replace S : St W0 G0 44 [(6,IT (x.num.sign * cmpQ (x * x) (y * y * d))),(9,PB b9),(27,BT (decide (x.num.sign = (y.num.sign * d.num.sign)))),(8,IT (y.num.sign * d.num.sign)),(7,IT x.num.sign),(5,PB b5),(4,PB b4),(3,PB b3)] [⟨b9,24,some 3,QC ((n1 + n1) + n2) ((y * y) * d)⟩,⟨b5,24,some 3,QV n2 d⟩,⟨b4,24,some 3,QV n1 y⟩,⟨b3,24,some 3,QV n0 x⟩] a _ _:=S.keep [0,8,9,10,11,12,13,14]
    refine wn hK ?_;clear hK K
    exact wp_ret (S.retTmp rfl ((S.e 0 rfl).trans (iv_eq (by first | (exfalso;omega) | (unfold surdF;first | rw [if_pos (by omega),if_pos (by omega)] | rw [if_pos (by omega),if_neg (by omega)] | rw [if_neg (by omega)])))))
theorem rSurds_ok {n0 n1 n2 n3 n4 : Nat} {x y d z e : Rat} {v1 v2 v3 v4 v5 : Value} {W0 : World} {G0 : Gh} (hok : Gok W0 G0) (h1 : (QV n0 x).t v1 G0) (h2 : (QV n1 y).t v2 G0) (h3 : (QV n2 d).t v3 G0) (h4 : (QV n3 z).t v4 G0) (h5 : (QV n4 e).t v5 G0) (hn : 8 * n0 + 8 * n1 + 8 * n2 + 8 * n3 + 8 * n4 + 1000 ≤ BIG) : Calls Tryz.prog 33 #[v1,v2,v3,v4,v5] W0 (Ret W0 G0 (IT (surdsF x y d z e))):=by
 refine St.enter (N:=65) (L:=[(4,QV n4 e),(3,QV n3 z),(2,QV n2 d),(1,QV n1 y),(0,QV n0 x)]) (args:=[v1,v2,v3,v4,v5]) Tryz.func33 rfl rfl rfl hok (enter5 h1 h2 h3 h4 h5) fun a S=>?_
 refine wp_reg fun K hK=>?_
 refine S.boxop (x:=.tmp 0) (τ:=QV n0 x) (S.g 4 rfl) (sh (τ:=QV n0 x) (S.g 4 rfl)) rfl rfl rfl rfl rfl fun b5 a w G S=>?_
 refine S.boxop (x:=.tmp 1) (τ:=QV n1 y) (S.g 4 rfl) (sh (τ:=QV n1 y) (S.g 4 rfl)) rfl rfl rfl rfl rfl fun b6 a w G S=>?_
 refine S.boxop (x:=.tmp 2) (τ:=QV n2 d) (S.g 4 rfl) (sh (τ:=QV n2 d) (S.g 4 rfl)) rfl rfl rfl rfl rfl fun b7 a w G S=>?_
 refine S.boxop (x:=.tmp 3) (τ:=QV n3 z) (S.g 4 rfl) (sh (τ:=QV n3 z) (S.g 4 rfl)) rfl rfl rfl rfl rfl fun b8 a w G S=>?_
 refine S.boxop (x:=.tmp 4) (τ:=QV n4 e) (S.g 4 rfl) (sh (τ:=QV n4 e) (S.g 4 rfl)) rfl rfl rfl rfl rfl fun b9 a w G S=>?_
 refine S.s (τ:=NT 0) (OpR.asn S.ok rfl (rfl : _ = nv .i64 0)) rfl fun a w G S=>?_
 refine wn hK ?_;clear hK K
 replace S:=S.d10.d9.d8.d7.d6
 refine wp_reg fun K hK=>?_
 refine S.s (OpR.ldBox S.ok rfl (S.e 5 rfl) (S.box 4 rfl) tS_24) rfl fun a w G S=>?_
 refine S.s (OpR.ldBox S.ok rfl (S.e 5 rfl) (S.box 3 rfl) tS_24) rfl fun a w G S=>?_
 refine S.s (OpR.ldBox S.ok rfl (S.e 5 rfl) (S.box 2 rfl) tS_24) rfl fun a w G S=>?_
 refine S.s (τ:=IT (surdF x y d)) (OpR.call3 rfl c_57 (rSurd_ok S.ok (S.g 2 rfl) (S.g 1 rfl) (S.g 0 rfl) (by omega))) rfl fun a w G S=>?_
 refine S.q rfl (S.g 0 rfl) rfl fun a w G S=>?_
 refine wn hK ?_;clear hK K
 replace S:=S.d4.d3.d2.d1
 refine wp_seq_k fun K hK=>?_
 refine S.drawn [⟨19,.g (QV n3 z),[]⟩,⟨20,.g (IT z.num.sign),[0]⟩,⟨21,.g (QV n4 e),[]⟩,⟨22,.g (IT e.num.sign),[2]⟩,⟨23,.g (IT (z.num.sign * e.num.sign)),[1,3]⟩,⟨12,.g (IT (z.num.sign * e.num.sign)),[4]⟩] mixedOrders (by kernel_rfl)
  ⟨fun a w G S=>.of rfl (OpR.ldBox S.ok rfl (S.e 3 rfl) (S.box 1 rfl) tS_24),
   fun a w G S=>.of rfl (OpR.call1 rfl c_29 (gSign_ok S.ok (S.g 0 rfl) (by omega))),
   fun a w G S=>.of rfl (OpR.ldBox S.ok rfl (S.e 2 rfl) (S.box 0 rfl) tS_24),
   fun a w G S=>.of rfl (OpR.call1 rfl c_29 (gSign_ok S.ok (S.g 0 rfl) (by omega))),
   fun a w G S=>.of rfl (OpR.imul S.ok rfl (S.e 0 rfl) (S.e 1 rfl) (iw_i64 rfl (sg_mul_bd _ _))),
   fun a w G S=>.of rfl (OpR.asn S.ok rfl (S.g 0 rfl)),trivial⟩ fun β a w G S=>?_
 replace S : St W0 G0 65 [(12,IT (z.num.sign * e.num.sign)),(11,IT (surdF x y d)),(10,NT 0),(9,PB b9),(8,PB b8),(7,PB b7),(6,PB b6),(5,PB b5)] [⟨b9,24,some 3,QV n4 e⟩,⟨b8,24,some 3,QV n3 z⟩,⟨b7,24,some 3,QV n2 d⟩,⟨b6,24,some 3,QV n1 y⟩,⟨b5,24,some 3,QV n0 x⟩] a _ _:=S.keep [0,6,7,8,9,10,11,12]
 refine wn hK ?_;clear hK K
 refine wp_seq_k fun K hK=>?_
 refine wp_reg fun K hK=>?_
 refine S.m rfl (S.g 1 rfl) rfl fun a w G S=>?_
 refine S.s (OpR.zeql S.ok rfl (S.e 0 rfl) (rfl : _ = nv .i64 0) MT.self) rfl fun a w G S=>?_
 refine S.m rfl (S.g 0 rfl) rfl fun a w G S=>?_
 rcases Bool.eq_false_or_eq_true (decide ((surdF x y d) = 0)) with hc1 | hc1
 ·
  have hp2:=of_decide_eq_true hc1
  replace S:=S.boolIs 0 rfl hc1
  refine S.skipG 0 rfl rfl rfl rfl rfl rfl fun a w G S=>?_
  refine S.skipG 1 rfl rfl rfl rfl rfl rfl fun a w G S=>?_
  refine S.s (τ:=BT true) (OpR.pick S.ok rfl (S.e 2 rfl) rfl) rfl fun a w G S=>?_
  refine S.m rfl (S.g 0 rfl) rfl fun a w G S=>?_
  refine S.skipG 0 rfl rfl rfl rfl rfl rfl fun a w G S=>?_
  refine S.skipG 1 rfl rfl rfl rfl rfl rfl fun a w G S=>?_
  refine S.skipG 2 rfl rfl rfl rfl rfl rfl fun a w G S=>?_
  refine S.s (τ:=BT true) (OpR.pick S.ok rfl (S.e 3 rfl) rfl) rfl fun a w G S=>?_
  refine wn hK ?_;clear hK K
  replace S:=S.d11.d10.d9.d8.d7.d6.d5.d4.d3.d2.d1
  refine wp_cond_true (S.e 0 rfl) ?_
  refine wp_seq_k fun K hK=>?_
  refine wp_reg fun K hK=>?_
  refine S.m rfl (S.g 2 rfl) rfl fun a w G S=>?_
  refine S.s (OpR.zeql S.ok rfl (S.e 0 rfl) (rfl : _ = nv .i64 0) MT.self) rfl fun a w G S=>?_
  refine wn hK ?_;clear hK K
  replace S:=S.d1
  refine S.cond 0 rfl (fun hc3=>?_) (fun hc3=>?_)
  ·
   have hp4:=of_decide_eq_true hc3
   refine wp_reg fun K hK=>?_
   refine S.m rfl (S.g 2 rfl) rfl fun a w G S=>?_
   replace S:=S.d5
   refine S.q rfl (S.g 0 rfl) rfl fun a w G S=>?_
   refine wn hK ?_;clear hK K
   replace S:=S.d1
   exact wp_ret (then_ret (then_ret (S.retTmp rfl ((S.e 0 rfl).trans (iv_eq (by first | (exfalso;omega) | (unfold surdsF;first | rw [if_pos (by omega),if_pos (by omega)] | rw [if_pos (by omega),if_neg (by omega)] | rw [if_neg (by omega)])))))))
  ·
   have hp5:=of_decide_eq_false hc3
   refine wp_skip ?_
   refine hK _ _ ?_;clear hK K
   refine wp_reg fun K hK=>?_
   refine S.m rfl (S.g 3 rfl) rfl fun a w G S=>?_
   replace S:=S.d5
   refine S.q rfl (S.g 0 rfl) rfl fun a w G S=>?_
   refine wn hK ?_;clear hK K
   replace S:=S.d1
   exact wp_ret (then_ret (S.retTmp rfl ((S.e 0 rfl).trans (iv_eq (by first | (exfalso;omega) | (unfold surdsF;first | rw [if_pos (by omega),if_pos (by omega)] | rw [if_pos (by omega),if_neg (by omega)] | rw [if_neg (by omega)]))))))
 ·
  have hp6:=of_decide_eq_false hc1
  replace S:=S.boolIs 0 rfl hc1
  refine S.stepG 0 (OpR.mv S.ok rfl (S.g 4 rfl)) rfl rfl rfl rfl rfl rfl fun a w G S=>?_
  refine S.stepG 1 (OpR.zeql S.ok rfl (S.e 0 rfl) (rfl : _ = nv .i64 0) MT.self) rfl rfl rfl rfl rfl rfl fun a w G S=>?_
  refine S.s (τ:=BT (decide ((z.num.sign * e.num.sign) = 0))) (OpR.pick S.ok rfl (S.e 2 rfl) (S.g 0 rfl)) rfl fun a w G S=>?_
  refine S.m rfl (S.g 0 rfl) rfl fun a w G S=>?_
  rcases Bool.eq_false_or_eq_true (decide ((z.num.sign * e.num.sign) = 0)) with hc7 | hc7
  ·
   have hp8:=of_decide_eq_true hc7
   replace S:=S.boolIs 0 rfl hc7
   refine S.skipG 0 rfl rfl rfl rfl rfl rfl fun a w G S=>?_
   refine S.skipG 1 rfl rfl rfl rfl rfl rfl fun a w G S=>?_
   refine S.skipG 2 rfl rfl rfl rfl rfl rfl fun a w G S=>?_
   refine S.s (τ:=BT true) (OpR.pick S.ok rfl (S.e 3 rfl) rfl) rfl fun a w G S=>?_
   refine wn hK ?_;clear hK K
   replace S:=S.d12.d11.d10.d9.d8.d7.d6.d5.d4.d3.d2.d1
   refine wp_cond_true (S.e 0 rfl) ?_
   refine wp_seq_k fun K hK=>?_
   refine wp_reg fun K hK=>?_
   refine S.m rfl (S.g 2 rfl) rfl fun a w G S=>?_
   refine S.s (OpR.zeql S.ok rfl (S.e 0 rfl) (rfl : _ = nv .i64 0) MT.self) rfl fun a w G S=>?_
   refine wn hK ?_;clear hK K
   replace S:=S.d1
   refine S.cond 0 rfl (fun hc9=>?_) (fun hc9=>?_)
   ·
    have hp10:=of_decide_eq_true hc9
    refine wp_reg fun K hK=>?_
    refine S.m rfl (S.g 2 rfl) rfl fun a w G S=>?_
    replace S:=S.d5
    refine S.q rfl (S.g 0 rfl) rfl fun a w G S=>?_
    refine wn hK ?_;clear hK K
    replace S:=S.d1
    exact wp_ret (then_ret (then_ret (S.retTmp rfl ((S.e 0 rfl).trans (iv_eq (by first | (exfalso;omega) | (unfold surdsF;first | rw [if_pos (by omega),if_pos (by omega)] | rw [if_pos (by omega),if_neg (by omega)] | rw [if_neg (by omega)])))))))
   ·
    have hp11:=of_decide_eq_false hc9
    refine wp_skip ?_
    refine hK _ _ ?_;clear hK K
    refine wp_reg fun K hK=>?_
    refine S.m rfl (S.g 3 rfl) rfl fun a w G S=>?_
    replace S:=S.d5
    refine S.q rfl (S.g 0 rfl) rfl fun a w G S=>?_
    refine wn hK ?_;clear hK K
    replace S:=S.d1
    exact wp_ret (then_ret (S.retTmp rfl ((S.e 0 rfl).trans (iv_eq (by first | (exfalso;omega) | (unfold surdsF;first | rw [if_pos (by omega),if_pos (by omega)] | rw [if_pos (by omega),if_neg (by omega)] | rw [if_neg (by omega)]))))))
  ·
   have hp12:=of_decide_eq_false hc7
   replace S:=S.boolIs 0 rfl hc7
   refine S.stepG 0 (OpR.mv S.ok rfl (S.g 10 rfl)) rfl rfl rfl rfl rfl rfl fun a w G S=>?_
   refine S.stepG 1 (OpR.mv S.ok rfl (S.g 10 rfl)) rfl rfl rfl rfl rfl rfl fun a w G S=>?_
   refine S.stepG 2 (OpR.zeql S.ok rfl (S.e 1 rfl) (S.e 0 rfl) MT.self) rfl rfl rfl rfl rfl rfl fun a w G S=>?_
   refine S.s (τ:=BT (decide ((surdF x y d) = (z.num.sign * e.num.sign)))) (OpR.pick S.ok rfl (S.e 3 rfl) (S.g 0 rfl)) rfl fun a w G S=>?_
   refine wn hK ?_;clear hK K
   replace S:=S.d12.d11.d10.d9.d8.d7.d6.d5.d4.d3.d2.d1
   refine S.cond 0 rfl (fun hc13=>?_) (fun hc13=>?_)
   ·
    have hp14:=of_decide_eq_true hc13
    refine wp_seq_k fun K hK=>?_
    refine wp_reg fun K hK=>?_
    refine S.m rfl (S.g 2 rfl) rfl fun a w G S=>?_
    refine S.s (OpR.zeql S.ok rfl (S.e 0 rfl) (rfl : _ = nv .i64 0) MT.self) rfl fun a w G S=>?_
    refine wn hK ?_;clear hK K
    replace S:=S.d1
    refine S.cond 0 rfl (fun hc15=>?_) (fun hc15=>?_)
    ·
     have hp16:=of_decide_eq_true hc15
     refine wp_reg fun K hK=>?_
     refine S.m rfl (S.g 2 rfl) rfl fun a w G S=>?_
     replace S:=S.d5
     refine S.q rfl (S.g 0 rfl) rfl fun a w G S=>?_
     refine wn hK ?_;clear hK K
     replace S:=S.d1
     exact wp_ret (then_ret (then_ret (S.retTmp rfl ((S.e 0 rfl).trans (iv_eq (by first | (exfalso;omega) | (unfold surdsF;first | rw [if_pos (by omega),if_pos (by omega)] | rw [if_pos (by omega),if_neg (by omega)] | rw [if_neg (by omega)])))))))
    ·
     have hp17:=of_decide_eq_false hc15
     refine wp_skip ?_
     refine hK _ _ ?_;clear hK K
     refine wp_reg fun K hK=>?_
     refine S.m rfl (S.g 3 rfl) rfl fun a w G S=>?_
     replace S:=S.d5
     refine S.q rfl (S.g 0 rfl) rfl fun a w G S=>?_
     refine wn hK ?_;clear hK K
     replace S:=S.d1
     exact wp_ret (then_ret (S.retTmp rfl ((S.e 0 rfl).trans (iv_eq (by first | (exfalso;omega) | (unfold surdsF;first | rw [if_pos (by omega),if_pos (by omega)] | rw [if_pos (by omega),if_neg (by omega)] | rw [if_neg (by omega)]))))))
   ·
    have hp18:=of_decide_eq_false hc13
    refine wp_skip ?_
    refine hK _ _ ?_;clear hK K
    refine wp_seq_k fun K hK=>?_
    refine S.drawn [⟨39,.g (QV n0 x),[]⟩,⟨40,.g (QV n0 x),[]⟩,⟨41,.g (QC (n0 + n0) (x * x)),[0,1]⟩,⟨42,.g (QV n1 y),[]⟩,⟨43,.g (QV n1 y),[]⟩,⟨44,.g (QC (n1 + n1) (y * y)),[3,4]⟩,⟨45,.g (QV n2 d),[]⟩,⟨46,.g (QC ((n1 + n1) + n2) ((y * y) * d)),[5,6]⟩,⟨47,.g (QC ((n0 + n0) + ((n1 + n1) + n2) + 1) ((x * x) + ((y * y) * d))),[2,7]⟩,⟨13,.al mkP 24 (some 3) (MT.ex (.agg #[.bool false,.slice none 0 0,.slice none 0 0])),[]⟩] mixedOrders (by kernel_rfl)
     ⟨fun a w G S=>.of rfl (OpR.ldBox S.ok rfl (S.e 8 rfl) (S.box 4 rfl) tS_24),
      fun a w G S=>.of rfl (OpR.ldBox S.ok rfl (S.e 8 rfl) (S.box 4 rfl) tS_24),
      fun a w G S=>.of rfl (OpR.call2 rfl c_34 (gMul_ok S.ok (S.g 0 rfl) (S.g 1 rfl) (by omega))),
      fun a w G S=>.of rfl (OpR.ldBox S.ok rfl (S.e 7 rfl) (S.box 3 rfl) tS_24),
      fun a w G S=>.of rfl (OpR.ldBox S.ok rfl (S.e 7 rfl) (S.box 3 rfl) tS_24),
      fun a w G S=>.of rfl (OpR.call2 rfl c_34 (gMul_ok S.ok (S.g 0 rfl) (S.g 1 rfl) (by omega))),
      fun a w G S=>.of rfl (OpR.ldBox S.ok rfl (S.e 6 rfl) (S.box 2 rfl) tS_24),
      fun a w G S=>.of rfl (OpR.call2 rfl c_34 (gMul_ok S.ok (QC.toQV (S.g 0 rfl)) (S.g 1 rfl) (by omega))),
      fun a w G S=>.of rfl (OpR.call2 rfl c_32 (gAdd_ok S.ok (QC.toQV (S.g 0 rfl)) (QC.toQV (S.g 1 rfl)) (by omega))),
      ⟨fun _=>rfl,rfl,fun a w G S=>OpB.alloc S.ok rfl z_24 zs_24⟩,trivial⟩ fun β a w G S=>?_
    replace S : St W0 G0 65 [(13,PB (β 9)),(47,QC ((n0 + n0) + ((n1 + n1) + n2) + 1) ((x * x) + ((y * y) * d))),(34,BT (decide ((surdF x y d) = (z.num.sign * e.num.sign)))),(12,IT (z.num.sign * e.num.sign)),(11,IT (surdF x y d)),(10,NT 0),(9,PB b9),(8,PB b8),(7,PB b7),(6,PB b6),(5,PB b5)] [⟨(β 9),24,some 3,MT.ex ((.agg #[.bool false,.slice none 0 0,.slice none 0 0] : Value))⟩,⟨b9,24,some 3,QV n4 e⟩,⟨b8,24,some 3,QV n3 z⟩,⟨b7,24,some 3,QV n2 d⟩,⟨b6,24,some 3,QV n1 y⟩,⟨b5,24,some 3,QV n0 x⟩] a _ _:=S.keep [0,1,10,11,12,13,14,15,16,17,18]
    generalize β 9 = b13 at S
    refine S.store (τ:=QC ((n0 + n0) + ((n1 + n1) + n2) + 1) ((x * x) + ((y * y) * d))) 0 rfl rfl rfl rfl (S.e 0 rfl) tS_24 (S.g 1 rfl) (sh (τ:=QC ((n0 + n0) + ((n1 + n1) + n2) + 1) ((x * x) + ((y * y) * d))) (S.g 1 rfl)) fun w S=>?_
    replace S:=S.n0
    refine wn hK ?_;clear hK K
    replace S:=S.d1
    refine wp_seq_k fun K hK=>?_
    refine S.drawn [⟨48,.g (QC 64 2),[]⟩,⟨49,.g (QV n0 x),[]⟩,⟨50,.g (QV n1 y),[]⟩,⟨51,.g (QC (n0 + n1) (x * y)),[1,2]⟩,⟨52,.g (QC (64 + (n0 + n1)) (2 * (x * y))),[0,3]⟩,⟨14,.al mkP 24 (some 3) (MT.ex (.agg #[.bool false,.slice none 0 0,.slice none 0 0])),[]⟩] mixedOrders (by kernel_rfl)
     ⟨fun a w G S=>.of rfl (OpR.conv' (OpR.call1 rfl c_21 (gOf_ok S.ok ((rfl : _ = nv .i64 2).trans (iv_eq (by first | rfl | omega | (simp only [Nat.zero_add,Nat.add_zero];done) | (simp;done) | (push_cast;omega)))) (by omega))) fun _ _ h=>(QC.eq h (by rfl))),
      fun a w G S=>.of rfl (OpR.ldBox S.ok rfl (S.e 9 rfl) (S.box 5 rfl) tS_24),
      fun a w G S=>.of rfl (OpR.ldBox S.ok rfl (S.e 8 rfl) (S.box 4 rfl) tS_24),
      fun a w G S=>.of rfl (OpR.call2 rfl c_34 (gMul_ok S.ok (S.g 0 rfl) (S.g 1 rfl) (by omega))),
      fun a w G S=>.of rfl (OpR.call2 rfl c_34 (gMul_ok S.ok (QC.toQV (S.g 0 rfl)) (QC.toQV (S.g 1 rfl)) (by omega))),
      ⟨fun _=>rfl,rfl,fun a w G S=>OpB.alloc S.ok rfl z_24 zs_24⟩,trivial⟩ fun β a w G S=>?_
    replace S : St W0 G0 65 [(14,PB (β 5)),(52,QC (64 + (n0 + n1)) (2 * (x * y))),(13,PB b13),(34,BT (decide ((surdF x y d) = (z.num.sign * e.num.sign)))),(12,IT (z.num.sign * e.num.sign)),(11,IT (surdF x y d)),(10,NT 0),(9,PB b9),(8,PB b8),(7,PB b7),(6,PB b6),(5,PB b5)] [⟨(β 5),24,some 3,MT.ex ((.agg #[.bool false,.slice none 0 0,.slice none 0 0] : Value))⟩,⟨b13,24,some 3,QC ((n0 + n0) + ((n1 + n1) + n2) + 1) ((x * x) + ((y * y) * d))⟩,⟨b9,24,some 3,QV n4 e⟩,⟨b8,24,some 3,QV n3 z⟩,⟨b7,24,some 3,QV n2 d⟩,⟨b6,24,some 3,QV n1 y⟩,⟨b5,24,some 3,QV n0 x⟩] a _ _:=S.keep [0,1,6,7,8,9,10,11,12,13,14,15]
    generalize β 5 = b14 at S
    refine S.store (τ:=QC (64 + (n0 + n1)) (2 * (x * y))) 0 rfl rfl rfl rfl (S.e 0 rfl) tS_24 (S.g 1 rfl) (sh (τ:=QC (64 + (n0 + n1)) (2 * (x * y))) (S.g 1 rfl)) fun w S=>?_
    replace S:=S.n0
    refine wn hK ?_;clear hK K
    replace S:=S.d1
    refine wp_seq_k fun K hK=>?_
    replace S:=S.d5
    refine S.drawn [⟨53,.g (IT (surdF x y d)),[]⟩,⟨54,.g (QC ((n0 + n0) + ((n1 + n1) + n2) + 1) ((x * x) + ((y * y) * d))),[]⟩,⟨55,.g (QV n3 z),[]⟩,⟨56,.g (QV n3 z),[]⟩,⟨57,.g (QC (n3 + n3) (z * z)),[2,3]⟩,⟨58,.g (QV n4 e),[]⟩,⟨59,.g (QC ((n3 + n3) + n4) ((z * z) * e)),[4,5]⟩,⟨60,.g (QC (((n0 + n0) + ((n1 + n1) + n2) + 1) + ((n3 + n3) + n4) + 1) (((x * x) + ((y * y) * d)) - ((z * z) * e))),[1,6]⟩,⟨61,.g (QC (64 + (n0 + n1)) (2 * (x * y))),[]⟩,⟨62,.g (QV n2 d),[]⟩,⟨63,.g (IT (surdF (((x * x) + ((y * y) * d)) - ((z * z) * e)) (2 * (x * y)) d)),[7,8,9]⟩,⟨64,.g (IT (surdF x y d * surdF (x * x + y * y * d - z * z * e) (2 * (x * y)) d)),[0,10]⟩,⟨10,.g (IT (surdF x y d * surdF (x * x + y * y * d - z * z * e) (2 * (x * y)) d)),[11]⟩] mixedOrders (by kernel_rfl)
     ⟨fun a w G S=>.of rfl (OpR.mv S.ok rfl (S.g 4 rfl)),
      fun a w G S=>.of rfl (OpR.ldBox S.ok rfl (S.e 1 rfl) (S.box 1 rfl) tS_24),
      fun a w G S=>.of rfl (OpR.ldBox S.ok rfl (S.e 6 rfl) (S.box 3 rfl) tS_24),
      fun a w G S=>.of rfl (OpR.ldBox S.ok rfl (S.e 6 rfl) (S.box 3 rfl) tS_24),
      fun a w G S=>.of rfl (OpR.call2 rfl c_34 (gMul_ok S.ok (S.g 0 rfl) (S.g 1 rfl) (by omega))),
      fun a w G S=>.of rfl (OpR.ldBox S.ok rfl (S.e 5 rfl) (S.box 2 rfl) tS_24),
      fun a w G S=>.of rfl (OpR.call2 rfl c_34 (gMul_ok S.ok (QC.toQV (S.g 0 rfl)) (S.g 1 rfl) (by omega))),
      fun a w G S=>.of rfl (OpR.call2 rfl c_31 (gSub_ok S.ok (QC.toQV (S.g 0 rfl)) (QC.toQV (S.g 1 rfl)) (by omega))),
      fun a w G S=>.of rfl (OpR.ldBox S.ok rfl (S.e 0 rfl) (S.box 0 rfl) tS_24),
      fun a w G S=>.of rfl (OpR.ldBox S.ok rfl (S.e 7 rfl) (S.box 4 rfl) tS_24),
      fun a w G S=>.of rfl (OpR.call3 rfl c_57 (rSurd_ok S.ok (QC.toQV (S.g 0 rfl)) (QC.toQV (S.g 1 rfl)) (S.g 2 rfl) (by omega))),
      fun a w G S=>.of rfl (OpR.imul S.ok rfl (S.e 0 rfl) (S.e 1 rfl) (iw_i64 rfl (surd_mul_bd _ _ _ _ _ _))),
      fun a w G S=>.of rfl (OpR.asn S.ok rfl (S.g 0 rfl)),trivial⟩ fun β a w G S=>?_
    replace S : St W0 G0 65 [(10,IT (surdF x y d * surdF (x * x + y * y * d - z * z * e) (2 * (x * y)) d)),(14,PB b14),(13,PB b13),(34,BT (decide ((surdF x y d) = (z.num.sign * e.num.sign)))),(12,IT (z.num.sign * e.num.sign)),(11,IT (surdF x y d)),(9,PB b9),(8,PB b8),(7,PB b7),(6,PB b6),(5,PB b5)] [⟨b14,24,some 3,QC (64 + (n0 + n1)) (2 * (x * y))⟩,⟨b13,24,some 3,QC ((n0 + n0) + ((n1 + n1) + n2) + 1) ((x * x) + ((y * y) * d))⟩,⟨b9,24,some 3,QV n4 e⟩,⟨b8,24,some 3,QV n3 z⟩,⟨b7,24,some 3,QV n2 d⟩,⟨b6,24,some 3,QV n1 y⟩,⟨b5,24,some 3,QV n0 x⟩] a _ _:=S.keep [0,13,14,15,16,17,18,19,20,21,22]
    refine wn hK ?_;clear hK K
    exact wp_ret (S.retTmp rfl ((S.e 0 rfl).trans (iv_eq (by first | (exfalso;omega) | (unfold surdsF;first | rw [if_pos (by omega),if_pos (by omega)] | rw [if_pos (by omega),if_neg (by omega)] | rw [if_neg (by omega)])))))
theorem rsums_ok {n0 n1 n2 n3 : Nat} {x y d z : Rat} {v1 v2 v3 v4 : Value} {W0 : World} {G0 : Gh} (hok : Gok W0 G0) (h1 : (QV n0 x).t v1 G0) (h2 : (QV n1 y).t v2 G0) (h3 : (QV n2 d).t v3 G0) (h4 : (QV n3 z).t v4 G0) (hn : 20 * n0 + 20 * n1 + 20 * n2 + 20 * n3 + 5000 ≤ BIG) : Calls Tryz.prog 38 #[v1,v2,v3,v4] W0 (Ret W0 G0 (IT (sumsF x y d z))):=by
 refine St.enter (N:=30) (L:=[(3,QV n3 z),(2,QV n2 d),(1,QV n1 y),(0,QV n0 x)]) (args:=[v1,v2,v3,v4]) Tryz.func38 rfl rfl rfl hok (enter4 h1 h2 h3 h4) fun a S=>?_
 refine wp_reg fun K hK=>?_
 refine S.boxop (x:=.tmp 0) (τ:=QV n0 x) (S.g 3 rfl) (sh (τ:=QV n0 x) (S.g 3 rfl)) rfl rfl rfl rfl rfl fun b4 a w G S=>?_
 refine S.boxop (x:=.tmp 1) (τ:=QV n1 y) (S.g 3 rfl) (sh (τ:=QV n1 y) (S.g 3 rfl)) rfl rfl rfl rfl rfl fun b5 a w G S=>?_
 refine S.boxop (x:=.tmp 2) (τ:=QV n2 d) (S.g 3 rfl) (sh (τ:=QV n2 d) (S.g 3 rfl)) rfl rfl rfl rfl rfl fun b6 a w G S=>?_
 refine S.boxop (x:=.tmp 3) (τ:=QV n3 z) (S.g 3 rfl) (sh (τ:=QV n3 z) (S.g 3 rfl)) rfl rfl rfl rfl rfl fun b7 a w G S=>?_
 refine S.s (τ:=NT 0) (OpR.asn S.ok rfl (rfl : _ = nv .i64 0)) rfl fun a w G S=>?_
 refine wn hK ?_;clear hK K
 replace S:=S.d8.d7.d6.d5
 refine wp_reg fun K hK=>?_
 refine S.s (τ:=QC 64 2) (OpR.conv' (OpR.call1 rfl c_21 (gOf_ok S.ok ((rfl : _ = nv .i64 2).trans (iv_eq (by first | rfl | omega | (simp only [Nat.zero_add,Nat.add_zero];done) | (simp;done) | (push_cast;omega)))) (by omega))) fun _ _ h=>(QC.eq h (by rfl))) rfl fun a w G S=>?_
 refine S.alloc rfl rfl rfl z_24 zs_24 rfl rfl fun b9 a w G S=>?_
 refine S.store (τ:=QC 64 2) 0 rfl rfl rfl rfl (S.e 0 rfl) tS_24 (S.g 1 rfl) (sh (τ:=QC 64 2) (S.g 1 rfl)) fun w S=>?_
 replace S:=S.n0
 refine wn hK ?_;clear hK K
 replace S:=S.d1
 refine wp_seq_k fun K hK=>?_
 refine S.drawn [⟨12,.g (QV n0 x),[]⟩,⟨13,.g (QV n1 y),[]⟩,⟨14,.g (QC (n0 + n1 + 1) (x + y)),[0,1]⟩,⟨15,.g (QV n2 d),[]⟩,⟨16,.g (QV n3 z),[]⟩,⟨17,.g (QC (n2 + n3 + 1) (d + z)),[3,4]⟩,⟨18,.g (QC ((n0 + n1 + 1) + (n2 + n3 + 1) + 1) ((x + y) - (d + z))),[2,5]⟩,⟨10,.al mkP 24 (some 3) (MT.ex (.agg #[.bool false,.slice none 0 0,.slice none 0 0])),[]⟩] mixedOrders (by kernel_rfl)
  ⟨fun a w G S=>.of rfl (OpR.ldBox S.ok rfl (S.e 5 rfl) (S.box 4 rfl) tS_24),
   fun a w G S=>.of rfl (OpR.ldBox S.ok rfl (S.e 4 rfl) (S.box 3 rfl) tS_24),
   fun a w G S=>.of rfl (OpR.call2 rfl c_32 (gAdd_ok S.ok (S.g 0 rfl) (S.g 1 rfl) (by omega))),
   fun a w G S=>.of rfl (OpR.ldBox S.ok rfl (S.e 3 rfl) (S.box 2 rfl) tS_24),
   fun a w G S=>.of rfl (OpR.ldBox S.ok rfl (S.e 2 rfl) (S.box 1 rfl) tS_24),
   fun a w G S=>.of rfl (OpR.call2 rfl c_32 (gAdd_ok S.ok (S.g 0 rfl) (S.g 1 rfl) (by omega))),
   fun a w G S=>.of rfl (OpR.call2 rfl c_31 (gSub_ok S.ok (QC.toQV (S.g 0 rfl)) (QC.toQV (S.g 1 rfl)) (by omega))),
   ⟨fun _=>rfl,rfl,fun a w G S=>OpB.alloc S.ok rfl z_24 zs_24⟩,trivial⟩ fun β a w G S=>?_
 replace S : St W0 G0 30 [(10,PB (β 7)),(18,QC ((n0 + n1 + 1) + (n2 + n3 + 1) + 1) ((x + y) - (d + z))),(9,PB b9),(8,NT 0),(7,PB b7),(6,PB b6),(5,PB b5),(4,PB b4)] [⟨(β 7),24,some 3,MT.ex ((.agg #[.bool false,.slice none 0 0,.slice none 0 0] : Value))⟩,⟨b9,24,some 3,QC 64 2⟩,⟨b7,24,some 3,QV n3 z⟩,⟨b6,24,some 3,QV n2 d⟩,⟨b5,24,some 3,QV n1 y⟩,⟨b4,24,some 3,QV n0 x⟩] a _ _:=S.keep [0,1,8,9,10,11,12,13]
 generalize β 7 = b10 at S
 refine S.store (τ:=QC ((n0 + n1 + 1) + (n2 + n3 + 1) + 1) ((x + y) - (d + z))) 0 rfl rfl rfl rfl (S.e 0 rfl) tS_24 (S.g 1 rfl) (sh (τ:=QC ((n0 + n1 + 1) + (n2 + n3 + 1) + 1) ((x + y) - (d + z))) (S.g 1 rfl)) fun w S=>?_
 replace S:=S.n0
 refine wn hK ?_;clear hK K
 replace S:=S.d1
 refine wp_seq_k fun K hK=>?_
 replace S:=S.d2
 refine S.drawn [⟨19,.g (QC ((n0 + n1 + 1) + (n2 + n3 + 1) + 1) ((x + y) - (d + z))),[]⟩,⟨20,.g (QC 64 2),[]⟩,⟨21,.g (QV n0 x),[]⟩,⟨22,.g (QV n1 y),[]⟩,⟨23,.g (QC (n0 + n1) (x * y)),[2,3]⟩,⟨24,.g (QC 64 2),[]⟩,⟨25,.g (QC 64 (-2)),[5]⟩,⟨26,.g (QV n2 d),[]⟩,⟨27,.g (QV n3 z),[]⟩,⟨28,.g (QC (n2 + n3) (d * z)),[7,8]⟩,⟨29,.g (IT (surdsF ((x + y) - (d + z)) 2 (x * y) (-2) (d * z))),[0,1,4,6,9]⟩,⟨8,.g (IT (surdsF ((x + y) - (d + z)) 2 (x * y) (-2) (d * z))),[10]⟩] mixedOrders (by kernel_rfl)
  ⟨fun a w G S=>.of rfl (OpR.ldBox S.ok rfl (S.e 0 rfl) (S.box 0 rfl) tS_24),
   fun a w G S=>.of rfl (OpR.ldBox S.ok rfl (S.e 1 rfl) (S.box 1 rfl) tS_24),
   fun a w G S=>.of rfl (OpR.ldBox S.ok rfl (S.e 5 rfl) (S.box 5 rfl) tS_24),
   fun a w G S=>.of rfl (OpR.ldBox S.ok rfl (S.e 4 rfl) (S.box 4 rfl) tS_24),
   fun a w G S=>.of rfl (OpR.call2 rfl c_34 (gMul_ok S.ok (S.g 0 rfl) (S.g 1 rfl) (by omega))),
   fun a w G S=>.of rfl (OpR.ldBox S.ok rfl (S.e 1 rfl) (S.box 1 rfl) tS_24),
   fun a w G S=>.of rfl (OpR.call1 rfl c_54 (gNeg_ok S.ok (QC.toQV (S.g 0 rfl)) (by omega))),
   fun a w G S=>.of rfl (OpR.ldBox S.ok rfl (S.e 3 rfl) (S.box 3 rfl) tS_24),
   fun a w G S=>.of rfl (OpR.ldBox S.ok rfl (S.e 2 rfl) (S.box 2 rfl) tS_24),
   fun a w G S=>.of rfl (OpR.call2 rfl c_34 (gMul_ok S.ok (S.g 0 rfl) (S.g 1 rfl) (by omega))),
   fun a w G S=>.of rfl (OpR.call5 rfl c_33 (rSurds_ok S.ok (QC.toQV (S.g 0 rfl)) (QC.toQV (S.g 1 rfl)) (QC.toQV (S.g 2 rfl)) (QC.toQV (S.g 3 rfl)) (QC.toQV (S.g 4 rfl)) (by omega))),
   fun a w G S=>.of rfl (OpR.asn S.ok rfl (S.g 0 rfl)),trivial⟩ fun β a w G S=>?_
 replace S : St W0 G0 30 [(8,IT (surdsF ((x + y) - (d + z)) 2 (x * y) (-2) (d * z))),(10,PB b10),(9,PB b9),(7,PB b7),(6,PB b6),(5,PB b5),(4,PB b4)] [⟨b10,24,some 3,QC ((n0 + n1 + 1) + (n2 + n3 + 1) + 1) ((x + y) - (d + z))⟩,⟨b9,24,some 3,QC 64 2⟩,⟨b7,24,some 3,QV n3 z⟩,⟨b6,24,some 3,QV n2 d⟩,⟨b5,24,some 3,QV n1 y⟩,⟨b4,24,some 3,QV n0 x⟩] a _ _:=S.keep [0,12,13,14,15,16,17]
 refine wn hK ?_;clear hK K
 exact wp_ret (S.retTmp rfl ((S.e 0 rfl).trans (iv_eq rfl)))
end Go.Proofs.YtdeihehaheelmaaGreat
namespace Go.Proofs.YtdeihehaheelmaaGreat
set_option maxHeartbeats 1000000
set_option maxRecDepth 100000
open Go.RowKit (Below)
private theorem ap_57 : ∀ {u0 : Value} {u1 : Value} {u2 : Value} {u3 : Value} (h0 : ∃ z,u0 = Value.int .i64 z) (h1 : ∃ z,u1 = Value.int .i64 z) (h2 : ∃ z,u2 = Value.int .i64 z) (h3 : ∃ z,u3 = Value.int .i64 z),Tryz.prog.built 57 [(0,u0),(1,u1),(2,u2),(3,u3)] = some (flat [u0,u1,u2,u3]).toArray:=by
 intro u0 u1 u2 u3 h0 h1 h2 h3
 obtain ⟨z0,rfl⟩:=h0
 obtain ⟨z1,rfl⟩:=h1
 obtain ⟨z2,rfl⟩:=h2
 obtain ⟨z3,rfl⟩:=h3
 kernel_rfl
private theorem c_23 : callable Tryz.prog 23 = true:=by kernel_rfl
private theorem c_28 : callable Tryz.prog 28 = true:=by kernel_rfl
private theorem c_30 : callable Tryz.prog 30 = true:=by kernel_rfl
private theorem c_38 : callable Tryz.prog 38 = true:=by kernel_rfl
private theorem tS_26 : tyS Tryz.prog 26 (some 12) = true:=by kernel_rfl
private theorem tS_3 : tyS Tryz.prog 3 (none) = true:=by kernel_rfl
private theorem tS_49 : tyS Tryz.prog 49 (some 12) = true:=by kernel_rfl
private theorem tS_57 : tyS Tryz.prog 57 (some 4) = true:=by kernel_rfl
private theorem z_49 : (Tryz.prog.info? 49).bind (·.zero) = some (.agg #[.bool false,.slice none 0 0,.slice none 0 0,.bool false,.slice none 0 0,.slice none 0 0,.bool false,.slice none 0 0,.slice none 0 0,.bool false,.slice none 0 0,.slice none 0 0]):=by kernel_rfl
private theorem z_57 : (Tryz.prog.info? 57).bind (·.zero) = some (.agg #[.int .i64 0,.int .i64 0,.int .i64 0,.int .i64 0]):=by kernel_rfl
private theorem zs_49 : Shaped (some 12) (.agg #[.bool false,.slice none 0 0,.slice none 0 0,.bool false,.slice none 0 0,.slice none 0 0,.bool false,.slice none 0 0,.slice none 0 0,.bool false,.slice none 0 0,.slice none 0 0]):=⟨_,rfl,rfl,by simp [Value.oneCell']⟩
private theorem zs_57 : Shaped (some 4) (.agg #[.int .i64 0,.int .i64 0,.int .i64 0,.int .i64 0]):=⟨_,rfl,rfl,by simp [Value.oneCell']⟩
theorem rSorted_ok {n : Nat} {rg ra rb rc : FR} {v1 : Value} {W0 : World} {G0 : Gh} (hok : Gok W0 G0) (h1 : (PTS [(some 3,FX n rg),(some 3,FX n ra),(some 3,FX n rb),(some 3,FX n rc)]).t v1 G0) (hn : 1000 * n + 10000 ≤ BIG) (hn1 : 1 ≤ n) : Calls Tryz.prog 30 #[v1] W0 (Ret W0 G0 (ARN (none) ((orderF ([rg,ra,rb,rc].map FR.val)).map NT))):=by
 refine St.enter (N:=42) (L:=[(0,PTS [(some 3,FX n rg),(some 3,FX n ra),(some 3,FX n rb),(some 3,FX n rc)])]) (args:=[v1]) Tryz.func30 rfl rfl rfl hok (enter1 h1) fun a S=>?_
 refine wp_reg fun K hK=>?_
 refine S.boxop (x:=.tmp 0) (τ:=PTS [(some 3,FX n rg),(some 3,FX n ra),(some 3,FX n rb),(some 3,FX n rc)]) (S.g 0 rfl) (sh (τ:=PTS [(some 3,FX n rg),(some 3,FX n ra),(some 3,FX n rb),(some 3,FX n rc)]) (S.g 0 rfl)) rfl rfl rfl rfl rfl fun b1 a w G S=>?_
 refine S.alloc rfl rfl rfl z_57 zs_57 rfl rfl fun b2 a w G S=>?_
 refine wn hK ?_;clear hK K
 replace S:=S.d2
 refine wp_reg fun K hK=>?_
 refine S.s (OpR.ldBox S.ok rfl (S.e 1 rfl) (S.box 1 rfl) tS_26) rfl fun a w G S=>?_
 refine S.s (τ:=ARN (some 3) (([rg,ra,rb,rc]).map (FX n))) (OpR.call1 rfl c_23 (rSquares_ok S.ok (S.g 0 rfl))) rfl fun a w G S=>?_
 refine S.s (τ:=ARN (none) (([0,1,2,3]).map NT)) (OpR.conv' (OpR.bldP (us:=[Value.int .i64 (0),Value.int .i64 (1),Value.int .i64 (2),Value.int .i64 (3)]) (fs:=(List.map NT [0,1,2,3]).map fun τ=>(none,τ)) S.ok rfl (by simp only [List.map_toArray,List.map_cons,List.map_nil];exact ap_57 (u0:=Value.int .i64 (0)) (u1:=Value.int .i64 (1)) (u2:=Value.int .i64 (2)) (u3:=Value.int .i64 (3)) ⟨_,(rfl : _ = nv .i64 0)⟩ ⟨_,(rfl : _ = nv .i64 1)⟩ ⟨_,(rfl : _ = nv .i64 2)⟩ ⟨_,(rfl : _ = nv .i64 3)⟩) rfl (pts_cons (sh (τ:=NT 0) (G:=fun _=>none) (rfl : _ = nv .i64 0)) (rfl : _ = nv .i64 0) (pts_cons (sh (τ:=NT 1) (G:=fun _=>none) (rfl : _ = nv .i64 1)) (rfl : _ = nv .i64 1) (pts_cons (sh (τ:=NT 2) (G:=fun _=>none) (rfl : _ = nv .i64 2)) (rfl : _ = nv .i64 2) (pts_cons (sh (τ:=NT 3) (G:=fun _=>none) (rfl : _ = nv .i64 3)) (rfl : _ = nv .i64 3) pts_nil))))) fun _ _ h=>PTS.arn h) rfl fun a w G S=>?_
 refine S.alloc rfl rfl rfl z_49 zs_49 rfl rfl fun b3 a w G S=>?_
 refine S.alloc rfl rfl rfl z_57 zs_57 rfl rfl fun b4 a w G S=>?_
 refine S.store (τ:=ARN (some 3) (([rg,ra,rb,rc]).map (FX n))) 1 rfl rfl rfl rfl (S.e 1 rfl) tS_49 (S.g 3 rfl) (sh (τ:=ARN (some 3) (([rg,ra,rb,rc]).map (FX n))) (S.g 3 rfl)) fun w S=>?_
 replace S:=S.n1
 replace S:=(S.castBox (τ':=ROWS (some 3) (([rg,ra,rb,rc]).map (FX n))) 1 rfl fun _ h _=>ARN.rows h).n1
 refine S.store (τ:=ARN (none) (([0,1,2,3]).map NT)) 0 rfl rfl rfl rfl (S.e 0 rfl) tS_57 (S.g 2 rfl) (sh (τ:=ARN (none) (([0,1,2,3]).map NT)) (S.g 2 rfl)) fun w S=>?_
 replace S:=S.n0
 replace S:=(S.castBox (τ':=ROWS (none) (([0,1,2,3]).map NT)) 0 rfl fun _ h _=>ARN.rows h).n0
 refine wn hK ?_;clear hK K
 replace S:=S.d6.d4.d3.d2
 refine wp_seq_k fun K hK=>?_
 refine wp_reg fun K hK=>?_
 refine S.s (τ:=NT 0) (OpR.mv S.ok rfl (rfl : _ = nv .i64 0)) rfl fun a w G S=>?_
 refine wn hK ?_;clear hK K
 refine wp_block ?_
 replace S:=S.castBox (τ':=ROWS (none) ((bub ([rg,ra,rb,rc].map FR.val) 0).map NT)) 0 rfl fun _ h _=>(ROWS.eqM h rfl)
 replace S:=S.n0
 refine wp_loopJ (fun μ a w=>∃ (p : Nat) (G : Gh),μ = 4 - p ∧ (p ≤ 4) ∧  St W0 G0 42 [(9,NT p),(4,PB b4),(3,PB b3),(2,PB b2)] [⟨b4,57,some 4,ROWS (none) ((bub ([rg,ra,rb,rc].map FR.val) p).map NT)⟩,⟨b3,49,some 12,ROWS (some 3) (([rg,ra,rb,rc]).map (FX n))⟩,⟨b2,57,some 4,MT.ex ((.agg #[.int .i64 0,.int .i64 0,.int .i64 0,.int .i64 0] : Value))⟩,⟨b1,26,some 12,PTS [(some 3,FX n rg),(some 3,FX n ra),(some 3,FX n rb),(some 3,FX n rc)]⟩] a w G) (4 - 0) ⟨0,_,rfl,(by omega),(S.keep [0,1,2,3]).keepB [0,1,2,3] (by decide)⟩ ?_
 clear S
 intro μ a w ⟨p,G,hm,hp,S⟩
 refine wp_reg fun K hK=>?_
 refine S.s (OpR.nlss S.ok rfl (S.e 0 rfl) (rfl : _ = nv .i64 4) MT.self) rfl fun a w G S=>?_
 refine wn hK ?_;clear hK K
 refine wp_seq_k fun K hK=>?_
 refine S.cond 0 rfl (fun hc1=>?_) (fun hc1=>?_)
 ·
  have hp2:=of_decide_eq_true hc1
  refine wp_skip ?_
  refine hK _ _ ?_;clear hK K
  refine wp_seq_k fun K hK=>?_
  refine wp_block ?_
  refine wp_reg fun K hK=>?_
  refine S.s (τ:=NT 0) (OpR.mv S.ok rfl (rfl : _ = nv .i64 0)) rfl fun a w G S=>?_
  refine wn hK ?_;clear hK K
  refine wp_block ?_
  replace S:=S.castBox (τ':=ROWS (none) ((bubP ([rg,ra,rb,rc].map FR.val) (bub ([rg,ra,rb,rc].map FR.val) p) 0).map NT)) 0 rfl fun _ h _=>(ROWS.eqM h rfl)
  replace S:=S.n0
  refine wp_loopJ (fun μ a w=>∃ (j : Nat) (G : Gh),μ = 3 - j ∧ (j ≤ 3) ∧  St W0 G0 42 [(11,NT j),(10,BT (decide (p < 4))),(9,NT p),(4,PB b4),(3,PB b3),(2,PB b2)] [⟨b4,57,some 4,ROWS (none) ((bubP ([rg,ra,rb,rc].map FR.val) (bub ([rg,ra,rb,rc].map FR.val) p) j).map NT)⟩,⟨b3,49,some 12,ROWS (some 3) (([rg,ra,rb,rc]).map (FX n))⟩,⟨b2,57,some 4,MT.ex ((.agg #[.int .i64 0,.int .i64 0,.int .i64 0,.int .i64 0] : Value))⟩,⟨b1,26,some 12,PTS [(some 3,FX n rg),(some 3,FX n ra),(some 3,FX n rb),(some 3,FX n rc)]⟩] a w G) (3 - 0) ⟨0,_,rfl,(by omega),(S.keep [0,1,2,3,4,5]).keepB [0,1,2,3] (by decide)⟩ ?_
  clear S
  intro μ a w ⟨j,G,hm,hj,S⟩
  have hql : (bubP ([rg,ra,rb,rc].map FR.val) (bub ([rg,ra,rb,rc].map FR.val) p) j).length = 4:=bubP_len (bub_len p) j
  have hq1 : (bubP ([rg,ra,rb,rc].map FR.val) (bub ([rg,ra,rb,rc].map FR.val) p) j).getD j default < 4:=getD_lt (bubP_lt (bub_len p) (bub_lt p) j hj) (by decide)
  have hq2 : (bubP ([rg,ra,rb,rc].map FR.val) (bub ([rg,ra,rb,rc].map FR.val) p) j).getD (j + 1) default < 4:=getD_lt (bubP_lt (bub_len p) (bub_lt p) j hj) (by decide)
  refine wp_reg fun K hK=>?_
  refine S.s (OpR.nlss S.ok rfl (S.e 0 rfl) (rfl : _ = nv .i64 3) MT.self) rfl fun a w G S=>?_
  refine wn hK ?_;clear hK K
  refine wp_seq_k fun K hK=>?_
  refine S.cond 0 rfl (fun hc3=>?_) (fun hc3=>?_)
  ·
   have hp4:=of_decide_eq_true hc3
   refine wp_skip ?_
   refine hK _ _ ?_;clear hK K
   refine wp_seq_k fun K hK=>?_
   refine wp_block ?_
   refine wp_reg fun K hK=>?_
   refine S.m rfl (S.g 1 rfl) rfl fun a w G S=>?_
   refine S.q rfl (S.g 0 rfl) rfl fun a w G S=>?_
   refine wn hK ?_;clear hK K
   replace S:=S.d1
   refine wp_seq_k fun K hK=>?_
   refine S.drawn [⟨14,.g (NT j),[]⟩,⟨15,.g (MT.ex (Value.pointer (some ⟨b4,(j) * (none : Option Nat).getD 1,none⟩))),[0]⟩,⟨16,.g (NT ((bubP ([rg,ra,rb,rc].map FR.val) (bub ([rg,ra,rb,rc].map FR.val) p) j).getD j default)),[1]⟩,⟨17,.g (MT.ex (Value.pointer (some ⟨b3,((bubP ([rg,ra,rb,rc].map FR.val) (bub ([rg,ra,rb,rc].map FR.val) p) j).getD j default) * (some 3 : Option Nat).getD 1,none⟩))),[2]⟩,⟨18,.g (FX n (([rg,ra,rb,rc]).getD ((bubP ([rg,ra,rb,rc].map FR.val) (bub ([rg,ra,rb,rc].map FR.val) p) j).getD j default) default)),[3]⟩,⟨19,.g (NT j),[]⟩,⟨20,.g (NT (j + 1)),[5]⟩,⟨21,.g (MT.ex (Value.pointer (some ⟨b4,(j + 1) * (none : Option Nat).getD 1,none⟩))),[6]⟩,⟨22,.g (NT ((bubP ([rg,ra,rb,rc].map FR.val) (bub ([rg,ra,rb,rc].map FR.val) p) j).getD (j + 1) default)),[7]⟩,⟨23,.g (MT.ex (Value.pointer (some ⟨b3,((bubP ([rg,ra,rb,rc].map FR.val) (bub ([rg,ra,rb,rc].map FR.val) p) j).getD (j + 1) default) * (some 3 : Option Nat).getD 1,none⟩))),[8]⟩,⟨24,.g (FX n (([rg,ra,rb,rc]).getD ((bubP ([rg,ra,rb,rc].map FR.val) (bub ([rg,ra,rb,rc].map FR.val) p) j).getD (j + 1) default) default)),[9]⟩,⟨25,.g (IT (cmpQ ((([rg,ra,rb,rc]).getD ((bubP ([rg,ra,rb,rc].map FR.val) (bub ([rg,ra,rb,rc].map FR.val) p) j).getD j default) default).val) ((([rg,ra,rb,rc]).getD ((bubP ([rg,ra,rb,rc].map FR.val) (bub ([rg,ra,rb,rc].map FR.val) p) j).getD (j + 1) default) default).val))),[4,10]⟩,⟨26,.g (BT (decide (cmpQ (([rg,ra,rb,rc].map FR.val).getD ((bubP ([rg,ra,rb,rc].map FR.val) (bub ([rg,ra,rb,rc].map FR.val) p) j).getD j default) default) (([rg,ra,rb,rc].map FR.val).getD ((bubP ([rg,ra,rb,rc].map FR.val) (bub ([rg,ra,rb,rc].map FR.val) p) j).getD (j + 1) default) default) > 0))),[11]⟩] mixedOrders (by kernel_rfl)
    ⟨fun a w G S=>.of rfl (OpR.mv S.ok rfl (S.g 0 rfl)),
     fun a w G S=>.of rfl (OpR.ixAr (i:=j) S.ok rfl Tryz.underlying57 tS_3 (S.e 6 rfl) (S.e 0 rfl) rfl (by first | omega | (rw [hql];omega) | (simp only [List.length_set,hql];omega)) rfl),
     fun a w G S=>.of rfl (OpR.ldSM (k:=none) (T:=NT) (xs:=bubP ([rg,ra,rb,rc].map FR.val) (bub ([rg,ra,rb,rc].map FR.val) p) j) (i:=j) S.ok rfl (S.e 0 rfl) (S.box 0 rfl) tS_3 (by first | omega | (rw [hql];omega) | (simp only [List.length_set,hql];omega))),
     fun a w G S=>.of rfl (OpR.ixAr (i:=(bubP ([rg,ra,rb,rc].map FR.val) (bub ([rg,ra,rb,rc].map FR.val) p) j).getD j default) S.ok rfl Tryz.underlying49 tS_24 (S.e 7 rfl) (S.e 0 rfl) rfl (by first | omega | (rw [hql];omega) | (simp only [List.length_set,hql];omega)) rfl),
     fun a w G S=>.of rfl (OpR.ldSM (k:=some 3) (T:=(FX n)) (xs:=[rg,ra,rb,rc]) (i:=(bubP ([rg,ra,rb,rc].map FR.val) (bub ([rg,ra,rb,rc].map FR.val) p) j).getD j default) S.ok rfl (S.e 0 rfl) (S.box 1 rfl) tS_24 (by first | omega | (rw [hql];omega) | (simp only [List.length_set,hql];omega))),
     fun a w G S=>.of rfl (OpR.mv S.ok rfl (S.g 0 rfl)),
     fun a w G S=>.of rfl (OpR.nadd S.ok rfl (S.e 0 rfl) (rfl : _ = nv .i64 1) (wr_i64 (by omega)) MT.self),
     fun a w G S=>.of rfl (OpR.ixAr (i:=j + 1) S.ok rfl Tryz.underlying57 tS_3 (S.e 6 rfl) (S.e 0 rfl) rfl (by first | omega | (rw [hql];omega) | (simp only [List.length_set,hql];omega)) rfl),
     fun a w G S=>.of rfl (OpR.ldSM (k:=none) (T:=NT) (xs:=bubP ([rg,ra,rb,rc].map FR.val) (bub ([rg,ra,rb,rc].map FR.val) p) j) (i:=j + 1) S.ok rfl (S.e 0 rfl) (S.box 0 rfl) tS_3 (by first | omega | (rw [hql];omega) | (simp only [List.length_set,hql];omega))),
     fun a w G S=>.of rfl (OpR.ixAr (i:=(bubP ([rg,ra,rb,rc].map FR.val) (bub ([rg,ra,rb,rc].map FR.val) p) j).getD (j + 1) default) S.ok rfl Tryz.underlying49 tS_24 (S.e 7 rfl) (S.e 0 rfl) rfl (by first | omega | (rw [hql];omega) | (simp only [List.length_set,hql];omega)) rfl),
     fun a w G S=>.of rfl (OpR.ldSM (k:=some 3) (T:=(FX n)) (xs:=[rg,ra,rb,rc]) (i:=(bubP ([rg,ra,rb,rc].map FR.val) (bub ([rg,ra,rb,rc].map FR.val) p) j).getD (j + 1) default) S.ok rfl (S.e 0 rfl) (S.box 1 rfl) tS_24 (by first | omega | (rw [hql];omega) | (simp only [List.length_set,hql];omega))),
     fun a w G S=>.of rfl (OpR.call2 rfl c_44 (gCmp_ok S.ok (FX.toQV (S.g 0 rfl)) (FX.toQV (S.g 1 rfl)) (by omega))),
     fun a w G S=>.of rfl (OpR.igtr S.ok rfl (S.e 0 rfl) (rfl : _ = nv .i64 0) (bv_eq (by rw [vgetD,vgetD];rfl))),trivial⟩ fun β a w G S=>?_
   replace S : St W0 G0 42 [(26,BT (decide (cmpQ (([rg,ra,rb,rc].map FR.val).getD ((bubP ([rg,ra,rb,rc].map FR.val) (bub ([rg,ra,rb,rc].map FR.val) p) j).getD j default) default) (([rg,ra,rb,rc].map FR.val).getD ((bubP ([rg,ra,rb,rc].map FR.val) (bub ([rg,ra,rb,rc].map FR.val) p) j).getD (j + 1) default) default) > 0))),(5,NT j),(12,BT (decide (j < 3))),(11,NT j),(10,BT (decide (p < 4))),(9,NT p),(4,PB b4),(3,PB b3),(2,PB b2)] [⟨b4,57,some 4,ROWS (none) ((bubP ([rg,ra,rb,rc].map FR.val) (bub ([rg,ra,rb,rc].map FR.val) p) j).map NT)⟩,⟨b3,49,some 12,ROWS (some 3) (([rg,ra,rb,rc]).map (FX n))⟩,⟨b2,57,some 4,MT.ex ((.agg #[.int .i64 0,.int .i64 0,.int .i64 0,.int .i64 0] : Value))⟩,⟨b1,26,some 12,PTS [(some 3,FX n rg),(some 3,FX n ra),(some 3,FX n rb),(some 3,FX n rc)]⟩] a _ _:=S.keep [0,13,14,15,16,17,18,19,20]
   refine wn hK ?_;clear hK K
   refine S.cond 0 rfl (fun hc5=>?_) (fun hc5=>?_)
   ·
    have hp6:=of_decide_eq_true hc5
    refine S.drawnS [⟨27,.g (NT j),[]⟩,⟨28,.g (NT j),[]⟩,⟨29,.g (NT (j + 1)),[1]⟩,⟨30,.g (NT j),[]⟩,⟨31,.g (NT (j + 1)),[3]⟩,⟨32,.g (MT.ex (Value.pointer (some ⟨b4,(j + 1) * (none : Option Nat).getD 1,none⟩))),[4]⟩,⟨33,.g (NT ((bubP ([rg,ra,rb,rc].map FR.val) (bub ([rg,ra,rb,rc].map FR.val) p) j).getD (j + 1) default)),[5]⟩,⟨34,.g (NT j),[]⟩,⟨35,.g (MT.ex (Value.pointer (some ⟨b4,(j) * (none : Option Nat).getD 1,none⟩))),[7]⟩,⟨36,.g (NT ((bubP ([rg,ra,rb,rc].map FR.val) (bub ([rg,ra,rb,rc].map FR.val) p) j).getD j default)),[8]⟩,⟨37,.g (MT.ex (Value.pointer (some ⟨b4,(j) * (none : Option Nat).getD 1,none⟩))),[0]⟩,⟨9998,.st 0 (ROWS (none) (((bubP ([rg,ra,rb,rc].map FR.val) (bub ([rg,ra,rb,rc].map FR.val) p) j).set (j) ((bubP ([rg,ra,rb,rc].map FR.val) (bub ([rg,ra,rb,rc].map FR.val) p) j).getD (j + 1) default)).map NT)),[10,6]⟩,⟨38,.g (MT.ex (Value.pointer (some ⟨b4,(j + 1) * (none : Option Nat).getD 1,none⟩))),[2]⟩] mixedOrders (by kernel_rfl)
     ⟨⟨rfl,fun a w G S=>.of rfl (OpR.mv S.ok rfl (S.g 1 rfl))⟩,
      ⟨rfl,fun a w G S=>.of rfl (OpR.mv S.ok rfl (S.g 1 rfl))⟩,
      ⟨rfl,fun a w G S=>.of rfl (OpR.nadd S.ok rfl (S.e 0 rfl) (rfl : _ = nv .i64 1) (wr_i64 (by omega)) MT.self)⟩,
      ⟨rfl,fun a w G S=>.of rfl (OpR.mv S.ok rfl (S.g 1 rfl))⟩,
      ⟨rfl,fun a w G S=>.of rfl (OpR.nadd S.ok rfl (S.e 0 rfl) (rfl : _ = nv .i64 1) (wr_i64 (by omega)) MT.self)⟩,
      ⟨rfl,fun a w G S=>.of rfl (OpR.ixAr (i:=j + 1) S.ok rfl Tryz.underlying57 tS_3 (S.e 7 rfl) (S.e 0 rfl) rfl (by first | omega | (rw [hql];omega) | (simp only [List.length_set,hql];omega)) rfl)⟩,
      ⟨rfl,fun a w G S=>have S:=S.boxes (B':=[⟨b4,57,some 4,ROWS (none) ((bubP ([rg,ra,rb,rc].map FR.val) (bub ([rg,ra,rb,rc].map FR.val) p) j).map NT)⟩,⟨b3,49,some 12,ROWS (some 3) (([rg,ra,rb,rc]).map (FX n))⟩,⟨b2,57,some 4,MT.ex ((.agg #[.int .i64 0,.int .i64 0,.int .i64 0,.int .i64 0] : Value))⟩,⟨b1,26,some 12,PTS [(some 3,FX n rg),(some 3,FX n ra),(some 3,FX n rb),(some 3,FX n rc)]⟩]) (by kernel_rfl);OpG.of rfl (OpR.ldSM (k:=none) (T:=NT) (xs:=bubP ([rg,ra,rb,rc].map FR.val) (bub ([rg,ra,rb,rc].map FR.val) p) j) (i:=j + 1) S.ok rfl (S.e 0 rfl) (S.box 0 rfl) tS_3 (by first | omega | (rw [hql];omega) | (simp only [List.length_set,hql];omega)))⟩,
      ⟨rfl,fun a w G S=>.of rfl (OpR.mv S.ok rfl (S.g 1 rfl))⟩,
      ⟨rfl,fun a w G S=>.of rfl (OpR.ixAr (i:=j) S.ok rfl Tryz.underlying57 tS_3 (S.e 7 rfl) (S.e 0 rfl) rfl (by first | omega | (rw [hql];omega) | (simp only [List.length_set,hql];omega)) rfl)⟩,
      ⟨rfl,fun a w G S=>have S:=S.boxes (B':=[⟨b4,57,some 4,ROWS (none) ((bubP ([rg,ra,rb,rc].map FR.val) (bub ([rg,ra,rb,rc].map FR.val) p) j).map NT)⟩,⟨b3,49,some 12,ROWS (some 3) (([rg,ra,rb,rc]).map (FX n))⟩,⟨b2,57,some 4,MT.ex ((.agg #[.int .i64 0,.int .i64 0,.int .i64 0,.int .i64 0] : Value))⟩,⟨b1,26,some 12,PTS [(some 3,FX n rg),(some 3,FX n ra),(some 3,FX n rb),(some 3,FX n rc)]⟩]) (by kernel_rfl);OpG.of rfl (OpR.ldSM (k:=none) (T:=NT) (xs:=bubP ([rg,ra,rb,rc].map FR.val) (bub ([rg,ra,rb,rc].map FR.val) p) j) (i:=j) S.ok rfl (S.e 0 rfl) (S.box 0 rfl) tS_3 (by first | omega | (rw [hql];omega) | (simp only [List.length_set,hql];omega)))⟩,
      ⟨rfl,fun a w G S=>.of rfl (OpR.ixAr (i:=j) S.ok rfl Tryz.underlying57 tS_3 (S.e 7 rfl) (S.e 0 rfl) rfl (by first | omega | (rw [hql];omega) | (simp only [List.length_set,hql];omega)) rfl)⟩,
      ⟨rfl,rfl,rfl,.inr ⟨by simp only [List.length_cons,List.length_nil];omega,_,rfl,fun a w G v0 S hv hs h0=>elem_storeS (k:=none) (T:=NT) (z:=(bubP ([rg,ra,rb,rc].map FR.val) (bub ([rg,ra,rb,rc].map FR.val) p) j).getD (j + 1) default) (i:=j) rfl rfl (S.e 0 rfl) tS_3 (S.g 1 rfl) (sh (τ:=NT ((bubP ([rg,ra,rb,rc].map FR.val) (bub ([rg,ra,rb,rc].map FR.val) p) j).getD (j + 1) default)) (S.g 1 rfl)) (by first | omega | (rw [hql];omega) | (simp only [List.length_set,hql];omega)) hv hs h0⟩⟩,
      ⟨rfl,fun a w G S=>.of rfl (OpR.ixAr (i:=j + 1) S.ok rfl Tryz.underlying57 tS_3 (S.e 7 rfl) (S.e 0 rfl) rfl (by first | omega | (rw [hql];omega) | (simp only [List.length_set,hql];omega)) rfl)⟩,trivial⟩ fun β a w G S=>?_
    replace S : St W0 G0 42 [(38,MT.ex (Value.pointer (some ⟨b4,(j + 1) * (none : Option Nat).getD 1,none⟩))),(36,NT ((bubP ([rg,ra,rb,rc].map FR.val) (bub ([rg,ra,rb,rc].map FR.val) p) j).getD j default)),(26,BT (decide (cmpQ (([rg,ra,rb,rc].map FR.val).getD ((bubP ([rg,ra,rb,rc].map FR.val) (bub ([rg,ra,rb,rc].map FR.val) p) j).getD j default) default) (([rg,ra,rb,rc].map FR.val).getD ((bubP ([rg,ra,rb,rc].map FR.val) (bub ([rg,ra,rb,rc].map FR.val) p) j).getD (j + 1) default) default) > 0))),(5,NT j),(12,BT (decide (j < 3))),(11,NT j),(10,BT (decide (p < 4))),(9,NT p),(4,PB b4),(3,PB b3),(2,PB b2)] [⟨b4,57,some 4,ROWS (none) (((bubP ([rg,ra,rb,rc].map FR.val) (bub ([rg,ra,rb,rc].map FR.val) p) j).set (j) ((bubP ([rg,ra,rb,rc].map FR.val) (bub ([rg,ra,rb,rc].map FR.val) p) j).getD (j + 1) default)).map NT)⟩,⟨b3,49,some 12,ROWS (some 3) (([rg,ra,rb,rc]).map (FX n))⟩,⟨b2,57,some 4,MT.ex ((.agg #[.int .i64 0,.int .i64 0,.int .i64 0,.int .i64 0] : Value))⟩,⟨b1,26,some 12,PTS [(some 3,FX n rg),(some 3,FX n ra),(some 3,FX n rb),(some 3,FX n rc)]⟩] a _ _:=S.keep [0,2,12,13,14,15,16,17,18,19,20]
    refine S.setSM (k:=none) (T:=NT) (z:=(bubP ([rg,ra,rb,rc].map FR.val) (bub ([rg,ra,rb,rc].map FR.val) p) j).getD j default) (i:=j + 1) 0 rfl rfl rfl rfl (S.e 0 rfl) tS_3 (S.g 1 rfl) (sh (τ:=NT ((bubP ([rg,ra,rb,rc].map FR.val) (bub ([rg,ra,rb,rc].map FR.val) p) j).getD j default)) (S.g 1 rfl)) (by first | omega | (rw [hql];omega) | (simp only [List.length_set,hql];omega)) fun w S=>?_
    replace S:=S.n0
    refine wpList_nil ?_
    replace S:=S.d1.d0
    refine hK _ _ ?_;clear hK K
    refine wp_region_lit ?_
    refine S.s (OpR.nadd S.ok rfl (S.e 3 rfl) (rfl : _ = nv .i64 1) (wr_i64 (by omega)) MT.self) rfl fun a w G S=>?_
    replace S:=S.d4
    refine S.m rfl (S.g 0 rfl) rfl fun a w G S=>?_
    refine wpList_nil ?_
    replace S:=S.d1
    replace S:=S.castBox (τ':=ROWS (none) ((bubP ([rg,ra,rb,rc].map FR.val) (bub ([rg,ra,rb,rc].map FR.val) p) (j + 1)).map NT)) 0 rfl fun _ h _=>(ROWS.eqM h (by first | exact bub_t ‹_› | exact bub_f ‹_›))
    replace S:=S.n0
    exact ⟨3 - (j + 1),(by omega),j + 1,_,rfl,(by omega),(S.keep [0,4,5,6,7,8]).keepB [0,1,2,3] (by decide)⟩
   ·
    have hp7:=of_decide_eq_false hc5
    refine wp_skip ?_
    refine hK _ _ ?_;clear hK K
    refine wp_region_lit ?_
    refine S.s (OpR.nadd S.ok rfl (S.e 3 rfl) (rfl : _ = nv .i64 1) (wr_i64 (by omega)) MT.self) rfl fun a w G S=>?_
    replace S:=S.d4
    refine S.m rfl (S.g 0 rfl) rfl fun a w G S=>?_
    refine wpList_nil ?_
    replace S:=S.d1
    replace S:=S.castBox (τ':=ROWS (none) ((bubP ([rg,ra,rb,rc].map FR.val) (bub ([rg,ra,rb,rc].map FR.val) p) (j + 1)).map NT)) 0 rfl fun _ h _=>(ROWS.eqM h (by first | exact bub_t ‹_› | exact bub_f ‹_›))
    replace S:=S.n0
    exact ⟨3 - (j + 1),(by omega),j + 1,_,rfl,(by omega),(S.keep [0,4,5,6,7,8]).keepB [0,1,2,3] (by decide)⟩
  ·
   have hp8:=of_decide_eq_false hc3
   refine wp_exit (then_exit (then_exit (exit_same ?_)))
   clear hK K
   refine hK _ _ ?_;clear hK K
   refine wp_region_lit ?_
   refine S.s (OpR.nadd S.ok rfl (S.e 3 rfl) (rfl : _ = nv .i64 1) (wr_i64 (by omega)) MT.self) rfl fun a w G S=>?_
   replace S:=S.d4
   refine S.m rfl (S.g 0 rfl) rfl fun a w G S=>?_
   refine wpList_nil ?_
   replace S:=S.d1
   replace S:=S.castBox (τ':=ROWS (none) ((bub ([rg,ra,rb,rc].map FR.val) (p + 1)).map NT)) 0 rfl fun _ h _=>(ROWS.eqM h (bubP_n ‹_› hj p))
   replace S:=S.n0
   exact ⟨4 - (p + 1),(by omega),p + 1,_,rfl,(by omega),(S.keep [0,4,5,6]).keepB [0,1,2,3] (by decide)⟩
 ·
  have hp9:=of_decide_eq_false hc1
  refine wp_exit (then_exit (then_exit (exit_same ?_)))
  clear hK K
  refine hK _ _ ?_;clear hK K
  refine wp_reg fun K hK=>?_
  refine S.s (OpR.ldArr S.ok rfl (S.e 2 rfl) (S.box 0 rfl) tS_57 (by simp only [List.length_map,bub_len,orderF_len];rfl)) rfl fun a w G S=>?_
  refine S.store (τ:=ARN (none) ((bub ([rg,ra,rb,rc].map FR.val) p).map NT)) 2 rfl rfl rfl rfl (S.e 5 rfl) tS_57 (S.g 0 rfl) (ARN.shN (S.g 0 rfl) (by simp only [List.length_map,bub_len,orderF_len];rfl)) fun w S=>?_
  replace S:=S.n2
  replace S:=(S.castBox (τ':=ROWS (none) ((bub ([rg,ra,rb,rc].map FR.val) p).map NT)) 2 rfl fun _ h _=>ARN.rows h).n2
  refine wn hK ?_;clear hK K
  replace S:=S.d0
  replace S:=(S.castBox (τ':=ARN (none) ((bub ([rg,ra,rb,rc].map FR.val) p).map NT)) 2 rfl fun _ h hs=>ROWS.arn h hs (by simp only [List.length_map,bub_len,orderF_len];rfl)).n2
  exact wp_ret (S.retCell (i:=2) rfl (S.e 4 rfl) rfl tS_57 (fun _ h=>(ARN.eqM h (by rw [show p = 4 by omega];exact bub_ok _))))
theorem rCheck_ok {n : Nat} {rg ra rb rc : FR} {v1 : Value} {W0 : World} {G0 : Gh} (hok : Gok W0 G0) (h1 : (PTS [(some 3,FX n rg),(some 3,FX n ra),(some 3,FX n rb),(some 3,FX n rc)]).t v1 G0) (hn : 1000 * n + 10000 ≤ BIG) (hn1 : 1 ≤ n) : Calls Tryz.prog 9 #[v1] W0 (Ret W0 G0 (IT (chkF [rg,ra,rb,rc]))):=by
 refine St.enter (N:=65) (L:=[(0,PTS [(some 3,FX n rg),(some 3,FX n ra),(some 3,FX n rb),(some 3,FX n rc)])]) (args:=[v1]) Tryz.func9 rfl rfl rfl hok (enter1 h1) fun a S=>?_
 refine wp_reg fun K hK=>?_
 refine S.boxop (x:=.tmp 0) (τ:=PTS [(some 3,FX n rg),(some 3,FX n ra),(some 3,FX n rb),(some 3,FX n rc)]) (S.g 0 rfl) (sh (τ:=PTS [(some 3,FX n rg),(some 3,FX n ra),(some 3,FX n rb),(some 3,FX n rc)]) (S.g 0 rfl)) rfl rfl rfl rfl rfl fun b1 a w G S=>?_
 refine S.s (τ:=NT 0) (OpR.asn S.ok rfl (rfl : _ = nv .i64 0)) rfl fun a w G S=>?_
 refine wn hK ?_;clear hK K
 replace S:=S.d2
 refine wp_reg fun K hK=>?_
 refine S.s (OpR.ldBox S.ok rfl (S.e 1 rfl) (S.box 0 rfl) tS_26) rfl fun a w G S=>?_
 refine S.s (τ:=ARN (some 3) (([rg,ra,rb,rc]).map (FX n))) (OpR.call1 rfl c_23 (rSquares_ok S.ok (S.g 0 rfl))) rfl fun a w G S=>?_
 refine S.alloc rfl rfl rfl z_49 zs_49 rfl rfl fun b3 a w G S=>?_
 refine S.store (τ:=ARN (some 3) (([rg,ra,rb,rc]).map (FX n))) 0 rfl rfl rfl rfl (S.e 0 rfl) tS_49 (S.g 1 rfl) (sh (τ:=ARN (some 3) (([rg,ra,rb,rc]).map (FX n))) (S.g 1 rfl)) fun w S=>?_
 replace S:=S.n0
 replace S:=(S.castBox (τ':=ROWS (some 3) (([rg,ra,rb,rc]).map (FX n))) 0 rfl fun _ h _=>ARN.rows h).n0
 refine wn hK ?_;clear hK K
 replace S:=S.d2.d1
 refine wp_seq_k fun K hK=>?_
 refine wp_reg fun K hK=>?_
 refine S.s (OpR.ldArr S.ok rfl (S.e 0 rfl) (S.box 0 rfl) tS_49 (by simp only [List.length_map,bub_len,orderF_len];rfl)) rfl fun a w G S=>?_
 refine S.s (τ:=NT 0) (OpR.mv S.ok rfl (rfl : _ = nv .i64 0)) rfl fun a w G S=>?_
 refine wn hK ?_;clear hK K
 refine wp_block ?_
 refine wp_loopJ (fun μ a w=>∃ (i : Nat) (G : Gh),μ = 4 - i ∧ (i ≤ 4) ∧ (([rg,ra,rb,rc].take i).all posR = true) ∧  St W0 G0 65 [(16,NT i),(15,ARN (some 3) (([rg,ra,rb,rc]).map (FX n))),(3,PB b3),(2,NT 0),(1,PB b1)] [⟨b3,49,some 12,ROWS (some 3) (([rg,ra,rb,rc]).map (FX n))⟩,⟨b1,26,some 12,PTS [(some 3,FX n rg),(some 3,FX n ra),(some 3,FX n rb),(some 3,FX n rc)]⟩] a w G) (4 - 0) ⟨0,_,rfl,(by omega),rfl,(S.keep [0,1,2,3,4]).keepB [0,1] (by decide)⟩ ?_
 clear S
 intro μ a w ⟨i,G,hm,hi,hg,S⟩
 refine wp_reg fun K hK=>?_
 refine S.s (OpR.nlss S.ok rfl (S.e 0 rfl) (rfl : _ = nv .i64 4) MT.self) rfl fun a w G S=>?_
 refine wn hK ?_;clear hK K
 refine wp_seq_k fun K hK=>?_
 refine S.cond 0 rfl (fun hc1=>?_) (fun hc1=>?_)
 ·
  have hp2:=of_decide_eq_true hc1
  refine wp_skip ?_
  refine hK _ _ ?_;clear hK K
  refine wp_seq_k fun K hK=>?_
  refine wp_block ?_
  refine wp_reg fun K hK=>?_
  refine S.s (τ:=FX n (([rg,ra,rb,rc]).getD i default)) (OpR.ixV (T:=(FX n)) (xs:=[rg,ra,rb,rc]) (i:=i) S.ok rfl Tryz.underlying49 tS_24 (S.g 2 rfl) (S.e 1 rfl) rfl rfl (by first | omega | (simp;omega))) rfl fun a w G S=>?_
  refine S.alloc rfl rfl rfl z_24 zs_24 rfl rfl fun b5 a w G S=>?_
  refine S.store (τ:=FX n (([rg,ra,rb,rc]).getD i default)) 0 rfl rfl rfl rfl (S.e 0 rfl) tS_24 (S.g 1 rfl) (sh (τ:=FX n (([rg,ra,rb,rc]).getD i default)) (S.g 1 rfl)) fun w S=>?_
  replace S:=S.n0
  refine wn hK ?_;clear hK K
  replace S:=S.d1
  refine wp_reg fun K hK=>?_
  refine S.s (OpR.ldBox S.ok rfl (S.e 0 rfl) (S.box 0 rfl) tS_24) rfl fun a w G S=>?_
  refine S.s (τ:=BT ((([rg,ra,rb,rc]).getD i default).ok)) (OpR.call1 rfl c_28 (gValidX_ok S.ok (S.g 0 rfl) (by omega))) rfl fun a w G S=>?_
  refine S.s (OpR.bnot S.ok rfl (S.e 0 rfl) MT.self) rfl fun a w G S=>?_
  refine S.m rfl (S.g 0 rfl) rfl fun a w G S=>?_
  rcases Bool.eq_false_or_eq_true (!((([rg,ra,rb,rc]).getD i default).ok)) with hc3 | hc3
  ·
   replace S:=S.boolIs 0 rfl hc3
   refine S.skipG 0 rfl rfl rfl rfl rfl rfl fun a w G S=>?_
   refine S.skipG 1 rfl rfl rfl rfl rfl rfl fun a w G S=>?_
   refine S.skipG 2 rfl rfl rfl rfl rfl rfl fun a w G S=>?_
   refine S.s (τ:=BT true) (OpR.pick S.ok rfl (S.e 3 rfl) rfl) rfl fun a w G S=>?_
   refine wn hK ?_;clear hK K
   replace S:=S.d8.d7.d6.d5.d4.d3.d2.d1
   refine wp_cond_true (S.e 0 rfl) ?_
   refine wp_reg fun K hK=>?_
   replace S:=S.d6
   refine S.s (τ:=NT 3) (OpR.asn S.ok rfl (rfl : _ = nv .i64 3)) rfl fun a w G S=>?_
   refine wn hK ?_;clear hK K
   exact wp_ret (block_ret (then_ret (then_ret (block_ret (then_ret (S.retTmp rfl ((S.e 0 rfl).trans (iv_eq (by first | exact rchk16 (all_end (show ¬ i < 4 by omega) hg) ‹_› | exact rchk0 (all_end (show ¬ i < 4 by omega) hg) ‹_› | exact (chk3 (all_not (show i < 4 by omega) (by first | exact posR_not1 (not_true_of ‹_›) | exact posR_not2 ‹_›))).symm)))))))))
  ·
   replace S:=S.boolIs 0 rfl hc3
   refine S.stepG 0 (OpR.ldBox S.ok rfl (S.e 5 rfl) (S.box 0 rfl) tS_24) rfl rfl rfl rfl rfl rfl fun a w G S=>?_
   refine S.stepG (τ:=IT (((([rg,ra,rb,rc]).getD i default).val).num.sign)) 1 (OpR.call1 rfl c_29 (gSign_ok S.ok (FX.toQV (S.g 0 rfl)) (by omega))) rfl rfl rfl rfl rfl rfl fun a w G S=>?_
   refine S.stepG 2 (OpR.ileq S.ok rfl (S.e 0 rfl) (rfl : _ = nv .i64 0) MT.self) rfl rfl rfl rfl rfl rfl fun a w G S=>?_
   refine S.s (τ:=BT (decide ((((([rg,ra,rb,rc]).getD i default).val).num.sign) ≤ 0))) (OpR.pick S.ok rfl (S.e 3 rfl) (S.g 0 rfl)) rfl fun a w G S=>?_
   refine wn hK ?_;clear hK K
   replace S:=S.d8.d7.d6.d5.d4.d3.d2.d1
   refine S.cond 0 rfl (fun hc6=>?_) (fun hc6=>?_)
   ·
    have hp7:=of_decide_eq_true hc6
    refine wp_reg fun K hK=>?_
    replace S:=S.d6
    refine S.s (τ:=NT 3) (OpR.asn S.ok rfl (rfl : _ = nv .i64 3)) rfl fun a w G S=>?_
    refine wn hK ?_;clear hK K
    exact wp_ret (block_ret (then_ret (then_ret (block_ret (then_ret (S.retTmp rfl ((S.e 0 rfl).trans (iv_eq (by first | exact rchk16 (all_end (show ¬ i < 4 by omega) hg) ‹_› | exact rchk0 (all_end (show ¬ i < 4 by omega) hg) ‹_› | exact (chk3 (all_not (show i < 4 by omega) (by first | exact posR_not1 (not_true_of ‹_›) | exact posR_not2 ‹_›))).symm)))))))))
   ·
    have hp8:=of_decide_eq_false hc6
    refine wp_skip ?_
    refine hK _ _ ?_;clear hK K
    refine wp_region_lit ?_
    refine S.s (OpR.nadd S.ok rfl (S.e 3 rfl) (rfl : _ = nv .i64 1) (wr_i64 (by omega)) MT.self) rfl fun a w G S=>?_
    replace S:=S.d4
    refine S.m rfl (S.g 0 rfl) rfl fun a w G S=>?_
    refine wpList_nil ?_
    replace S:=S.d1
    exact ⟨4 - (i + 1),(by omega),i + 1,_,rfl,(by omega),(all_snoc (show i < 4 by omega) hg (posR_of (not_false_of ‹_›) ‹_›)),(S.keep [0,4,5,6,7]).keepB [1,2] (by decide)⟩
 ·
  have hp9:=of_decide_eq_false hc1
  refine wp_exit (then_exit (then_exit (exit_same ?_)))
  clear hK K
  refine hK _ _ ?_;clear hK K
  refine wp_reg fun K hK=>?_
  refine S.s (OpR.ldBox S.ok rfl (S.e 5 rfl) (S.box 1 rfl) tS_26) rfl fun a w G S=>?_
  refine S.s (τ:=ARN (none) ((orderF ([rg,ra,rb,rc].map FR.val)).map NT)) (OpR.call1 rfl c_30 (rSorted_ok S.ok (S.g 0 rfl) (by omega) (by omega))) rfl fun a w G S=>?_
  refine S.alloc rfl rfl rfl z_57 zs_57 rfl rfl fun b6 a w G S=>?_
  refine S.store (τ:=ARN (none) ((orderF ([rg,ra,rb,rc].map FR.val)).map NT)) 0 rfl rfl rfl rfl (S.e 0 rfl) tS_57 (S.g 1 rfl) (ARN.shN (S.g 1 rfl) (by simp only [List.length_map,bub_len,orderF_len];rfl)) fun w S=>?_
  replace S:=S.n0
  replace S:=(S.castBox (τ':=ROWS (none) ((orderF ([rg,ra,rb,rc].map FR.val)).map NT)) 0 rfl fun _ h _=>ARN.rows h).n0
  refine wn hK ?_;clear hK K
  replace S:=S.d2.d1
  refine wp_seq_k fun K hK=>?_
  have ho0:=orderF_lt ([rg,ra,rb,rc].map FR.val) 0
  have ho1:=orderF_lt ([rg,ra,rb,rc].map FR.val) 1
  have ho2:=orderF_lt ([rg,ra,rb,rc].map FR.val) 2
  have ho3:=orderF_lt ([rg,ra,rb,rc].map FR.val) 3
  have hol:=orderF_len ([rg,ra,rb,rc].map FR.val)
  refine S.drawnS [⟨30,.g (MT.ex (Value.pointer (some ⟨b6,(0) * (none : Option Nat).getD 1,none⟩))),[]⟩,⟨31,.g (NT ((orderF ([rg,ra,rb,rc].map FR.val)).getD 0 default)),[0]⟩,⟨32,.g (MT.ex (Value.pointer (some ⟨b3,((orderF ([rg,ra,rb,rc].map FR.val)).getD 0 default) * (some 3 : Option Nat).getD 1,none⟩))),[1]⟩,⟨33,.g (FX n (([rg,ra,rb,rc]).getD ((orderF ([rg,ra,rb,rc].map FR.val)).getD 0 default) default)),[2]⟩,⟨34,.g (MT.ex (Value.pointer (some ⟨b6,(1) * (none : Option Nat).getD 1,none⟩))),[]⟩,⟨35,.g (NT ((orderF ([rg,ra,rb,rc].map FR.val)).getD 1 default)),[4]⟩,⟨36,.g (MT.ex (Value.pointer (some ⟨b3,((orderF ([rg,ra,rb,rc].map FR.val)).getD 1 default) * (some 3 : Option Nat).getD 1,none⟩))),[5]⟩,⟨37,.g (FX n (([rg,ra,rb,rc]).getD ((orderF ([rg,ra,rb,rc].map FR.val)).getD 1 default) default)),[6]⟩,⟨38,.g (MT.ex (Value.pointer (some ⟨b6,(2) * (none : Option Nat).getD 1,none⟩))),[]⟩,⟨39,.g (NT ((orderF ([rg,ra,rb,rc].map FR.val)).getD 2 default)),[8]⟩,⟨40,.g (MT.ex (Value.pointer (some ⟨b3,((orderF ([rg,ra,rb,rc].map FR.val)).getD 2 default) * (some 3 : Option Nat).getD 1,none⟩))),[9]⟩,⟨41,.g (FX n (([rg,ra,rb,rc]).getD ((orderF ([rg,ra,rb,rc].map FR.val)).getD 2 default) default)),[10]⟩,⟨42,.g (MT.ex (Value.pointer (some ⟨b6,(3) * (none : Option Nat).getD 1,none⟩))),[]⟩,⟨43,.g (NT ((orderF ([rg,ra,rb,rc].map FR.val)).getD 3 default)),[12]⟩,⟨44,.g (MT.ex (Value.pointer (some ⟨b3,((orderF ([rg,ra,rb,rc].map FR.val)).getD 3 default) * (some 3 : Option Nat).getD 1,none⟩))),[13]⟩,⟨45,.g (FX n (([rg,ra,rb,rc]).getD ((orderF ([rg,ra,rb,rc].map FR.val)).getD 3 default) default)),[14]⟩,⟨7,.al mkP 24 (some 3) (MT.ex (.agg #[.bool false,.slice none 0 0,.slice none 0 0])),[]⟩,⟨8,.al mkP 24 (some 3) (MT.ex (.agg #[.bool false,.slice none 0 0,.slice none 0 0])),[]⟩,⟨9,.al mkP 24 (some 3) (MT.ex (.agg #[.bool false,.slice none 0 0,.slice none 0 0])),[]⟩,⟨10,.al mkP 24 (some 3) (MT.ex (.agg #[.bool false,.slice none 0 0,.slice none 0 0])),[]⟩,⟨9998,.st 19 (FX n (([rg,ra,rb,rc]).getD ((orderF ([rg,ra,rb,rc].map FR.val)).getD 0 default) default)),[16,3]⟩,⟨9998,.st 20 (FX n (([rg,ra,rb,rc]).getD ((orderF ([rg,ra,rb,rc].map FR.val)).getD 1 default) default)),[17,7]⟩,⟨9998,.st 21 (FX n (([rg,ra,rb,rc]).getD ((orderF ([rg,ra,rb,rc].map FR.val)).getD 2 default) default)),[18,11]⟩,⟨9998,.st 22 (FX n (([rg,ra,rb,rc]).getD ((orderF ([rg,ra,rb,rc].map FR.val)).getD 3 default) default)),[19,15]⟩] mixedOrders (by kernel_rfl)
   ⟨⟨rfl,fun a w G S=>.of rfl (OpR.ixAr (i:=0) S.ok rfl Tryz.underlying57 tS_3 (S.e 0 rfl) (rfl : _ = nv .i64 0) rfl (by first | omega | (rw [hol];decide) | (show _ < 4;omega)) rfl)⟩,
    ⟨rfl,fun a w G S=>have S:=S.boxes (B':=[⟨b6,57,some 4,ROWS (none) ((orderF ([rg,ra,rb,rc].map FR.val)).map NT)⟩,⟨b3,49,some 12,ROWS (some 3) (([rg,ra,rb,rc]).map (FX n))⟩,⟨b1,26,some 12,PTS [(some 3,FX n rg),(some 3,FX n ra),(some 3,FX n rb),(some 3,FX n rc)]⟩]) (by kernel_rfl);OpG.of rfl (OpR.ldSM (k:=none) (T:=NT) (xs:=orderF ([rg,ra,rb,rc].map FR.val)) (i:=0) S.ok rfl (S.e 0 rfl) (S.box 0 rfl) tS_3 (by first | omega | (rw [hol];decide) | (show _ < 4;omega)))⟩,
    ⟨rfl,fun a w G S=>.of rfl (OpR.ixAr (i:=(orderF ([rg,ra,rb,rc].map FR.val)).getD 0 default) S.ok rfl Tryz.underlying49 tS_24 (S.e 5 rfl) (S.e 0 rfl) rfl (by first | omega | (rw [hol];decide) | (show _ < 4;omega)) rfl)⟩,
    ⟨rfl,fun a w G S=>have S:=S.boxes (B':=[⟨b6,57,some 4,ROWS (none) ((orderF ([rg,ra,rb,rc].map FR.val)).map NT)⟩,⟨b3,49,some 12,ROWS (some 3) (([rg,ra,rb,rc]).map (FX n))⟩,⟨b1,26,some 12,PTS [(some 3,FX n rg),(some 3,FX n ra),(some 3,FX n rb),(some 3,FX n rc)]⟩]) (by kernel_rfl);OpG.of rfl (OpR.ldSM (k:=some 3) (T:=(FX n)) (xs:=[rg,ra,rb,rc]) (i:=(orderF ([rg,ra,rb,rc].map FR.val)).getD 0 default) S.ok rfl (S.e 0 rfl) (S.box 1 rfl) tS_24 (by first | omega | (rw [hol];decide) | (show _ < 4;omega)))⟩,
    ⟨rfl,fun a w G S=>.of rfl (OpR.ixAr (i:=1) S.ok rfl Tryz.underlying57 tS_3 (S.e 0 rfl) (rfl : _ = nv .i64 1) rfl (by first | omega | (rw [hol];decide) | (show _ < 4;omega)) rfl)⟩,
    ⟨rfl,fun a w G S=>have S:=S.boxes (B':=[⟨b6,57,some 4,ROWS (none) ((orderF ([rg,ra,rb,rc].map FR.val)).map NT)⟩,⟨b3,49,some 12,ROWS (some 3) (([rg,ra,rb,rc]).map (FX n))⟩,⟨b1,26,some 12,PTS [(some 3,FX n rg),(some 3,FX n ra),(some 3,FX n rb),(some 3,FX n rc)]⟩]) (by kernel_rfl);OpG.of rfl (OpR.ldSM (k:=none) (T:=NT) (xs:=orderF ([rg,ra,rb,rc].map FR.val)) (i:=1) S.ok rfl (S.e 0 rfl) (S.box 0 rfl) tS_3 (by first | omega | (rw [hol];decide) | (show _ < 4;omega)))⟩,
    ⟨rfl,fun a w G S=>.of rfl (OpR.ixAr (i:=(orderF ([rg,ra,rb,rc].map FR.val)).getD 1 default) S.ok rfl Tryz.underlying49 tS_24 (S.e 5 rfl) (S.e 0 rfl) rfl (by first | omega | (rw [hol];decide) | (show _ < 4;omega)) rfl)⟩,
    ⟨rfl,fun a w G S=>have S:=S.boxes (B':=[⟨b6,57,some 4,ROWS (none) ((orderF ([rg,ra,rb,rc].map FR.val)).map NT)⟩,⟨b3,49,some 12,ROWS (some 3) (([rg,ra,rb,rc]).map (FX n))⟩,⟨b1,26,some 12,PTS [(some 3,FX n rg),(some 3,FX n ra),(some 3,FX n rb),(some 3,FX n rc)]⟩]) (by kernel_rfl);OpG.of rfl (OpR.ldSM (k:=some 3) (T:=(FX n)) (xs:=[rg,ra,rb,rc]) (i:=(orderF ([rg,ra,rb,rc].map FR.val)).getD 1 default) S.ok rfl (S.e 0 rfl) (S.box 1 rfl) tS_24 (by first | omega | (rw [hol];decide) | (show _ < 4;omega)))⟩,
    ⟨rfl,fun a w G S=>.of rfl (OpR.ixAr (i:=2) S.ok rfl Tryz.underlying57 tS_3 (S.e 0 rfl) (rfl : _ = nv .i64 2) rfl (by first | omega | (rw [hol];decide) | (show _ < 4;omega)) rfl)⟩,
    ⟨rfl,fun a w G S=>have S:=S.boxes (B':=[⟨b6,57,some 4,ROWS (none) ((orderF ([rg,ra,rb,rc].map FR.val)).map NT)⟩,⟨b3,49,some 12,ROWS (some 3) (([rg,ra,rb,rc]).map (FX n))⟩,⟨b1,26,some 12,PTS [(some 3,FX n rg),(some 3,FX n ra),(some 3,FX n rb),(some 3,FX n rc)]⟩]) (by kernel_rfl);OpG.of rfl (OpR.ldSM (k:=none) (T:=NT) (xs:=orderF ([rg,ra,rb,rc].map FR.val)) (i:=2) S.ok rfl (S.e 0 rfl) (S.box 0 rfl) tS_3 (by first | omega | (rw [hol];decide) | (show _ < 4;omega)))⟩,
    ⟨rfl,fun a w G S=>.of rfl (OpR.ixAr (i:=(orderF ([rg,ra,rb,rc].map FR.val)).getD 2 default) S.ok rfl Tryz.underlying49 tS_24 (S.e 5 rfl) (S.e 0 rfl) rfl (by first | omega | (rw [hol];decide) | (show _ < 4;omega)) rfl)⟩,
    ⟨rfl,fun a w G S=>have S:=S.boxes (B':=[⟨b6,57,some 4,ROWS (none) ((orderF ([rg,ra,rb,rc].map FR.val)).map NT)⟩,⟨b3,49,some 12,ROWS (some 3) (([rg,ra,rb,rc]).map (FX n))⟩,⟨b1,26,some 12,PTS [(some 3,FX n rg),(some 3,FX n ra),(some 3,FX n rb),(some 3,FX n rc)]⟩]) (by kernel_rfl);OpG.of rfl (OpR.ldSM (k:=some 3) (T:=(FX n)) (xs:=[rg,ra,rb,rc]) (i:=(orderF ([rg,ra,rb,rc].map FR.val)).getD 2 default) S.ok rfl (S.e 0 rfl) (S.box 1 rfl) tS_24 (by first | omega | (rw [hol];decide) | (show _ < 4;omega)))⟩,
    ⟨rfl,fun a w G S=>.of rfl (OpR.ixAr (i:=3) S.ok rfl Tryz.underlying57 tS_3 (S.e 0 rfl) (rfl : _ = nv .i64 3) rfl (by first | omega | (rw [hol];decide) | (show _ < 4;omega)) rfl)⟩,
    ⟨rfl,fun a w G S=>have S:=S.boxes (B':=[⟨b6,57,some 4,ROWS (none) ((orderF ([rg,ra,rb,rc].map FR.val)).map NT)⟩,⟨b3,49,some 12,ROWS (some 3) (([rg,ra,rb,rc]).map (FX n))⟩,⟨b1,26,some 12,PTS [(some 3,FX n rg),(some 3,FX n ra),(some 3,FX n rb),(some 3,FX n rc)]⟩]) (by kernel_rfl);OpG.of rfl (OpR.ldSM (k:=none) (T:=NT) (xs:=orderF ([rg,ra,rb,rc].map FR.val)) (i:=3) S.ok rfl (S.e 0 rfl) (S.box 0 rfl) tS_3 (by first | omega | (rw [hol];decide) | (show _ < 4;omega)))⟩,
    ⟨rfl,fun a w G S=>.of rfl (OpR.ixAr (i:=(orderF ([rg,ra,rb,rc].map FR.val)).getD 3 default) S.ok rfl Tryz.underlying49 tS_24 (S.e 5 rfl) (S.e 0 rfl) rfl (by first | omega | (rw [hol];decide) | (show _ < 4;omega)) rfl)⟩,
    ⟨rfl,fun a w G S=>have S:=S.boxes (B':=[⟨b6,57,some 4,ROWS (none) ((orderF ([rg,ra,rb,rc].map FR.val)).map NT)⟩,⟨b3,49,some 12,ROWS (some 3) (([rg,ra,rb,rc]).map (FX n))⟩,⟨b1,26,some 12,PTS [(some 3,FX n rg),(some 3,FX n ra),(some 3,FX n rb),(some 3,FX n rc)]⟩]) (by kernel_rfl);OpG.of rfl (OpR.ldSM (k:=some 3) (T:=(FX n)) (xs:=[rg,ra,rb,rc]) (i:=(orderF ([rg,ra,rb,rc].map FR.val)).getD 3 default) S.ok rfl (S.e 0 rfl) (S.box 1 rfl) tS_24 (by first | omega | (rw [hol];decide) | (show _ < 4;omega)))⟩,
    ⟨rfl,fun _=>rfl,rfl,fun a w G S=>OpB.alloc S.ok rfl z_24 zs_24⟩,
    ⟨rfl,fun _=>rfl,rfl,fun a w G S=>OpB.alloc S.ok rfl z_24 zs_24⟩,
    ⟨rfl,fun _=>rfl,rfl,fun a w G S=>OpB.alloc S.ok rfl z_24 zs_24⟩,
    ⟨rfl,fun _=>rfl,rfl,fun a w G S=>OpB.alloc S.ok rfl z_24 zs_24⟩,
    ⟨rfl,rfl,rfl,.inl ⟨_,_,_,_,rfl,tS_24,fun a w G S=>⟨(S.g 0 rfl),sh (τ:=FX n (([rg,ra,rb,rc]).getD ((orderF ([rg,ra,rb,rc].map FR.val)).getD 0 default) default)) (S.g 0 rfl)⟩,by rw [if_neg (by simp only [List.length_cons,List.length_nil];omega)];exact ⟨_,_,_,rfl,rfl,rfl,rfl⟩⟩⟩,
    ⟨rfl,rfl,rfl,.inl ⟨_,_,_,_,rfl,tS_24,fun a w G S=>⟨(S.g 0 rfl),sh (τ:=FX n (([rg,ra,rb,rc]).getD ((orderF ([rg,ra,rb,rc].map FR.val)).getD 1 default) default)) (S.g 0 rfl)⟩,by rw [if_neg (by simp only [List.length_cons,List.length_nil];omega)];exact ⟨_,_,_,rfl,rfl,rfl,rfl⟩⟩⟩,
    ⟨rfl,rfl,rfl,.inl ⟨_,_,_,_,rfl,tS_24,fun a w G S=>⟨(S.g 0 rfl),sh (τ:=FX n (([rg,ra,rb,rc]).getD ((orderF ([rg,ra,rb,rc].map FR.val)).getD 2 default) default)) (S.g 0 rfl)⟩,by rw [if_neg (by simp only [List.length_cons,List.length_nil];omega)];exact ⟨_,_,_,rfl,rfl,rfl,rfl⟩⟩⟩,
    ⟨rfl,rfl,rfl,.inl ⟨_,_,_,_,rfl,tS_24,fun a w G S=>⟨(S.g 0 rfl),sh (τ:=FX n (([rg,ra,rb,rc]).getD ((orderF ([rg,ra,rb,rc].map FR.val)).getD 3 default) default)) (S.g 0 rfl)⟩,by rw [if_neg (by simp only [List.length_cons,List.length_nil];omega)];exact ⟨_,_,_,rfl,rfl,rfl,rfl⟩⟩⟩,trivial⟩ fun β a w G S=>?_
  replace S : St W0 G0 65 [(10,PB (β 19)),(9,PB (β 18)),(8,PB (β 17)),(7,PB (β 16)),(6,PB b6),(17,BT (decide (i < 4))),(16,NT i),(15,ARN (some 3) (([rg,ra,rb,rc]).map (FX n))),(3,PB b3),(2,NT 0),(1,PB b1)] [⟨(β 19),24,some 3,FX n (([rg,ra,rb,rc]).getD ((orderF ([rg,ra,rb,rc].map FR.val)).getD 3 default) default)⟩,⟨(β 18),24,some 3,FX n (([rg,ra,rb,rc]).getD ((orderF ([rg,ra,rb,rc].map FR.val)).getD 2 default) default)⟩,⟨(β 17),24,some 3,FX n (([rg,ra,rb,rc]).getD ((orderF ([rg,ra,rb,rc].map FR.val)).getD 1 default) default)⟩,⟨(β 16),24,some 3,FX n (([rg,ra,rb,rc]).getD ((orderF ([rg,ra,rb,rc].map FR.val)).getD 0 default) default)⟩,⟨b6,57,some 4,ROWS (none) ((orderF ([rg,ra,rb,rc].map FR.val)).map NT)⟩,⟨b3,49,some 12,ROWS (some 3) (([rg,ra,rb,rc]).map (FX n))⟩,⟨b1,26,some 12,PTS [(some 3,FX n rg),(some 3,FX n ra),(some 3,FX n rb),(some 3,FX n rc)]⟩] a _ _:=S.keep [0,1,2,3,20,21,22,23,24,25,26]
  generalize β 16 = b7 at S
  generalize β 17 = b8 at S
  generalize β 18 = b9 at S
  generalize β 19 = b10 at S
  refine wn hK ?_;clear hK K
  refine wp_reg fun K hK=>?_
  refine S.s (τ:=QC 64 (-2)) (OpR.conv' (OpR.call1 rfl c_21 (gOf_ok S.ok (rfl : _ = Value.int .i64 (-2)) (by omega))) fun _ _ h=>(QC.eq h (by rfl))) rfl fun a w G S=>?_
  refine S.alloc rfl rfl rfl z_24 zs_24 rfl rfl fun b11 a w G S=>?_
  refine S.store (τ:=QC 64 (-2)) 0 rfl rfl rfl rfl (S.e 0 rfl) tS_24 (S.g 1 rfl) (sh (τ:=QC 64 (-2)) (S.g 1 rfl)) fun w S=>?_
  replace S:=S.n0
  refine wn hK ?_;clear hK K
  replace S:=S.d1
  refine wp_seq_k fun K hK=>?_
  refine S.drawn [⟨47,.g (FX n (([rg,ra,rb,rc]).getD ((orderF ([rg,ra,rb,rc].map FR.val)).getD 3 default) default)),[]⟩,⟨48,.g (FX n (([rg,ra,rb,rc]).getD ((orderF ([rg,ra,rb,rc].map FR.val)).getD 0 default) default)),[]⟩,⟨49,.g (QC (n + n + 1) (((([rg,ra,rb,rc]).getD ((orderF ([rg,ra,rb,rc].map FR.val)).getD 3 default) default).val) + ((([rg,ra,rb,rc]).getD ((orderF ([rg,ra,rb,rc].map FR.val)).getD 0 default) default).val))),[0,1]⟩,⟨50,.g (FX n (([rg,ra,rb,rc]).getD ((orderF ([rg,ra,rb,rc].map FR.val)).getD 1 default) default)),[]⟩,⟨51,.g (FX n (([rg,ra,rb,rc]).getD ((orderF ([rg,ra,rb,rc].map FR.val)).getD 2 default) default)),[]⟩,⟨52,.g (QC (n + n + 1) (((([rg,ra,rb,rc]).getD ((orderF ([rg,ra,rb,rc].map FR.val)).getD 1 default) default).val) + ((([rg,ra,rb,rc]).getD ((orderF ([rg,ra,rb,rc].map FR.val)).getD 2 default) default).val))),[3,4]⟩,⟨53,.g (QC ((n + n + 1) + (n + n + 1) + 1) ((((([rg,ra,rb,rc]).getD ((orderF ([rg,ra,rb,rc].map FR.val)).getD 3 default) default).val) + ((([rg,ra,rb,rc]).getD ((orderF ([rg,ra,rb,rc].map FR.val)).getD 0 default) default).val)) - (((([rg,ra,rb,rc]).getD ((orderF ([rg,ra,rb,rc].map FR.val)).getD 1 default) default).val) + ((([rg,ra,rb,rc]).getD ((orderF ([rg,ra,rb,rc].map FR.val)).getD 2 default) default).val)))),[2,5]⟩,⟨12,.al mkP 24 (some 3) (MT.ex (.agg #[.bool false,.slice none 0 0,.slice none 0 0])),[]⟩] mixedOrders (by kernel_rfl)
   ⟨fun a w G S=>.of rfl (OpR.ldBox S.ok rfl (S.e 1 rfl) (S.box 1 rfl) tS_24),
    fun a w G S=>.of rfl (OpR.ldBox S.ok rfl (S.e 4 rfl) (S.box 4 rfl) tS_24),
    fun a w G S=>.of rfl (OpR.call2 rfl c_32 (gAdd_ok S.ok (FX.toQV (S.g 0 rfl)) (FX.toQV (S.g 1 rfl)) (by omega))),
    fun a w G S=>.of rfl (OpR.ldBox S.ok rfl (S.e 3 rfl) (S.box 3 rfl) tS_24),
    fun a w G S=>.of rfl (OpR.ldBox S.ok rfl (S.e 2 rfl) (S.box 2 rfl) tS_24),
    fun a w G S=>.of rfl (OpR.call2 rfl c_32 (gAdd_ok S.ok (FX.toQV (S.g 0 rfl)) (FX.toQV (S.g 1 rfl)) (by omega))),
    fun a w G S=>.of rfl (OpR.call2 rfl c_31 (gSub_ok S.ok (QC.toQV (S.g 0 rfl)) (QC.toQV (S.g 1 rfl)) (by omega))),
    ⟨fun _=>rfl,rfl,fun a w G S=>OpB.alloc S.ok rfl z_24 zs_24⟩,trivial⟩ fun β a w G S=>?_
  replace S : St W0 G0 65 [(12,PB (β 7)),(53,QC ((n + n + 1) + (n + n + 1) + 1) ((((([rg,ra,rb,rc]).getD ((orderF ([rg,ra,rb,rc].map FR.val)).getD 3 default) default).val) + ((([rg,ra,rb,rc]).getD ((orderF ([rg,ra,rb,rc].map FR.val)).getD 0 default) default).val)) - (((([rg,ra,rb,rc]).getD ((orderF ([rg,ra,rb,rc].map FR.val)).getD 1 default) default).val) + ((([rg,ra,rb,rc]).getD ((orderF ([rg,ra,rb,rc].map FR.val)).getD 2 default) default).val)))),(11,PB b11),(10,PB b10),(9,PB b9),(8,PB b8),(7,PB b7),(6,PB b6),(17,BT (decide (i < 4))),(16,NT i),(15,ARN (some 3) (([rg,ra,rb,rc]).map (FX n))),(3,PB b3),(2,NT 0),(1,PB b1)] [⟨(β 7),24,some 3,MT.ex ((.agg #[.bool false,.slice none 0 0,.slice none 0 0] : Value))⟩,⟨b11,24,some 3,QC 64 (-2)⟩,⟨b10,24,some 3,FX n (([rg,ra,rb,rc]).getD ((orderF ([rg,ra,rb,rc].map FR.val)).getD 3 default) default)⟩,⟨b9,24,some 3,FX n (([rg,ra,rb,rc]).getD ((orderF ([rg,ra,rb,rc].map FR.val)).getD 2 default) default)⟩,⟨b8,24,some 3,FX n (([rg,ra,rb,rc]).getD ((orderF ([rg,ra,rb,rc].map FR.val)).getD 1 default) default)⟩,⟨b7,24,some 3,FX n (([rg,ra,rb,rc]).getD ((orderF ([rg,ra,rb,rc].map FR.val)).getD 0 default) default)⟩,⟨b6,57,some 4,ROWS (none) ((orderF ([rg,ra,rb,rc].map FR.val)).map NT)⟩,⟨b3,49,some 12,ROWS (some 3) (([rg,ra,rb,rc]).map (FX n))⟩,⟨b1,26,some 12,PTS [(some 3,FX n rg),(some 3,FX n ra),(some 3,FX n rb),(some 3,FX n rc)]⟩] a _ _:=S.keep [0,1,8,9,10,11,12,13,14,15,16,17,18,19]
  generalize β 7 = b12 at S
  refine S.store (τ:=QC ((n + n + 1) + (n + n + 1) + 1) ((((([rg,ra,rb,rc]).getD ((orderF ([rg,ra,rb,rc].map FR.val)).getD 3 default) default).val) + ((([rg,ra,rb,rc]).getD ((orderF ([rg,ra,rb,rc].map FR.val)).getD 0 default) default).val)) - (((([rg,ra,rb,rc]).getD ((orderF ([rg,ra,rb,rc].map FR.val)).getD 1 default) default).val) + ((([rg,ra,rb,rc]).getD ((orderF ([rg,ra,rb,rc].map FR.val)).getD 2 default) default).val)))) 0 rfl rfl rfl rfl (S.e 0 rfl) tS_24 (S.g 1 rfl) (sh (τ:=QC ((n + n + 1) + (n + n + 1) + 1) ((((([rg,ra,rb,rc]).getD ((orderF ([rg,ra,rb,rc].map FR.val)).getD 3 default) default).val) + ((([rg,ra,rb,rc]).getD ((orderF ([rg,ra,rb,rc].map FR.val)).getD 0 default) default).val)) - (((([rg,ra,rb,rc]).getD ((orderF ([rg,ra,rb,rc].map FR.val)).getD 1 default) default).val) + ((([rg,ra,rb,rc]).getD ((orderF ([rg,ra,rb,rc].map FR.val)).getD 2 default) default).val)))) (S.g 1 rfl)) fun w S=>?_
  replace S:=S.n0
  refine wn hK ?_;clear hK K
  replace S:=S.d1
  refine wp_seq_k fun K hK=>?_
  refine wp_seq_k fun K hK=>?_
  refine S.drawn [⟨54,.g (QC ((n + n + 1) + (n + n + 1) + 1) ((((([rg,ra,rb,rc]).getD ((orderF ([rg,ra,rb,rc].map FR.val)).getD 3 default) default).val) + ((([rg,ra,rb,rc]).getD ((orderF ([rg,ra,rb,rc].map FR.val)).getD 0 default) default).val)) - (((([rg,ra,rb,rc]).getD ((orderF ([rg,ra,rb,rc].map FR.val)).getD 1 default) default).val) + ((([rg,ra,rb,rc]).getD ((orderF ([rg,ra,rb,rc].map FR.val)).getD 2 default) default).val)))),[]⟩,⟨55,.g (QC 64 (-2)),[]⟩,⟨56,.g (FX n (([rg,ra,rb,rc]).getD ((orderF ([rg,ra,rb,rc].map FR.val)).getD 3 default) default)),[]⟩,⟨57,.g (FX n (([rg,ra,rb,rc]).getD ((orderF ([rg,ra,rb,rc].map FR.val)).getD 0 default) default)),[]⟩,⟨58,.g (QC (n + n) (((([rg,ra,rb,rc]).getD ((orderF ([rg,ra,rb,rc].map FR.val)).getD 3 default) default).val) * ((([rg,ra,rb,rc]).getD ((orderF ([rg,ra,rb,rc].map FR.val)).getD 0 default) default).val))),[2,3]⟩,⟨59,.g (QC 64 (-2)),[]⟩,⟨60,.g (FX n (([rg,ra,rb,rc]).getD ((orderF ([rg,ra,rb,rc].map FR.val)).getD 1 default) default)),[]⟩,⟨61,.g (FX n (([rg,ra,rb,rc]).getD ((orderF ([rg,ra,rb,rc].map FR.val)).getD 2 default) default)),[]⟩,⟨62,.g (QC (n + n) (((([rg,ra,rb,rc]).getD ((orderF ([rg,ra,rb,rc].map FR.val)).getD 1 default) default).val) * ((([rg,ra,rb,rc]).getD ((orderF ([rg,ra,rb,rc].map FR.val)).getD 2 default) default).val))),[6,7]⟩,⟨63,.g (IT (surdsF ((((([rg,ra,rb,rc]).getD ((orderF ([rg,ra,rb,rc].map FR.val)).getD 3 default) default).val) + ((([rg,ra,rb,rc]).getD ((orderF ([rg,ra,rb,rc].map FR.val)).getD 0 default) default).val)) - (((([rg,ra,rb,rc]).getD ((orderF ([rg,ra,rb,rc].map FR.val)).getD 1 default) default).val) + ((([rg,ra,rb,rc]).getD ((orderF ([rg,ra,rb,rc].map FR.val)).getD 2 default) default).val))) ((-2)) (((([rg,ra,rb,rc]).getD ((orderF ([rg,ra,rb,rc].map FR.val)).getD 3 default) default).val) * ((([rg,ra,rb,rc]).getD ((orderF ([rg,ra,rb,rc].map FR.val)).getD 0 default) default).val)) ((-2)) (((([rg,ra,rb,rc]).getD ((orderF ([rg,ra,rb,rc].map FR.val)).getD 1 default) default).val) * ((([rg,ra,rb,rc]).getD ((orderF ([rg,ra,rb,rc].map FR.val)).getD 2 default) default).val)))),[0,1,4,5,8]⟩,⟨64,.g (BT (decide (rcloseF [rg,ra,rb,rc] > 0))),[9]⟩] mixedOrders (by kernel_rfl)
   ⟨fun a w G S=>.of rfl (OpR.ldBox S.ok rfl (S.e 0 rfl) (S.box 0 rfl) tS_24),
    fun a w G S=>.of rfl (OpR.ldBox S.ok rfl (S.e 1 rfl) (S.box 1 rfl) tS_24),
    fun a w G S=>.of rfl (OpR.ldBox S.ok rfl (S.e 2 rfl) (S.box 2 rfl) tS_24),
    fun a w G S=>.of rfl (OpR.ldBox S.ok rfl (S.e 5 rfl) (S.box 5 rfl) tS_24),
    fun a w G S=>.of rfl (OpR.call2 rfl c_34 (gMul_ok S.ok (FX.toQV (S.g 0 rfl)) (FX.toQV (S.g 1 rfl)) (by omega))),
    fun a w G S=>.of rfl (OpR.ldBox S.ok rfl (S.e 1 rfl) (S.box 1 rfl) tS_24),
    fun a w G S=>.of rfl (OpR.ldBox S.ok rfl (S.e 4 rfl) (S.box 4 rfl) tS_24),
    fun a w G S=>.of rfl (OpR.ldBox S.ok rfl (S.e 3 rfl) (S.box 3 rfl) tS_24),
    fun a w G S=>.of rfl (OpR.call2 rfl c_34 (gMul_ok S.ok (FX.toQV (S.g 0 rfl)) (FX.toQV (S.g 1 rfl)) (by omega))),
    fun a w G S=>.of rfl (OpR.call5 rfl c_33 (rSurds_ok S.ok (QC.toQV (S.g 0 rfl)) (QC.toQV (S.g 1 rfl)) (QC.toQV (S.g 2 rfl)) (QC.toQV (S.g 3 rfl)) (QC.toQV (S.g 4 rfl)) (by omega))),
    fun a w G S=>.of rfl (OpR.igtr S.ok rfl (S.e 0 rfl) (rfl : _ = nv .i64 0) (bv_eq rfl)),trivial⟩ fun β a w G S=>?_
  replace S : St W0 G0 65 [(64,BT (decide (rcloseF [rg,ra,rb,rc] > 0))),(12,PB b12),(11,PB b11),(10,PB b10),(9,PB b9),(8,PB b8),(7,PB b7),(6,PB b6),(17,BT (decide (i < 4))),(16,NT i),(15,ARN (some 3) (([rg,ra,rb,rc]).map (FX n))),(3,PB b3),(2,NT 0),(1,PB b1)] [⟨b12,24,some 3,QC ((n + n + 1) + (n + n + 1) + 1) ((((([rg,ra,rb,rc]).getD ((orderF ([rg,ra,rb,rc].map FR.val)).getD 3 default) default).val) + ((([rg,ra,rb,rc]).getD ((orderF ([rg,ra,rb,rc].map FR.val)).getD 0 default) default).val)) - (((([rg,ra,rb,rc]).getD ((orderF ([rg,ra,rb,rc].map FR.val)).getD 1 default) default).val) + ((([rg,ra,rb,rc]).getD ((orderF ([rg,ra,rb,rc].map FR.val)).getD 2 default) default).val)))⟩,⟨b11,24,some 3,QC 64 (-2)⟩,⟨b10,24,some 3,FX n (([rg,ra,rb,rc]).getD ((orderF ([rg,ra,rb,rc].map FR.val)).getD 3 default) default)⟩,⟨b9,24,some 3,FX n (([rg,ra,rb,rc]).getD ((orderF ([rg,ra,rb,rc].map FR.val)).getD 2 default) default)⟩,⟨b8,24,some 3,FX n (([rg,ra,rb,rc]).getD ((orderF ([rg,ra,rb,rc].map FR.val)).getD 1 default) default)⟩,⟨b7,24,some 3,FX n (([rg,ra,rb,rc]).getD ((orderF ([rg,ra,rb,rc].map FR.val)).getD 0 default) default)⟩,⟨b6,57,some 4,ROWS (none) ((orderF ([rg,ra,rb,rc].map FR.val)).map NT)⟩,⟨b3,49,some 12,ROWS (some 3) (([rg,ra,rb,rc]).map (FX n))⟩,⟨b1,26,some 12,PTS [(some 3,FX n rg),(some 3,FX n ra),(some 3,FX n rb),(some 3,FX n rc)]⟩] a _ _:=S.keep [0,11,12,13,14,15,16,17,18,19,20,21,22,23]
  refine wn hK ?_;clear hK K
  refine S.cond 0 rfl (fun hc10=>?_) (fun hc10=>?_)
  ·
   have hp11:=of_decide_eq_true hc10
   refine wp_reg fun K hK=>?_
   replace S:=S.d12
   refine S.s (τ:=NT 16) (OpR.asn S.ok rfl (rfl : _ = nv .i64 16)) rfl fun a w G S=>?_
   refine wn hK ?_;clear hK K
   exact wp_ret (then_ret (S.retTmp rfl ((S.e 0 rfl).trans (iv_eq (by first | exact rchk16 (all_end (show ¬ i < 4 by omega) hg) ‹_› | exact rchk0 (all_end (show ¬ i < 4 by omega) hg) ‹_› | exact (chk3 (all_not (show i < 4 by omega) (by first | exact posR_not1 (not_true_of ‹_›) | exact posR_not2 ‹_›))).symm)))))
  ·
   have hp12:=of_decide_eq_false hc10
   refine wp_skip ?_
   refine hK _ _ ?_;clear hK K
   refine wp_reg fun K hK=>?_
   replace S:=S.d12
   refine S.s (τ:=NT 0) (OpR.asn S.ok rfl (rfl : _ = nv .i64 0)) rfl fun a w G S=>?_
   refine wn hK ?_;clear hK K
   exact wp_ret (S.retTmp rfl ((S.e 0 rfl).trans (iv_eq (by first | exact rchk16 (all_end (show ¬ i < 4 by omega) hg) ‹_› | exact rchk0 (all_end (show ¬ i < 4 by omega) hg) ‹_› | exact (chk3 (all_not (show i < 4 by omega) (by first | exact posR_not1 (not_true_of ‹_›) | exact posR_not2 ‹_›))).symm))))
end Go.Proofs.YtdeihehaheelmaaGreat
namespace Go.Proofs.YtdeihehaheelmaaGreat
set_option maxHeartbeats 1000000
set_option maxRecDepth 100000
open Go.RowKit (Below)
private theorem bp_26_0_1_2_3 : ∀ {u0 : Value} {u1 : Value} {u2 : Value} {u3 : Value} (h0 : Shaped (some 3) u0) (h1 : Shaped (some 3) u1) (h2 : Shaped (some 3) u2) (h3 : Shaped (some 3) u3),Tryz.prog.built 26 [(0,u0),(1,u1),(2,u2),(3,u3)] = some (flat [u0,u1,u2,u3]).toArray:=by
 intro u0 u1 u2 u3 h0 h1 h2 h3
 obtain ⟨c0_0,c0_1,c0_2,rfl⟩:=agg3 h0
 obtain ⟨c1_0,c1_1,c1_2,rfl⟩:=agg3 h1
 obtain ⟨c2_0,c2_1,c2_2,rfl⟩:=agg3 h2
 obtain ⟨c3_0,c3_1,c3_2,rfl⟩:=agg3 h3
 kernel_rfl
private theorem c_74 : callable Tryz.prog 74 = true:=by kernel_rfl
private theorem fo_24_0 : fldOff Tryz.prog 24 0 = some 0:=by kernel_rfl
private theorem fo_24_1 : fldOff Tryz.prog 24 1 = some 1:=by kernel_rfl
private theorem fo_24_2 : fldOff Tryz.prog 24 2 = some 2:=by kernel_rfl
private theorem tS_22 : tyS Tryz.prog 22 (none) = true:=by kernel_rfl
private theorem tS_4 : tyS Tryz.prog 4 (none) = true:=by kernel_rfl
private theorem tS_91 : tyS Tryz.prog 91 (none) = true:=by kernel_rfl
private theorem z_26 : (Tryz.prog.info? 26).bind (·.zero) = some (.agg #[.bool false,.slice none 0 0,.slice none 0 0,.bool false,.slice none 0 0,.slice none 0 0,.bool false,.slice none 0 0,.slice none 0 0,.bool false,.slice none 0 0,.slice none 0 0]):=by kernel_rfl
private theorem zs_26 : Shaped (some 12) (.agg #[.bool false,.slice none 0 0,.slice none 0 0,.bool false,.slice none 0 0,.slice none 0 0,.bool false,.slice none 0 0,.slice none 0 0,.bool false,.slice none 0 0,.slice none 0 0]):=⟨_,rfl,rfl,by simp [Value.oneCell']⟩
theorem bWords_ok {l : List Nat} {v1 v2 : Value} {W0 : World} {G0 : Gh} (hok : Gok W0 G0) (h1 : (SL l).t v1 G0) (h2 : (SL l).t v2 G0)  : Calls Tryz.prog 74 #[v1,v2] W0 (Ret W0 G0 (BT true)):=by
 have hlim:=SL.lim h1
 simp only [LIM] at hlim
 refine St.enter (N:=26) (L:=[(1,SL l),(0,SL l)]) (args:=[v1,v2]) Tryz.func74 rfl rfl rfl hok (enter2 h1 h2) fun a S=>?_
 refine wp_reg fun K hK=>?_
 refine S.s (τ:=BT false) (OpR.asn S.ok rfl rfl) rfl fun a w G S=>?_
 refine wn hK ?_;clear hK K
 refine wp_seq_k fun K hK=>?_
 refine wp_reg fun K hK=>?_
 refine S.m rfl (S.g 2 rfl) rfl fun a w G S=>?_
 refine S.s (OpR.lenL S.ok rfl Tryz.underlying22 (S.g 0 rfl) MT.self) rfl fun a w G S=>?_
 refine S.m rfl (S.g 3 rfl) rfl fun a w G S=>?_
 refine S.s (OpR.lenL S.ok rfl Tryz.underlying22 (S.g 0 rfl) MT.self) rfl fun a w G S=>?_
 refine S.s (τ:=BT false) (OpR.nneq S.ok rfl (S.e 2 rfl) (S.e 0 rfl) (bv_eq (by simp))) rfl fun a w G S=>?_
 refine wn hK ?_;clear hK K
 replace S:=S.d4.d3.d2.d1
 refine wp_cond_false (S.e 0 rfl) ?_
 refine wp_skip ?_
 refine hK _ _ ?_;clear hK K
 refine wp_seq_k fun K hK=>?_
 refine wp_reg fun K hK=>?_
 refine S.s (τ:=NT 0) (OpR.asn S.ok rfl (rfl : _ = nv .i64 0)) rfl fun a w G S=>?_
 refine wn hK ?_;clear hK K
 refine wp_block ?_
 refine wp_loopJ (fun μ a w=>∃ (i : Nat) (G : Gh),μ = l.length - i ∧ (i ≤ l.length) ∧  St W0 G0 26 [(5,NT i),(10,BT false),(4,BT false),(1,SL l),(0,SL l)] [] a w G) (l.length - 0) ⟨0,_,rfl,(by omega),(S.keep [0,1,2,3,4]).keepB [] (by decide)⟩ ?_
 clear S
 intro μ a w ⟨i,G,hm,hi,S⟩
 refine wp_seq_k fun K hK=>?_
 refine wp_reg fun K hK=>?_
 refine S.m rfl (S.g 0 rfl) rfl fun a w G S=>?_
 refine S.m rfl (S.g 5 rfl) rfl fun a w G S=>?_
 refine S.s (OpR.lenL S.ok rfl Tryz.underlying22 (S.g 0 rfl) MT.self) rfl fun a w G S=>?_
 refine S.s (OpR.nlss S.ok rfl (S.e 2 rfl) (S.e 0 rfl) MT.self) rfl fun a w G S=>?_
 refine wn hK ?_;clear hK K
 replace S:=S.d3.d2.d1
 refine S.cond 0 rfl (fun hc1=>?_) (fun hc1=>?_)
 ·
  have hp2:=of_decide_eq_true hc1
  refine wp_skip ?_
  refine hK _ _ ?_;clear hK K
  refine wp_seq_k fun K hK=>?_
  refine wp_block ?_
  refine wp_seq_k fun K hK=>?_
  refine S.drawn [⟨17,.g (SL l),[]⟩,⟨18,.g (NT i),[]⟩,⟨19,.g (PE (none) (MT.ex (nv .u32 (dig (l) (i))))),[0,1]⟩,⟨20,.g (MT.ex (nv .u32 (dig (l) (i)))),[2]⟩,⟨21,.g (SL l),[]⟩,⟨22,.g (NT i),[]⟩,⟨23,.g (PE (none) (MT.ex (nv .u32 (dig (l) (i))))),[4,5]⟩,⟨24,.g (MT.ex (nv .u32 (dig (l) (i)))),[6]⟩,⟨25,.g (BT false),[3,7]⟩] mixedOrders (by kernel_rfl)
   ⟨fun a w G S=>.of rfl (OpR.mv S.ok rfl (S.g 5 rfl)),
    fun a w G S=>.of rfl (OpR.mv S.ok rfl (S.g 1 rfl)),
    fun a w G S=>.of rfl (OpR.ixL (i:=i) S.ok rfl Tryz.underlying22 tS_91 (S.g 0 rfl) (S.e 1 rfl) rfl (dig_get (by first | omega | (simp;omega)))),
    fun a w G S=>.of rfl (OpR.ldE S.ok rfl tS_91 (S.g 0 rfl)),
    fun a w G S=>.of rfl (OpR.mv S.ok rfl (S.g 4 rfl)),
    fun a w G S=>.of rfl (OpR.mv S.ok rfl (S.g 1 rfl)),
    fun a w G S=>.of rfl (OpR.ixL (i:=i) S.ok rfl Tryz.underlying22 tS_91 (S.g 0 rfl) (S.e 1 rfl) rfl (dig_get (by first | omega | (simp;omega)))),
    fun a w G S=>.of rfl (OpR.ldE S.ok rfl tS_91 (S.g 0 rfl)),
    fun a w G S=>.of rfl (OpR.nneq S.ok rfl (S.e 0 rfl) (S.e 1 rfl) (bv_eq (by simp))),trivial⟩ fun β a w G S=>?_
  replace S : St W0 G0 26 [(25,BT false),(14,BT (decide (i < l.length))),(5,NT i),(10,BT false),(4,BT false),(1,SL l),(0,SL l)] [] a _ _:=S.keep [0,9,10,11,12,13,14]
  refine wn hK ?_;clear hK K
  refine wp_cond_false (S.e 0 rfl) ?_
  refine wp_skip ?_
  refine hK _ _ ?_;clear hK K
  refine wp_region_lit ?_
  refine S.m rfl (S.g 2 rfl) rfl fun a w G S=>?_
  refine S.s (OpR.nadd S.ok rfl (S.e 0 rfl) (rfl : _ = nv .i64 1) (wr_i64 (by omega)) MT.self) rfl fun a w G S=>?_
  replace S:=S.d4
  refine S.q rfl (S.g 0 rfl) rfl fun a w G S=>?_
  refine wpList_nil ?_
  replace S:=S.d2.d1
  exact ⟨l.length - (i + 1),(by omega),i + 1,_,rfl,(by omega),(S.keep [0,3,4,5,6]).keepB [] (by decide)⟩
 ·
  have hp3:=of_decide_eq_false hc1
  refine wp_exit (then_exit (then_exit (exit_same ?_)))
  clear hK K
  refine hK _ _ ?_;clear hK K
  refine wp_reg fun K hK=>?_
  replace S:=S.d3
  refine S.s (τ:=BT true) (OpR.asn S.ok rfl rfl) rfl fun a w G S=>?_
  refine wn hK ?_;clear hK K
  exact wp_ret (S.retTmp rfl (S.g 0 rfl))
theorem bRat_ok {r : FR} {v1 v2 : Value} {W0 : World} {G0 : Gh} (hok : Gok W0 G0) (h1 : (RX r).t v1 G0) (h2 : (RX r).t v2 G0)  : Calls Tryz.prog 43 #[v1,v2] W0 (Ret W0 G0 (BT true)):=by
 refine St.enter (N:=24) (L:=[(1,RX r),(0,RX r)]) (args:=[v1,v2]) Tryz.func43 rfl rfl rfl hok (enter2 h1 h2) fun a S=>?_
 refine wp_reg fun K hK=>?_
 refine S.boxop (x:=.tmp 0) (τ:=RX r) (S.g 1 rfl) (sh (τ:=RX r) (S.g 1 rfl)) rfl rfl rfl rfl rfl fun b2 a w G S=>?_
 refine S.boxop (x:=.tmp 1) (τ:=RX r) (S.g 1 rfl) (sh (τ:=RX r) (S.g 1 rfl)) rfl rfl rfl rfl rfl fun b3 a w G S=>?_
 refine S.s (τ:=BT false) (OpR.asn S.ok rfl rfl) rfl fun a w G S=>?_
 refine wn hK ?_;clear hK K
 replace S:=S.d4.d3
 refine wp_reg fun K hK=>?_
 refine S.s (τ:=PB b2) (OpR.fldA S.ok rfl (S.e 2 rfl) fo_24_0 rfl) rfl fun a w G S=>?_
 refine S.s (OpR.ldCell S.ok rfl (S.e 0 rfl) (S.box 1 rfl) tS_4 fun _ h hs=>RX.f0 h hs) rfl fun a w G S=>?_
 refine S.s (τ:=PB b3) (OpR.fldA S.ok rfl (S.e 3 rfl) fo_24_0 rfl) rfl fun a w G S=>?_
 refine S.s (OpR.ldCell S.ok rfl (S.e 0 rfl) (S.box 0 rfl) tS_4 fun _ h hs=>RX.f0 h hs) rfl fun a w G S=>?_
 refine S.s (τ:=BT true) (OpR.beql S.ok rfl (S.e 2 rfl) (S.e 0 rfl) Tryz.underlying4 (bv_eq (by simp))) rfl fun a w G S=>?_
 refine S.m rfl (S.g 0 rfl) rfl fun a w G S=>?_
 refine S.stepG (τ:=MT.ex (Value.pointer (some ⟨b2,1,none⟩))) 0 (OpR.fldA S.ok rfl (S.e 8 rfl) fo_24_1 rfl) rfl rfl rfl rfl rfl rfl fun a w G S=>?_
 refine S.stepG 1 (OpR.ldCell S.ok rfl (S.e 0 rfl) (S.box 1 rfl) tS_22 fun _ h hs=>RX.f1 h hs) rfl rfl rfl rfl rfl rfl fun a w G S=>?_
 refine S.stepG (τ:=MT.ex (Value.pointer (some ⟨b3,1,none⟩))) 2 (OpR.fldA S.ok rfl (S.e 9 rfl) fo_24_1 rfl) rfl rfl rfl rfl rfl rfl fun a w G S=>?_
 refine S.stepG 3 (OpR.ldCell S.ok rfl (S.e 0 rfl) (S.box 0 rfl) tS_22 fun _ h hs=>RX.f1 h hs) rfl rfl rfl rfl rfl rfl fun a w G S=>?_
 refine S.stepG (τ:=BT true) 4 (OpR.call2 rfl c_74 (bWords_ok S.ok (SL.eq (S.g 2 rfl) (by first | rfl | omega | (simp only [Nat.zero_add,Nat.add_zero];done) | (simp;done) | (push_cast;omega))) (SL.eq (S.g 0 rfl) (by first | rfl | omega | (simp only [Nat.zero_add,Nat.add_zero];done) | (simp;done) | (push_cast;omega))))) rfl rfl rfl rfl rfl rfl fun a w G S=>?_
 refine S.s (τ:=BT true) (OpR.pick S.ok rfl (S.e 5 rfl) (S.g 0 rfl)) rfl fun a w G S=>?_
 refine S.m rfl (S.g 0 rfl) rfl fun a w G S=>?_
 refine S.stepG (τ:=MT.ex (Value.pointer (some ⟨b2,2,none⟩))) 0 (OpR.fldA S.ok rfl (S.e 15 rfl) fo_24_2 rfl) rfl rfl rfl rfl rfl rfl fun a w G S=>?_
 refine S.stepG 1 (OpR.ldCell S.ok rfl (S.e 0 rfl) (S.box 1 rfl) tS_22 fun _ h hs=>RX.f2 h hs) rfl rfl rfl rfl rfl rfl fun a w G S=>?_
 refine S.stepG (τ:=MT.ex (Value.pointer (some ⟨b3,2,none⟩))) 2 (OpR.fldA S.ok rfl (S.e 16 rfl) fo_24_2 rfl) rfl rfl rfl rfl rfl rfl fun a w G S=>?_
 refine S.stepG 3 (OpR.ldCell S.ok rfl (S.e 0 rfl) (S.box 0 rfl) tS_22 fun _ h hs=>RX.f2 h hs) rfl rfl rfl rfl rfl rfl fun a w G S=>?_
 refine S.stepG (τ:=BT true) 4 (OpR.call2 rfl c_74 (bWords_ok S.ok (SL.eq (S.g 2 rfl) (by first | rfl | omega | (simp only [Nat.zero_add,Nat.add_zero];done) | (simp;done) | (push_cast;omega))) (SL.eq (S.g 0 rfl) (by first | rfl | omega | (simp only [Nat.zero_add,Nat.add_zero];done) | (simp;done) | (push_cast;omega))))) rfl rfl rfl rfl rfl rfl fun a w G S=>?_
 refine S.s (τ:=BT true) (OpR.pick S.ok rfl (S.e 5 rfl) (S.g 0 rfl)) rfl fun a w G S=>?_
 replace S:=S.d19
 refine S.q rfl (S.g 0 rfl) rfl fun a w G S=>?_
 refine wn hK ?_;clear hK K
 replace S:=S.d21.d20.d19.d18.d17.d16.d15.d14.d13.d12.d11.d10.d9.d8.d7.d6.d5.d4.d3.d2.d1
 exact wp_ret (S.retTmp rfl (S.g 0 rfl))
theorem rInvert_ok {n : Nat} {rg ra rb rc : FR} {k : Int} {v1 v2 : Value} {W0 : World} {G0 : Gh} (hok : Gok W0 G0) (h1 : (PTS [(some 3,FX n rg),(some 3,FX n ra),(some 3,FX n rb),(some 3,FX n rc)]).t v1 G0) (h2 : (IT k).t v2 G0) (hn : 1000 * n + 10000 ≤ BIG) (hn1 : 1 ≤ n) (hck : chkF [rg,ra,rb,rc] = 0) : Calls Tryz.prog 17 #[v1,v2] W0 (Ret W0 G0 (PTS [(some 3,FX n (invF [rg,ra,rb,rc] k 0)),(some 3,FX n (invF [rg,ra,rb,rc] k 1)),(some 3,FX n (invF [rg,ra,rb,rc] k 2)),(some 3,FX n (invF [rg,ra,rb,rc] k 3))])):=by
 have hmd:=md4_lt k
 refine St.enter (N:=31) (L:=[(1,IT k),(0,PTS [(some 3,FX n rg),(some 3,FX n ra),(some 3,FX n rb),(some 3,FX n rc)])]) (args:=[v1,v2]) Tryz.func17 rfl rfl rfl hok (enter2 h1 h2) fun a S=>?_
 refine wp_reg fun K hK=>?_
 refine S.boxop (x:=.tmp 0) (τ:=PTS [(some 3,FX n rg),(some 3,FX n ra),(some 3,FX n rb),(some 3,FX n rc)]) (S.g 1 rfl) (sh (τ:=PTS [(some 3,FX n rg),(some 3,FX n ra),(some 3,FX n rb),(some 3,FX n rc)]) (S.g 1 rfl)) rfl rfl rfl rfl rfl fun b2 a w G S=>?_
 refine S.alloc rfl rfl rfl z_26 zs_26 rfl rfl fun b4 a w G S=>?_
 refine wn hK ?_;clear hK K
 replace S:=S.d3
 refine wp_reg fun K hK=>?_
 refine S.s (OpR.ldBox S.ok rfl (S.e 1 rfl) (S.box 1 rfl) tS_26) rfl fun a w G S=>?_
 refine S.s (τ:=ARN (some 3) (([rg,ra,rb,rc]).map (FX n))) (OpR.call1 rfl c_23 (rSquares_ok S.ok (S.g 0 rfl))) rfl fun a w G S=>?_
 refine S.alloc rfl rfl rfl z_49 zs_49 rfl rfl fun b5 a w G S=>?_
 refine S.store (τ:=ARN (some 3) (([rg,ra,rb,rc]).map (FX n))) 0 rfl rfl rfl rfl (S.e 0 rfl) tS_49 (S.g 1 rfl) (sh (τ:=ARN (some 3) (([rg,ra,rb,rc]).map (FX n))) (S.g 1 rfl)) fun w S=>?_
 replace S:=S.n0
 replace S:=(S.castBox (τ':=ROWS (some 3) (([rg,ra,rb,rc]).map (FX n))) 0 rfl fun _ h _=>ARN.rows h).n0
 refine wn hK ?_;clear hK K
 replace S:=S.d4.d2.d1
 refine wp_reg fun K hK=>?_
 refine S.m rfl (S.g 2 rfl) rfl fun a w G S=>?_
 refine S.s (τ:=IT (k.tmod 4)) (OpR.irem S.ok rfl (S.e 0 rfl) (rfl : _ = nv .i64 4) (by omega) rfl) rfl fun a w G S=>?_
 refine S.s (τ:=IT ((k.tmod 4) + 4)) (OpR.iadd S.ok rfl (S.e 0 rfl) (rfl : _ = nv .i64 4) (iw_i64 (by omega) (tmod4_bd k))) rfl fun a w G S=>?_
 refine S.s (τ:=NT (md4 k)) (OpR.irem S.ok rfl (S.e 0 rfl) (rfl : _ = nv .i64 4) (by omega) (iv_eq (md4_eq k))) rfl fun a w G S=>?_
 replace S:=S.d6
 refine S.q rfl (S.g 0 rfl) rfl fun a w G S=>?_
 refine wn hK ?_;clear hK K
 replace S:=S.d4.d3.d2.d1
 refine wp_seq_k fun K hK=>?_
 refine S.drawn [⟨12,.g (NT (md4 k)),[]⟩,⟨13,.g (MT.ex (Value.pointer (some ⟨b5,(md4 k) * (some 3 : Option Nat).getD 1,none⟩))),[0]⟩,⟨14,.g (FX n (([rg,ra,rb,rc]).getD (md4 k) default)),[1]⟩,⟨15,.g (NT (md4 k)),[]⟩,⟨16,.g (NT (1 + (md4 k))),[3]⟩,⟨17,.g (NT ((1 + (md4 k)) % 4)),[4]⟩,⟨18,.g (MT.ex (Value.pointer (some ⟨b5,((1 + (md4 k)) % 4) * (some 3 : Option Nat).getD 1,none⟩))),[5]⟩,⟨19,.g (FX n (([rg,ra,rb,rc]).getD ((1 + (md4 k)) % 4) default)),[6]⟩,⟨20,.g (NT (md4 k)),[]⟩,⟨21,.g (NT (2 + (md4 k))),[8]⟩,⟨22,.g (NT ((2 + (md4 k)) % 4)),[9]⟩,⟨23,.g (MT.ex (Value.pointer (some ⟨b5,((2 + (md4 k)) % 4) * (some 3 : Option Nat).getD 1,none⟩))),[10]⟩,⟨24,.g (FX n (([rg,ra,rb,rc]).getD ((2 + (md4 k)) % 4) default)),[11]⟩,⟨25,.g (NT (md4 k)),[]⟩,⟨26,.g (NT (3 + (md4 k))),[13]⟩,⟨27,.g (NT ((3 + (md4 k)) % 4)),[14]⟩,⟨28,.g (MT.ex (Value.pointer (some ⟨b5,((3 + (md4 k)) % 4) * (some 3 : Option Nat).getD 1,none⟩))),[15]⟩,⟨29,.g (FX n (([rg,ra,rb,rc]).getD ((3 + (md4 k)) % 4) default)),[16]⟩,⟨30,.g (PTS [(some 3,FX n (invF [rg,ra,rb,rc] k 0)),(some 3,FX n (invF [rg,ra,rb,rc] k 1)),(some 3,FX n (invF [rg,ra,rb,rc] k 2)),(some 3,FX n (invF [rg,ra,rb,rc] k 3))]),[2,7,12,17]⟩] mixedOrders (by kernel_rfl)
  ⟨fun a w G S=>.of rfl (OpR.mv S.ok rfl (S.g 0 rfl)),
   fun a w G S=>.of rfl (OpR.ixAr (i:=md4 k) S.ok rfl Tryz.underlying49 tS_24 (S.e 2 rfl) (S.e 0 rfl) rfl (by first | exact hmd | exact Nat.mod_lt _ (by decide)) rfl),
   fun a w G S=>.of rfl (OpR.ldSM (k:=some 3) (T:=(FX n)) (xs:=[rg,ra,rb,rc]) (i:=md4 k) S.ok rfl (S.e 0 rfl) (S.box 0 rfl) tS_24 (by first | exact hmd | exact Nat.mod_lt _ (by decide))),
   fun a w G S=>.of rfl (OpR.mv S.ok rfl (S.g 0 rfl)),
   fun a w G S=>.of rfl (OpR.nadd S.ok rfl (rfl : _ = nv .i64 1) (S.e 0 rfl) (wr_i64 (by omega)) MT.self),
   fun a w G S=>.of rfl (OpR.nrem S.ok rfl (S.e 0 rfl) (rfl : _ = nv .i64 4) (by omega) MT.self),
   fun a w G S=>.of rfl (OpR.ixAr (i:=(1 + (md4 k)) % 4) S.ok rfl Tryz.underlying49 tS_24 (S.e 2 rfl) (S.e 0 rfl) rfl (by first | exact hmd | exact Nat.mod_lt _ (by decide)) rfl),
   fun a w G S=>.of rfl (OpR.ldSM (k:=some 3) (T:=(FX n)) (xs:=[rg,ra,rb,rc]) (i:=(1 + (md4 k)) % 4) S.ok rfl (S.e 0 rfl) (S.box 0 rfl) tS_24 (by first | exact hmd | exact Nat.mod_lt _ (by decide))),
   fun a w G S=>.of rfl (OpR.mv S.ok rfl (S.g 0 rfl)),
   fun a w G S=>.of rfl (OpR.nadd S.ok rfl (rfl : _ = nv .i64 2) (S.e 0 rfl) (wr_i64 (by omega)) MT.self),
   fun a w G S=>.of rfl (OpR.nrem S.ok rfl (S.e 0 rfl) (rfl : _ = nv .i64 4) (by omega) MT.self),
   fun a w G S=>.of rfl (OpR.ixAr (i:=(2 + (md4 k)) % 4) S.ok rfl Tryz.underlying49 tS_24 (S.e 2 rfl) (S.e 0 rfl) rfl (by first | exact hmd | exact Nat.mod_lt _ (by decide)) rfl),
   fun a w G S=>.of rfl (OpR.ldSM (k:=some 3) (T:=(FX n)) (xs:=[rg,ra,rb,rc]) (i:=(2 + (md4 k)) % 4) S.ok rfl (S.e 0 rfl) (S.box 0 rfl) tS_24 (by first | exact hmd | exact Nat.mod_lt _ (by decide))),
   fun a w G S=>.of rfl (OpR.mv S.ok rfl (S.g 0 rfl)),
   fun a w G S=>.of rfl (OpR.nadd S.ok rfl (rfl : _ = nv .i64 3) (S.e 0 rfl) (wr_i64 (by omega)) MT.self),
   fun a w G S=>.of rfl (OpR.nrem S.ok rfl (S.e 0 rfl) (rfl : _ = nv .i64 4) (by omega) MT.self),
   fun a w G S=>.of rfl (OpR.ixAr (i:=(3 + (md4 k)) % 4) S.ok rfl Tryz.underlying49 tS_24 (S.e 2 rfl) (S.e 0 rfl) rfl (by first | exact hmd | exact Nat.mod_lt _ (by decide)) rfl),
   fun a w G S=>.of rfl (OpR.ldSM (k:=some 3) (T:=(FX n)) (xs:=[rg,ra,rb,rc]) (i:=(3 + (md4 k)) % 4) S.ok rfl (S.e 0 rfl) (S.box 0 rfl) tS_24 (by first | exact hmd | exact Nat.mod_lt _ (by decide))),
   fun a w G S=>.of rfl (OpR.bldP (us:=[a.eval (.tmp 14),a.eval (.tmp 19),a.eval (.tmp 24),a.eval (.tmp 29)]) S.ok rfl (by simp only [List.map_toArray,List.map_cons,List.map_nil];exact bp_26_0_1_2_3 (u0:=a.eval (.tmp 14)) (u1:=a.eval (.tmp 19)) (u2:=a.eval (.tmp 24)) (u3:=a.eval (.tmp 29)) (sh (τ:=FX n (([rg,ra,rb,rc]).getD (md4 k) default)) (S.g 0 rfl)) (sh (τ:=FX n (([rg,ra,rb,rc]).getD ((1 + (md4 k)) % 4) default)) (S.g 1 rfl)) (sh (τ:=FX n (([rg,ra,rb,rc]).getD ((2 + (md4 k)) % 4) default)) (S.g 2 rfl)) (sh (τ:=FX n (([rg,ra,rb,rc]).getD ((3 + (md4 k)) % 4) default)) (S.g 3 rfl))) rfl (pts_cons (sh (τ:=FX n (invF [rg,ra,rb,rc] k 0)) (FX.inv hck (FX.eq (S.g 0 rfl) (by first | rfl | (rw [Nat.zero_add,Nat.mod_eq_of_lt hmd]))))) (FX.inv hck (FX.eq (S.g 0 rfl) (by first | rfl | (rw [Nat.zero_add,Nat.mod_eq_of_lt hmd])))) (pts_cons (sh (τ:=FX n (invF [rg,ra,rb,rc] k 1)) (FX.inv hck (FX.eq (S.g 1 rfl) (by first | rfl | (rw [Nat.zero_add,Nat.mod_eq_of_lt hmd]))))) (FX.inv hck (FX.eq (S.g 1 rfl) (by first | rfl | (rw [Nat.zero_add,Nat.mod_eq_of_lt hmd])))) (pts_cons (sh (τ:=FX n (invF [rg,ra,rb,rc] k 2)) (FX.inv hck (FX.eq (S.g 2 rfl) (by first | rfl | (rw [Nat.zero_add,Nat.mod_eq_of_lt hmd]))))) (FX.inv hck (FX.eq (S.g 2 rfl) (by first | rfl | (rw [Nat.zero_add,Nat.mod_eq_of_lt hmd])))) (pts_cons (sh (τ:=FX n (invF [rg,ra,rb,rc] k 3)) (FX.inv hck (FX.eq (S.g 3 rfl) (by first | rfl | (rw [Nat.zero_add,Nat.mod_eq_of_lt hmd]))))) (FX.inv hck (FX.eq (S.g 3 rfl) (by first | rfl | (rw [Nat.zero_add,Nat.mod_eq_of_lt hmd])))) pts_nil))))),trivial⟩ fun β a w G S=>?_
 replace S : St W0 G0 31 [(30,PTS [(some 3,FX n (invF [rg,ra,rb,rc] k 0)),(some 3,FX n (invF [rg,ra,rb,rc] k 1)),(some 3,FX n (invF [rg,ra,rb,rc] k 2)),(some 3,FX n (invF [rg,ra,rb,rc] k 3))]),(1,NT (md4 k)),(5,PB b5),(4,PB b4)] [⟨b5,49,some 12,ROWS (some 3) (([rg,ra,rb,rc]).map (FX n))⟩,⟨b4,26,some 12,MT.ex ((.agg #[.bool false,.slice none 0 0,.slice none 0 0,.bool false,.slice none 0 0,.slice none 0 0,.bool false,.slice none 0 0,.slice none 0 0,.bool false,.slice none 0 0,.slice none 0 0] : Value))⟩,⟨b2,26,some 12,PTS [(some 3,FX n rg),(some 3,FX n ra),(some 3,FX n rb),(some 3,FX n rc)]⟩] a _ _:=S.keep [0,19,20,21]
 refine S.store (τ:=PTS [(some 3,FX n (invF [rg,ra,rb,rc] k 0)),(some 3,FX n (invF [rg,ra,rb,rc] k 1)),(some 3,FX n (invF [rg,ra,rb,rc] k 2)),(some 3,FX n (invF [rg,ra,rb,rc] k 3))]) 1 rfl rfl rfl rfl (S.e 3 rfl) tS_26 (S.g 0 rfl) (sh (τ:=PTS [(some 3,FX n (invF [rg,ra,rb,rc] k 0)),(some 3,FX n (invF [rg,ra,rb,rc] k 1)),(some 3,FX n (invF [rg,ra,rb,rc] k 2)),(some 3,FX n (invF [rg,ra,rb,rc] k 3))]) (S.g 0 rfl)) fun w S=>?_
 replace S:=S.n1
 refine wn hK ?_;clear hK K
 replace S:=S.d0
 exact wp_ret (S.retCell (i:=1) rfl (S.e 2 rfl) rfl tS_26 (fun _ h=>h))
theorem rRotates_ok {n k : Nat} {rg ra rb rc : FR} {v1 v2 : Value} {W0 : World} {G0 : Gh} (hok : Gok W0 G0) (h1 : (PTS [(some 3,FX n rg),(some 3,FX n ra),(some 3,FX n rb),(some 3,FX n rc)]).t v1 G0) (h2 : (NT k).t v2 G0) (hn : 1000 * n + 10000 ≤ BIG) (hn1 : 1 ≤ n) (hk : k < 4) (hp : [rg,ra,rb,rc].all posR = true) : Calls Tryz.prog 19 #[v1,v2] W0 (Ret W0 G0 (BT (rotL [rg,ra,rb,rc] k))):=by
 refine St.enter (N:=56) (L:=[(1,NT k),(0,PTS [(some 3,FX n rg),(some 3,FX n ra),(some 3,FX n rb),(some 3,FX n rc)])]) (args:=[v1,v2]) Tryz.func19 rfl rfl rfl hok (enter2 h1 h2) fun a S=>?_
 refine wp_reg fun K hK=>?_
 refine S.boxop (x:=.tmp 0) (τ:=PTS [(some 3,FX n rg),(some 3,FX n ra),(some 3,FX n rb),(some 3,FX n rc)]) (S.g 1 rfl) (sh (τ:=PTS [(some 3,FX n rg),(some 3,FX n ra),(some 3,FX n rb),(some 3,FX n rc)]) (S.g 1 rfl)) rfl rfl rfl rfl rfl fun b2 a w G S=>?_
 refine S.s (τ:=BT false) (OpR.asn S.ok rfl rfl) rfl fun a w G S=>?_
 refine wn hK ?_;clear hK K
 replace S:=S.d3
 refine wp_reg fun K hK=>?_
 refine S.s (OpR.ldBox S.ok rfl (S.e 1 rfl) (S.box 0 rfl) tS_26) rfl fun a w G S=>?_
 refine S.s (τ:=ARN (some 3) (([rg,ra,rb,rc]).map (FX n))) (OpR.call1 rfl c_23 (rSquares_ok S.ok (S.g 0 rfl))) rfl fun a w G S=>?_
 refine S.alloc rfl rfl rfl z_49 zs_49 rfl rfl fun b5 a w G S=>?_
 refine S.store (τ:=ARN (some 3) (([rg,ra,rb,rc]).map (FX n))) 0 rfl rfl rfl rfl (S.e 0 rfl) tS_49 (S.g 1 rfl) (sh (τ:=ARN (some 3) (([rg,ra,rb,rc]).map (FX n))) (S.g 1 rfl)) fun w S=>?_
 replace S:=S.n0
 replace S:=(S.castBox (τ':=ROWS (some 3) (([rg,ra,rb,rc]).map (FX n))) 0 rfl fun _ h _=>ARN.rows h).n0
 refine wn hK ?_;clear hK K
 replace S:=S.d4.d2.d1
 refine wp_seq_k fun K hK=>?_
 refine S.drawnS [⟨12,.g (NT k),[]⟩,⟨13,.g (MT.ex (Value.pointer (some ⟨b5,(k) * (some 3 : Option Nat).getD 1,none⟩))),[0]⟩,⟨14,.g (FX n (([rg,ra,rb,rc]).getD k default)),[1]⟩,⟨15,.g (NT k),[]⟩,⟨16,.g (NT (k + 3)),[3]⟩,⟨17,.g (NT ((k + 3) % 4)),[4]⟩,⟨18,.g (MT.ex (Value.pointer (some ⟨b5,((k + 3) % 4) * (some 3 : Option Nat).getD 1,none⟩))),[5]⟩,⟨19,.g (FX n (([rg,ra,rb,rc]).getD ((k + 3) % 4) default)),[6]⟩,⟨20,.g (NT k),[]⟩,⟨21,.g (NT (k + 1)),[8]⟩,⟨22,.g (NT ((k + 1) % 4)),[9]⟩,⟨23,.g (MT.ex (Value.pointer (some ⟨b5,((k + 1) % 4) * (some 3 : Option Nat).getD 1,none⟩))),[10]⟩,⟨24,.g (FX n (([rg,ra,rb,rc]).getD ((k + 1) % 4) default)),[11]⟩,⟨25,.g (NT k),[]⟩,⟨26,.g (NT (k + 2)),[13]⟩,⟨27,.g (NT ((k + 2) % 4)),[14]⟩,⟨28,.g (MT.ex (Value.pointer (some ⟨b5,((k + 2) % 4) * (some 3 : Option Nat).getD 1,none⟩))),[15]⟩,⟨29,.g (FX n (([rg,ra,rb,rc]).getD ((k + 2) % 4) default)),[16]⟩,⟨6,.al mkP 24 (some 3) (MT.ex (.agg #[.bool false,.slice none 0 0,.slice none 0 0])),[]⟩,⟨7,.al mkP 24 (some 3) (MT.ex (.agg #[.bool false,.slice none 0 0,.slice none 0 0])),[]⟩,⟨8,.al mkP 24 (some 3) (MT.ex (.agg #[.bool false,.slice none 0 0,.slice none 0 0])),[]⟩,⟨9,.al mkP 24 (some 3) (MT.ex (.agg #[.bool false,.slice none 0 0,.slice none 0 0])),[]⟩,⟨9998,.st 20 (FX n (([rg,ra,rb,rc]).getD k default)),[18,2]⟩,⟨9998,.st 21 (FX n (([rg,ra,rb,rc]).getD ((k + 3) % 4) default)),[19,7]⟩,⟨9998,.st 22 (FX n (([rg,ra,rb,rc]).getD ((k + 1) % 4) default)),[20,12]⟩,⟨9998,.st 23 (FX n (([rg,ra,rb,rc]).getD ((k + 2) % 4) default)),[21,17]⟩] mixedOrders (by kernel_rfl)
  ⟨⟨rfl,fun a w G S=>.of rfl (OpR.mv S.ok rfl (S.g 2 rfl))⟩,
   ⟨rfl,fun a w G S=>.of rfl (OpR.ixAr (i:=k) S.ok rfl Tryz.underlying49 tS_24 (S.e 1 rfl) (S.e 0 rfl) rfl (by first | omega | exact Nat.mod_lt _ (by decide)) rfl)⟩,
   ⟨rfl,fun a w G S=>have S:=S.boxes (B':=[⟨b5,49,some 12,ROWS (some 3) (([rg,ra,rb,rc]).map (FX n))⟩,⟨b2,26,some 12,PTS [(some 3,FX n rg),(some 3,FX n ra),(some 3,FX n rb),(some 3,FX n rc)]⟩]) (by kernel_rfl);OpG.of rfl (OpR.ldSM (k:=some 3) (T:=(FX n)) (xs:=[rg,ra,rb,rc]) (i:=k) S.ok rfl (S.e 0 rfl) (S.box 0 rfl) tS_24 (by first | omega | exact Nat.mod_lt _ (by decide)))⟩,
   ⟨rfl,fun a w G S=>.of rfl (OpR.mv S.ok rfl (S.g 2 rfl))⟩,
   ⟨rfl,fun a w G S=>.of rfl (OpR.nadd S.ok rfl (S.e 0 rfl) (rfl : _ = nv .i64 3) (wr_i64 (by omega)) MT.self)⟩,
   ⟨rfl,fun a w G S=>.of rfl (OpR.nrem S.ok rfl (S.e 0 rfl) (rfl : _ = nv .i64 4) (by omega) MT.self)⟩,
   ⟨rfl,fun a w G S=>.of rfl (OpR.ixAr (i:=(k + 3) % 4) S.ok rfl Tryz.underlying49 tS_24 (S.e 1 rfl) (S.e 0 rfl) rfl (by first | omega | exact Nat.mod_lt _ (by decide)) rfl)⟩,
   ⟨rfl,fun a w G S=>have S:=S.boxes (B':=[⟨b5,49,some 12,ROWS (some 3) (([rg,ra,rb,rc]).map (FX n))⟩,⟨b2,26,some 12,PTS [(some 3,FX n rg),(some 3,FX n ra),(some 3,FX n rb),(some 3,FX n rc)]⟩]) (by kernel_rfl);OpG.of rfl (OpR.ldSM (k:=some 3) (T:=(FX n)) (xs:=[rg,ra,rb,rc]) (i:=(k + 3) % 4) S.ok rfl (S.e 0 rfl) (S.box 0 rfl) tS_24 (by first | omega | exact Nat.mod_lt _ (by decide)))⟩,
   ⟨rfl,fun a w G S=>.of rfl (OpR.mv S.ok rfl (S.g 2 rfl))⟩,
   ⟨rfl,fun a w G S=>.of rfl (OpR.nadd S.ok rfl (S.e 0 rfl) (rfl : _ = nv .i64 1) (wr_i64 (by omega)) MT.self)⟩,
   ⟨rfl,fun a w G S=>.of rfl (OpR.nrem S.ok rfl (S.e 0 rfl) (rfl : _ = nv .i64 4) (by omega) MT.self)⟩,
   ⟨rfl,fun a w G S=>.of rfl (OpR.ixAr (i:=(k + 1) % 4) S.ok rfl Tryz.underlying49 tS_24 (S.e 1 rfl) (S.e 0 rfl) rfl (by first | omega | exact Nat.mod_lt _ (by decide)) rfl)⟩,
   ⟨rfl,fun a w G S=>have S:=S.boxes (B':=[⟨b5,49,some 12,ROWS (some 3) (([rg,ra,rb,rc]).map (FX n))⟩,⟨b2,26,some 12,PTS [(some 3,FX n rg),(some 3,FX n ra),(some 3,FX n rb),(some 3,FX n rc)]⟩]) (by kernel_rfl);OpG.of rfl (OpR.ldSM (k:=some 3) (T:=(FX n)) (xs:=[rg,ra,rb,rc]) (i:=(k + 1) % 4) S.ok rfl (S.e 0 rfl) (S.box 0 rfl) tS_24 (by first | omega | exact Nat.mod_lt _ (by decide)))⟩,
   ⟨rfl,fun a w G S=>.of rfl (OpR.mv S.ok rfl (S.g 2 rfl))⟩,
   ⟨rfl,fun a w G S=>.of rfl (OpR.nadd S.ok rfl (S.e 0 rfl) (rfl : _ = nv .i64 2) (wr_i64 (by omega)) MT.self)⟩,
   ⟨rfl,fun a w G S=>.of rfl (OpR.nrem S.ok rfl (S.e 0 rfl) (rfl : _ = nv .i64 4) (by omega) MT.self)⟩,
   ⟨rfl,fun a w G S=>.of rfl (OpR.ixAr (i:=(k + 2) % 4) S.ok rfl Tryz.underlying49 tS_24 (S.e 1 rfl) (S.e 0 rfl) rfl (by first | omega | exact Nat.mod_lt _ (by decide)) rfl)⟩,
   ⟨rfl,fun a w G S=>have S:=S.boxes (B':=[⟨b5,49,some 12,ROWS (some 3) (([rg,ra,rb,rc]).map (FX n))⟩,⟨b2,26,some 12,PTS [(some 3,FX n rg),(some 3,FX n ra),(some 3,FX n rb),(some 3,FX n rc)]⟩]) (by kernel_rfl);OpG.of rfl (OpR.ldSM (k:=some 3) (T:=(FX n)) (xs:=[rg,ra,rb,rc]) (i:=(k + 2) % 4) S.ok rfl (S.e 0 rfl) (S.box 0 rfl) tS_24 (by first | omega | exact Nat.mod_lt _ (by decide)))⟩,
   ⟨rfl,fun _=>rfl,rfl,fun a w G S=>OpB.alloc S.ok rfl z_24 zs_24⟩,
   ⟨rfl,fun _=>rfl,rfl,fun a w G S=>OpB.alloc S.ok rfl z_24 zs_24⟩,
   ⟨rfl,fun _=>rfl,rfl,fun a w G S=>OpB.alloc S.ok rfl z_24 zs_24⟩,
   ⟨rfl,fun _=>rfl,rfl,fun a w G S=>OpB.alloc S.ok rfl z_24 zs_24⟩,
   ⟨rfl,rfl,rfl,.inl ⟨_,_,_,_,rfl,tS_24,fun a w G S=>⟨(S.g 0 rfl),sh (τ:=FX n (([rg,ra,rb,rc]).getD k default)) (S.g 0 rfl)⟩,by rw [if_neg (by simp only [List.length_cons,List.length_nil];omega)];exact ⟨_,_,_,rfl,rfl,rfl,rfl⟩⟩⟩,
   ⟨rfl,rfl,rfl,.inl ⟨_,_,_,_,rfl,tS_24,fun a w G S=>⟨(S.g 0 rfl),sh (τ:=FX n (([rg,ra,rb,rc]).getD ((k + 3) % 4) default)) (S.g 0 rfl)⟩,by rw [if_neg (by simp only [List.length_cons,List.length_nil];omega)];exact ⟨_,_,_,rfl,rfl,rfl,rfl⟩⟩⟩,
   ⟨rfl,rfl,rfl,.inl ⟨_,_,_,_,rfl,tS_24,fun a w G S=>⟨(S.g 0 rfl),sh (τ:=FX n (([rg,ra,rb,rc]).getD ((k + 1) % 4) default)) (S.g 0 rfl)⟩,by rw [if_neg (by simp only [List.length_cons,List.length_nil];omega)];exact ⟨_,_,_,rfl,rfl,rfl,rfl⟩⟩⟩,
   ⟨rfl,rfl,rfl,.inl ⟨_,_,_,_,rfl,tS_24,fun a w G S=>⟨(S.g 0 rfl),sh (τ:=FX n (([rg,ra,rb,rc]).getD ((k + 2) % 4) default)) (S.g 0 rfl)⟩,by rw [if_neg (by simp only [List.length_cons,List.length_nil];omega)];exact ⟨_,_,_,rfl,rfl,rfl,rfl⟩⟩⟩,trivial⟩ fun β a w G S=>?_
 replace S : St W0 G0 56 [(9,PB (β 21)),(8,PB (β 20)),(7,PB (β 19)),(6,PB (β 18)),(5,PB b5),(4,BT false)] [⟨(β 21),24,some 3,FX n (([rg,ra,rb,rc]).getD ((k + 2) % 4) default)⟩,⟨(β 20),24,some 3,FX n (([rg,ra,rb,rc]).getD ((k + 1) % 4) default)⟩,⟨(β 19),24,some 3,FX n (([rg,ra,rb,rc]).getD ((k + 3) % 4) default)⟩,⟨(β 18),24,some 3,FX n (([rg,ra,rb,rc]).getD k default)⟩,⟨b5,49,some 12,ROWS (some 3) (([rg,ra,rb,rc]).map (FX n))⟩,⟨b2,26,some 12,PTS [(some 3,FX n rg),(some 3,FX n ra),(some 3,FX n rb),(some 3,FX n rc)]⟩] a _ _:=S.keep [0,1,2,3,22,23]
 generalize β 18 = b6 at S
 generalize β 19 = b7 at S
 generalize β 20 = b8 at S
 generalize β 21 = b9 at S
 refine wn hK ?_;clear hK K
 refine wp_seq_k fun K hK=>?_
 refine wp_reg fun K hK=>?_
 refine S.s (OpR.ldBox S.ok rfl (S.e 3 rfl) (S.box 3 rfl) tS_24) rfl fun a w G S=>?_
 refine S.s (OpR.ldBox S.ok rfl (S.e 3 rfl) (S.box 2 rfl) tS_24) rfl fun a w G S=>?_
 refine S.s (τ:=IT (cmpQ ((([rg,ra,rb,rc]).getD k default).val) ((([rg,ra,rb,rc]).getD ((k + 3) % 4) default).val))) (OpR.call2 rfl c_44 (gCmp_ok S.ok (FX.toQV (S.g 1 rfl)) (FX.toQV (S.g 0 rfl)) (by omega))) rfl fun a w G S=>?_
 refine S.s (OpR.ilss S.ok rfl (S.e 0 rfl) (rfl : _ = nv .i64 0) MT.self) rfl fun a w G S=>?_
 refine wn hK ?_;clear hK K
 replace S:=S.d3.d2.d1
 refine S.cond 0 rfl (fun hc1=>?_) (fun hc1=>?_)
 ·
  have hp2:=of_decide_eq_true hc1
  have hA:=mm_t hp2
  refine wp_region_lit ?_
  refine S.s (OpR.ldBox S.ok rfl (S.e 3 rfl) (S.box 2 rfl) tS_24) rfl fun a w G S=>?_
  refine S.s (OpR.ldBox S.ok rfl (S.e 5 rfl) (S.box 3 rfl) tS_24) rfl fun a w G S=>?_
  refine S.store (τ:=FX n (([rg,ra,rb,rc]).getD ((k + 3) % 4) default)) 3 rfl rfl rfl rfl (S.e 6 rfl) tS_24 (S.g 1 rfl) (sh (τ:=FX n (([rg,ra,rb,rc]).getD ((k + 3) % 4) default)) (S.g 1 rfl)) fun w S=>?_
  replace S:=S.n3
  refine S.store (τ:=FX n (([rg,ra,rb,rc]).getD k default)) 2 rfl rfl rfl rfl (S.e 5 rfl) tS_24 (S.g 0 rfl) (sh (τ:=FX n (([rg,ra,rb,rc]).getD k default)) (S.g 0 rfl)) fun w S=>?_
  replace S:=S.n2
  refine wpList_nil ?_
  replace S:=S.d1.d0
  refine hK _ _ ?_;clear hK K
  refine wp_seq_k fun K hK=>?_
  refine wp_reg fun K hK=>?_
  refine S.s (OpR.ldBox S.ok rfl (S.e 2 rfl) (S.box 1 rfl) tS_24) rfl fun a w G S=>?_
  refine S.s (OpR.ldBox S.ok rfl (S.e 2 rfl) (S.box 0 rfl) tS_24) rfl fun a w G S=>?_
  refine S.s (τ:=IT (cmpQ ((([rg,ra,rb,rc]).getD ((k + 1) % 4) default).val) ((([rg,ra,rb,rc]).getD ((k + 2) % 4) default).val))) (OpR.call2 rfl c_44 (gCmp_ok S.ok (FX.toQV (S.g 1 rfl)) (FX.toQV (S.g 0 rfl)) (by omega))) rfl fun a w G S=>?_
  refine S.s (OpR.ilss S.ok rfl (S.e 0 rfl) (rfl : _ = nv .i64 0) MT.self) rfl fun a w G S=>?_
  refine wn hK ?_;clear hK K
  replace S:=S.d3.d2.d1
  refine S.cond 0 rfl (fun hc3=>?_) (fun hc3=>?_)
  ·
   have hp4:=of_decide_eq_true hc3
   have hC:=mm_t hp4
   refine wp_region_lit ?_
   refine S.s (OpR.ldBox S.ok rfl (S.e 2 rfl) (S.box 0 rfl) tS_24) rfl fun a w G S=>?_
   refine S.s (OpR.ldBox S.ok rfl (S.e 4 rfl) (S.box 1 rfl) tS_24) rfl fun a w G S=>?_
   refine S.store (τ:=FX n (([rg,ra,rb,rc]).getD ((k + 2) % 4) default)) 1 rfl rfl rfl rfl (S.e 5 rfl) tS_24 (S.g 1 rfl) (sh (τ:=FX n (([rg,ra,rb,rc]).getD ((k + 2) % 4) default)) (S.g 1 rfl)) fun w S=>?_
   replace S:=S.n1
   refine S.store (τ:=FX n (([rg,ra,rb,rc]).getD ((k + 1) % 4) default)) 0 rfl rfl rfl rfl (S.e 4 rfl) tS_24 (S.g 0 rfl) (sh (τ:=FX n (([rg,ra,rb,rc]).getD ((k + 1) % 4) default)) (S.g 0 rfl)) fun w S=>?_
   replace S:=S.n0
   refine wpList_nil ?_
   replace S:=S.d1.d0
   refine hK _ _ ?_;clear hK K
   refine wp_reg fun K hK=>?_
   refine S.s (OpR.ldBox S.ok rfl (S.e 5 rfl) (S.box 3 rfl) tS_24) rfl fun a w G S=>?_
   refine S.s (OpR.ldBox S.ok rfl (S.e 5 rfl) (S.box 2 rfl) tS_24) rfl fun a w G S=>?_
   refine S.s (OpR.ldBox S.ok rfl (S.e 5 rfl) (S.box 1 rfl) tS_24) rfl fun a w G S=>?_
   refine S.s (OpR.ldBox S.ok rfl (S.e 5 rfl) (S.box 0 rfl) tS_24) rfl fun a w G S=>?_
   refine S.s (τ:=IT (sumsF ((([rg,ra,rb,rc]).getD ((k + 3) % 4) default).val) ((([rg,ra,rb,rc]).getD k default).val) ((([rg,ra,rb,rc]).getD ((k + 2) % 4) default).val) ((([rg,ra,rb,rc]).getD ((k + 1) % 4) default).val))) (OpR.call4 rfl c_38 (rsums_ok S.ok (FX.toQV (S.g 3 rfl)) (FX.toQV (S.g 2 rfl)) (FX.toQV (S.g 1 rfl)) (FX.toQV (S.g 0 rfl)) (by omega))) rfl fun a w G S=>?_
   refine S.s (τ:=BT (decide (compareF [([rg,ra,rb,rc].getD k default).val,([rg,ra,rb,rc].getD ((k + 3) % 4) default).val] [([rg,ra,rb,rc].getD ((k + 1) % 4) default).val,([rg,ra,rb,rc].getD ((k + 2) % 4) default).val] ≤ 0))) (OpR.ileq S.ok rfl (S.e 0 rfl) (rfl : _ = nv .i64 0) (bv_eq (congrArg (fun z : Int=>decide (z ≤ 0)) (sums_cmp (vals_pos hp _) (vals_pos hp _) (vals_pos hp _) (vals_pos hp _) (by first | exact .inl ⟨rfl,rfl⟩ | exact .inr ⟨rfl,rfl⟩) (by first | exact .inl ⟨rfl,rfl⟩ | exact .inr ⟨rfl,rfl⟩))))) rfl fun a w G S=>?_
   refine S.m rfl (S.g 0 rfl) rfl fun a w G S=>?_
   rcases Bool.eq_false_or_eq_true (decide (compareF [([rg,ra,rb,rc].getD k default).val,([rg,ra,rb,rc].getD ((k + 3) % 4) default).val] [([rg,ra,rb,rc].getD ((k + 1) % 4) default).val,([rg,ra,rb,rc].getD ((k + 2) % 4) default).val] ≤ 0)) with hc5 | hc5
   ·
    have hp6:=of_decide_eq_true hc5
    replace S:=S.boolIs 0 rfl hc5
    refine S.stepG 0 (OpR.ldBox S.ok rfl (S.e 13 rfl) (S.box 3 rfl) tS_24) rfl rfl rfl rfl rfl rfl fun a w G S=>?_
    refine S.stepG 1 (OpR.ldBox S.ok rfl (S.e 11 rfl) (S.box 0 rfl) tS_24) rfl rfl rfl rfl rfl rfl fun a w G S=>?_
    refine S.stepG 2 (OpR.ldBox S.ok rfl (S.e 14 rfl) (S.box 2 rfl) tS_24) rfl rfl rfl rfl rfl rfl fun a w G S=>?_
    refine S.stepG 3 (OpR.ldBox S.ok rfl (S.e 14 rfl) (S.box 1 rfl) tS_24) rfl rfl rfl rfl rfl rfl fun a w G S=>?_
    refine S.stepG (τ:=IT (sumsF ((([rg,ra,rb,rc]).getD ((k + 3) % 4) default).val) ((([rg,ra,rb,rc]).getD ((k + 1) % 4) default).val) ((([rg,ra,rb,rc]).getD k default).val) ((([rg,ra,rb,rc]).getD ((k + 2) % 4) default).val))) 4 (OpR.call4 rfl c_38 (rsums_ok S.ok (FX.toQV (S.g 3 rfl)) (FX.toQV (S.g 2 rfl)) (FX.toQV (S.g 1 rfl)) (FX.toQV (S.g 0 rfl)) (by omega))) rfl rfl rfl rfl rfl rfl fun a w G S=>?_
    refine S.stepG (τ:=BT (decide (compareF [maxQ ([rg,ra,rb,rc].getD k default).val ([rg,ra,rb,rc].getD ((k + 3) % 4) default).val,minQ ([rg,ra,rb,rc].getD ((k + 1) % 4) default).val ([rg,ra,rb,rc].getD ((k + 2) % 4) default).val] [minQ ([rg,ra,rb,rc].getD k default).val ([rg,ra,rb,rc].getD ((k + 3) % 4) default).val,maxQ ([rg,ra,rb,rc].getD ((k + 1) % 4) default).val ([rg,ra,rb,rc].getD ((k + 2) % 4) default).val] ≥ 0))) 5 (OpR.igeq S.ok rfl (S.e 0 rfl) (rfl : _ = nv .i64 0) (bv_eq (congrArg (fun z : Int=>decide (z ≥ 0)) (sums_cmp2 (vals_pos hp _) (vals_pos hp _) (vals_pos hp _) (vals_pos hp _) hA hC)))) rfl rfl rfl rfl rfl rfl fun a w G S=>?_
    refine S.s (τ:=BT (decide (compareF [maxQ ([rg,ra,rb,rc].getD k default).val ([rg,ra,rb,rc].getD ((k + 3) % 4) default).val,minQ ([rg,ra,rb,rc].getD ((k + 1) % 4) default).val ([rg,ra,rb,rc].getD ((k + 2) % 4) default).val] [minQ ([rg,ra,rb,rc].getD k default).val ([rg,ra,rb,rc].getD ((k + 3) % 4) default).val,maxQ ([rg,ra,rb,rc].getD ((k + 1) % 4) default).val ([rg,ra,rb,rc].getD ((k + 2) % 4) default).val] ≥ 0))) (OpR.pick S.ok rfl (S.e 6 rfl) (S.g 0 rfl)) rfl fun a w G S=>?_
    replace S:=S.d22
    refine S.q rfl (S.g 0 rfl) rfl fun a w G S=>?_
    refine wn hK ?_;clear hK K
    replace S:=S.d15.d14.d13.d12.d11.d10.d9.d8.d7.d6.d5.d4.d3.d2.d1
    exact wp_ret (S.retTmp rfl ((S.e 0 rfl).trans (bv_eq (by first | exact rrot_t ‹_› | exact rrot_f ‹_›))))
   ·
    have hp7:=of_decide_eq_false hc5
    replace S:=S.boolIs 0 rfl hc5
    refine S.skipG 0 rfl rfl rfl rfl rfl rfl fun a w G S=>?_
    refine S.skipG 1 rfl rfl rfl rfl rfl rfl fun a w G S=>?_
    refine S.skipG 2 rfl rfl rfl rfl rfl rfl fun a w G S=>?_
    refine S.skipG 3 rfl rfl rfl rfl rfl rfl fun a w G S=>?_
    refine S.skipG 4 rfl rfl rfl rfl rfl rfl fun a w G S=>?_
    refine S.skipG 5 rfl rfl rfl rfl rfl rfl fun a w G S=>?_
    refine S.s (τ:=BT false) (OpR.pick S.ok rfl (S.e 6 rfl) rfl) rfl fun a w G S=>?_
    replace S:=S.d22
    refine S.q rfl (S.g 0 rfl) rfl fun a w G S=>?_
    refine wn hK ?_;clear hK K
    replace S:=S.d15.d14.d13.d12.d11.d10.d9.d8.d7.d6.d5.d4.d3.d2.d1
    exact wp_ret (S.retTmp rfl ((S.e 0 rfl).trans (bv_eq (by first | exact rrot_t ‹_› | exact rrot_f ‹_›))))
  ·
   have hp8:=of_decide_eq_false hc3
   have hC:=mm_f hp8
   refine wp_skip ?_
   refine hK _ _ ?_;clear hK K
   refine wp_reg fun K hK=>?_
   refine S.s (OpR.ldBox S.ok rfl (S.e 5 rfl) (S.box 3 rfl) tS_24) rfl fun a w G S=>?_
   refine S.s (OpR.ldBox S.ok rfl (S.e 5 rfl) (S.box 2 rfl) tS_24) rfl fun a w G S=>?_
   refine S.s (OpR.ldBox S.ok rfl (S.e 5 rfl) (S.box 1 rfl) tS_24) rfl fun a w G S=>?_
   refine S.s (OpR.ldBox S.ok rfl (S.e 5 rfl) (S.box 0 rfl) tS_24) rfl fun a w G S=>?_
   refine S.s (τ:=IT (sumsF ((([rg,ra,rb,rc]).getD ((k + 3) % 4) default).val) ((([rg,ra,rb,rc]).getD k default).val) ((([rg,ra,rb,rc]).getD ((k + 1) % 4) default).val) ((([rg,ra,rb,rc]).getD ((k + 2) % 4) default).val))) (OpR.call4 rfl c_38 (rsums_ok S.ok (FX.toQV (S.g 3 rfl)) (FX.toQV (S.g 2 rfl)) (FX.toQV (S.g 1 rfl)) (FX.toQV (S.g 0 rfl)) (by omega))) rfl fun a w G S=>?_
   refine S.s (τ:=BT (decide (compareF [([rg,ra,rb,rc].getD k default).val,([rg,ra,rb,rc].getD ((k + 3) % 4) default).val] [([rg,ra,rb,rc].getD ((k + 1) % 4) default).val,([rg,ra,rb,rc].getD ((k + 2) % 4) default).val] ≤ 0))) (OpR.ileq S.ok rfl (S.e 0 rfl) (rfl : _ = nv .i64 0) (bv_eq (congrArg (fun z : Int=>decide (z ≤ 0)) (sums_cmp (vals_pos hp _) (vals_pos hp _) (vals_pos hp _) (vals_pos hp _) (by first | exact .inl ⟨rfl,rfl⟩ | exact .inr ⟨rfl,rfl⟩) (by first | exact .inl ⟨rfl,rfl⟩ | exact .inr ⟨rfl,rfl⟩))))) rfl fun a w G S=>?_
   refine S.m rfl (S.g 0 rfl) rfl fun a w G S=>?_
   rcases Bool.eq_false_or_eq_true (decide (compareF [([rg,ra,rb,rc].getD k default).val,([rg,ra,rb,rc].getD ((k + 3) % 4) default).val] [([rg,ra,rb,rc].getD ((k + 1) % 4) default).val,([rg,ra,rb,rc].getD ((k + 2) % 4) default).val] ≤ 0)) with hc9 | hc9
   ·
    have hp10:=of_decide_eq_true hc9
    replace S:=S.boolIs 0 rfl hc9
    refine S.stepG 0 (OpR.ldBox S.ok rfl (S.e 13 rfl) (S.box 3 rfl) tS_24) rfl rfl rfl rfl rfl rfl fun a w G S=>?_
    refine S.stepG 1 (OpR.ldBox S.ok rfl (S.e 11 rfl) (S.box 0 rfl) tS_24) rfl rfl rfl rfl rfl rfl fun a w G S=>?_
    refine S.stepG 2 (OpR.ldBox S.ok rfl (S.e 14 rfl) (S.box 2 rfl) tS_24) rfl rfl rfl rfl rfl rfl fun a w G S=>?_
    refine S.stepG 3 (OpR.ldBox S.ok rfl (S.e 14 rfl) (S.box 1 rfl) tS_24) rfl rfl rfl rfl rfl rfl fun a w G S=>?_
    refine S.stepG (τ:=IT (sumsF ((([rg,ra,rb,rc]).getD ((k + 3) % 4) default).val) ((([rg,ra,rb,rc]).getD ((k + 2) % 4) default).val) ((([rg,ra,rb,rc]).getD k default).val) ((([rg,ra,rb,rc]).getD ((k + 1) % 4) default).val))) 4 (OpR.call4 rfl c_38 (rsums_ok S.ok (FX.toQV (S.g 3 rfl)) (FX.toQV (S.g 2 rfl)) (FX.toQV (S.g 1 rfl)) (FX.toQV (S.g 0 rfl)) (by omega))) rfl rfl rfl rfl rfl rfl fun a w G S=>?_
    refine S.stepG (τ:=BT (decide (compareF [maxQ ([rg,ra,rb,rc].getD k default).val ([rg,ra,rb,rc].getD ((k + 3) % 4) default).val,minQ ([rg,ra,rb,rc].getD ((k + 1) % 4) default).val ([rg,ra,rb,rc].getD ((k + 2) % 4) default).val] [minQ ([rg,ra,rb,rc].getD k default).val ([rg,ra,rb,rc].getD ((k + 3) % 4) default).val,maxQ ([rg,ra,rb,rc].getD ((k + 1) % 4) default).val ([rg,ra,rb,rc].getD ((k + 2) % 4) default).val] ≥ 0))) 5 (OpR.igeq S.ok rfl (S.e 0 rfl) (rfl : _ = nv .i64 0) (bv_eq (congrArg (fun z : Int=>decide (z ≥ 0)) (sums_cmp2 (vals_pos hp _) (vals_pos hp _) (vals_pos hp _) (vals_pos hp _) hA hC)))) rfl rfl rfl rfl rfl rfl fun a w G S=>?_
    refine S.s (τ:=BT (decide (compareF [maxQ ([rg,ra,rb,rc].getD k default).val ([rg,ra,rb,rc].getD ((k + 3) % 4) default).val,minQ ([rg,ra,rb,rc].getD ((k + 1) % 4) default).val ([rg,ra,rb,rc].getD ((k + 2) % 4) default).val] [minQ ([rg,ra,rb,rc].getD k default).val ([rg,ra,rb,rc].getD ((k + 3) % 4) default).val,maxQ ([rg,ra,rb,rc].getD ((k + 1) % 4) default).val ([rg,ra,rb,rc].getD ((k + 2) % 4) default).val] ≥ 0))) (OpR.pick S.ok rfl (S.e 6 rfl) (S.g 0 rfl)) rfl fun a w G S=>?_
    replace S:=S.d22
    refine S.q rfl (S.g 0 rfl) rfl fun a w G S=>?_
    refine wn hK ?_;clear hK K
    replace S:=S.d15.d14.d13.d12.d11.d10.d9.d8.d7.d6.d5.d4.d3.d2.d1
    exact wp_ret (S.retTmp rfl ((S.e 0 rfl).trans (bv_eq (by first | exact rrot_t ‹_› | exact rrot_f ‹_›))))
   ·
    have hp11:=of_decide_eq_false hc9
    replace S:=S.boolIs 0 rfl hc9
    refine S.skipG 0 rfl rfl rfl rfl rfl rfl fun a w G S=>?_
    refine S.skipG 1 rfl rfl rfl rfl rfl rfl fun a w G S=>?_
    refine S.skipG 2 rfl rfl rfl rfl rfl rfl fun a w G S=>?_
    refine S.skipG 3 rfl rfl rfl rfl rfl rfl fun a w G S=>?_
    refine S.skipG 4 rfl rfl rfl rfl rfl rfl fun a w G S=>?_
    refine S.skipG 5 rfl rfl rfl rfl rfl rfl fun a w G S=>?_
    refine S.s (τ:=BT false) (OpR.pick S.ok rfl (S.e 6 rfl) rfl) rfl fun a w G S=>?_
    replace S:=S.d22
    refine S.q rfl (S.g 0 rfl) rfl fun a w G S=>?_
    refine wn hK ?_;clear hK K
    replace S:=S.d15.d14.d13.d12.d11.d10.d9.d8.d7.d6.d5.d4.d3.d2.d1
    exact wp_ret (S.retTmp rfl ((S.e 0 rfl).trans (bv_eq (by first | exact rrot_t ‹_› | exact rrot_f ‹_›))))
 ·
  have hp12:=of_decide_eq_false hc1
  have hA:=mm_f hp12
  refine wp_skip ?_
  refine hK _ _ ?_;clear hK K
  refine wp_seq_k fun K hK=>?_
  refine wp_reg fun K hK=>?_
  refine S.s (OpR.ldBox S.ok rfl (S.e 2 rfl) (S.box 1 rfl) tS_24) rfl fun a w G S=>?_
  refine S.s (OpR.ldBox S.ok rfl (S.e 2 rfl) (S.box 0 rfl) tS_24) rfl fun a w G S=>?_
  refine S.s (τ:=IT (cmpQ ((([rg,ra,rb,rc]).getD ((k + 1) % 4) default).val) ((([rg,ra,rb,rc]).getD ((k + 2) % 4) default).val))) (OpR.call2 rfl c_44 (gCmp_ok S.ok (FX.toQV (S.g 1 rfl)) (FX.toQV (S.g 0 rfl)) (by omega))) rfl fun a w G S=>?_
  refine S.s (OpR.ilss S.ok rfl (S.e 0 rfl) (rfl : _ = nv .i64 0) MT.self) rfl fun a w G S=>?_
  refine wn hK ?_;clear hK K
  replace S:=S.d3.d2.d1
  refine S.cond 0 rfl (fun hc13=>?_) (fun hc13=>?_)
  ·
   have hp14:=of_decide_eq_true hc13
   have hC:=mm_t hp14
   refine wp_region_lit ?_
   refine S.s (OpR.ldBox S.ok rfl (S.e 2 rfl) (S.box 0 rfl) tS_24) rfl fun a w G S=>?_
   refine S.s (OpR.ldBox S.ok rfl (S.e 4 rfl) (S.box 1 rfl) tS_24) rfl fun a w G S=>?_
   refine S.store (τ:=FX n (([rg,ra,rb,rc]).getD ((k + 2) % 4) default)) 1 rfl rfl rfl rfl (S.e 5 rfl) tS_24 (S.g 1 rfl) (sh (τ:=FX n (([rg,ra,rb,rc]).getD ((k + 2) % 4) default)) (S.g 1 rfl)) fun w S=>?_
   replace S:=S.n1
   refine S.store (τ:=FX n (([rg,ra,rb,rc]).getD ((k + 1) % 4) default)) 0 rfl rfl rfl rfl (S.e 4 rfl) tS_24 (S.g 0 rfl) (sh (τ:=FX n (([rg,ra,rb,rc]).getD ((k + 1) % 4) default)) (S.g 0 rfl)) fun w S=>?_
   replace S:=S.n0
   refine wpList_nil ?_
   replace S:=S.d1.d0
   refine hK _ _ ?_;clear hK K
   refine wp_reg fun K hK=>?_
   refine S.s (OpR.ldBox S.ok rfl (S.e 5 rfl) (S.box 3 rfl) tS_24) rfl fun a w G S=>?_
   refine S.s (OpR.ldBox S.ok rfl (S.e 5 rfl) (S.box 2 rfl) tS_24) rfl fun a w G S=>?_
   refine S.s (OpR.ldBox S.ok rfl (S.e 5 rfl) (S.box 1 rfl) tS_24) rfl fun a w G S=>?_
   refine S.s (OpR.ldBox S.ok rfl (S.e 5 rfl) (S.box 0 rfl) tS_24) rfl fun a w G S=>?_
   refine S.s (τ:=IT (sumsF ((([rg,ra,rb,rc]).getD k default).val) ((([rg,ra,rb,rc]).getD ((k + 3) % 4) default).val) ((([rg,ra,rb,rc]).getD ((k + 2) % 4) default).val) ((([rg,ra,rb,rc]).getD ((k + 1) % 4) default).val))) (OpR.call4 rfl c_38 (rsums_ok S.ok (FX.toQV (S.g 3 rfl)) (FX.toQV (S.g 2 rfl)) (FX.toQV (S.g 1 rfl)) (FX.toQV (S.g 0 rfl)) (by omega))) rfl fun a w G S=>?_
   refine S.s (τ:=BT (decide (compareF [([rg,ra,rb,rc].getD k default).val,([rg,ra,rb,rc].getD ((k + 3) % 4) default).val] [([rg,ra,rb,rc].getD ((k + 1) % 4) default).val,([rg,ra,rb,rc].getD ((k + 2) % 4) default).val] ≤ 0))) (OpR.ileq S.ok rfl (S.e 0 rfl) (rfl : _ = nv .i64 0) (bv_eq (congrArg (fun z : Int=>decide (z ≤ 0)) (sums_cmp (vals_pos hp _) (vals_pos hp _) (vals_pos hp _) (vals_pos hp _) (by first | exact .inl ⟨rfl,rfl⟩ | exact .inr ⟨rfl,rfl⟩) (by first | exact .inl ⟨rfl,rfl⟩ | exact .inr ⟨rfl,rfl⟩))))) rfl fun a w G S=>?_
   refine S.m rfl (S.g 0 rfl) rfl fun a w G S=>?_
   rcases Bool.eq_false_or_eq_true (decide (compareF [([rg,ra,rb,rc].getD k default).val,([rg,ra,rb,rc].getD ((k + 3) % 4) default).val] [([rg,ra,rb,rc].getD ((k + 1) % 4) default).val,([rg,ra,rb,rc].getD ((k + 2) % 4) default).val] ≤ 0)) with hc15 | hc15
   ·
    have hp16:=of_decide_eq_true hc15
    replace S:=S.boolIs 0 rfl hc15
    refine S.stepG 0 (OpR.ldBox S.ok rfl (S.e 13 rfl) (S.box 3 rfl) tS_24) rfl rfl rfl rfl rfl rfl fun a w G S=>?_
    refine S.stepG 1 (OpR.ldBox S.ok rfl (S.e 11 rfl) (S.box 0 rfl) tS_24) rfl rfl rfl rfl rfl rfl fun a w G S=>?_
    refine S.stepG 2 (OpR.ldBox S.ok rfl (S.e 14 rfl) (S.box 2 rfl) tS_24) rfl rfl rfl rfl rfl rfl fun a w G S=>?_
    refine S.stepG 3 (OpR.ldBox S.ok rfl (S.e 14 rfl) (S.box 1 rfl) tS_24) rfl rfl rfl rfl rfl rfl fun a w G S=>?_
    refine S.stepG (τ:=IT (sumsF ((([rg,ra,rb,rc]).getD k default).val) ((([rg,ra,rb,rc]).getD ((k + 1) % 4) default).val) ((([rg,ra,rb,rc]).getD ((k + 3) % 4) default).val) ((([rg,ra,rb,rc]).getD ((k + 2) % 4) default).val))) 4 (OpR.call4 rfl c_38 (rsums_ok S.ok (FX.toQV (S.g 3 rfl)) (FX.toQV (S.g 2 rfl)) (FX.toQV (S.g 1 rfl)) (FX.toQV (S.g 0 rfl)) (by omega))) rfl rfl rfl rfl rfl rfl fun a w G S=>?_
    refine S.stepG (τ:=BT (decide (compareF [maxQ ([rg,ra,rb,rc].getD k default).val ([rg,ra,rb,rc].getD ((k + 3) % 4) default).val,minQ ([rg,ra,rb,rc].getD ((k + 1) % 4) default).val ([rg,ra,rb,rc].getD ((k + 2) % 4) default).val] [minQ ([rg,ra,rb,rc].getD k default).val ([rg,ra,rb,rc].getD ((k + 3) % 4) default).val,maxQ ([rg,ra,rb,rc].getD ((k + 1) % 4) default).val ([rg,ra,rb,rc].getD ((k + 2) % 4) default).val] ≥ 0))) 5 (OpR.igeq S.ok rfl (S.e 0 rfl) (rfl : _ = nv .i64 0) (bv_eq (congrArg (fun z : Int=>decide (z ≥ 0)) (sums_cmp2 (vals_pos hp _) (vals_pos hp _) (vals_pos hp _) (vals_pos hp _) hA hC)))) rfl rfl rfl rfl rfl rfl fun a w G S=>?_
    refine S.s (τ:=BT (decide (compareF [maxQ ([rg,ra,rb,rc].getD k default).val ([rg,ra,rb,rc].getD ((k + 3) % 4) default).val,minQ ([rg,ra,rb,rc].getD ((k + 1) % 4) default).val ([rg,ra,rb,rc].getD ((k + 2) % 4) default).val] [minQ ([rg,ra,rb,rc].getD k default).val ([rg,ra,rb,rc].getD ((k + 3) % 4) default).val,maxQ ([rg,ra,rb,rc].getD ((k + 1) % 4) default).val ([rg,ra,rb,rc].getD ((k + 2) % 4) default).val] ≥ 0))) (OpR.pick S.ok rfl (S.e 6 rfl) (S.g 0 rfl)) rfl fun a w G S=>?_
    replace S:=S.d22
    refine S.q rfl (S.g 0 rfl) rfl fun a w G S=>?_
    refine wn hK ?_;clear hK K
    replace S:=S.d15.d14.d13.d12.d11.d10.d9.d8.d7.d6.d5.d4.d3.d2.d1
    exact wp_ret (S.retTmp rfl ((S.e 0 rfl).trans (bv_eq (by first | exact rrot_t ‹_› | exact rrot_f ‹_›))))
   ·
    have hp17:=of_decide_eq_false hc15
    replace S:=S.boolIs 0 rfl hc15
    refine S.skipG 0 rfl rfl rfl rfl rfl rfl fun a w G S=>?_
    refine S.skipG 1 rfl rfl rfl rfl rfl rfl fun a w G S=>?_
    refine S.skipG 2 rfl rfl rfl rfl rfl rfl fun a w G S=>?_
    refine S.skipG 3 rfl rfl rfl rfl rfl rfl fun a w G S=>?_
    refine S.skipG 4 rfl rfl rfl rfl rfl rfl fun a w G S=>?_
    refine S.skipG 5 rfl rfl rfl rfl rfl rfl fun a w G S=>?_
    refine S.s (τ:=BT false) (OpR.pick S.ok rfl (S.e 6 rfl) rfl) rfl fun a w G S=>?_
    replace S:=S.d22
    refine S.q rfl (S.g 0 rfl) rfl fun a w G S=>?_
    refine wn hK ?_;clear hK K
    replace S:=S.d15.d14.d13.d12.d11.d10.d9.d8.d7.d6.d5.d4.d3.d2.d1
    exact wp_ret (S.retTmp rfl ((S.e 0 rfl).trans (bv_eq (by first | exact rrot_t ‹_› | exact rrot_f ‹_›))))
  ·
   have hp18:=of_decide_eq_false hc13
   have hC:=mm_f hp18
   refine wp_skip ?_
   refine hK _ _ ?_;clear hK K
   refine wp_reg fun K hK=>?_
   refine S.s (OpR.ldBox S.ok rfl (S.e 5 rfl) (S.box 3 rfl) tS_24) rfl fun a w G S=>?_
   refine S.s (OpR.ldBox S.ok rfl (S.e 5 rfl) (S.box 2 rfl) tS_24) rfl fun a w G S=>?_
   refine S.s (OpR.ldBox S.ok rfl (S.e 5 rfl) (S.box 1 rfl) tS_24) rfl fun a w G S=>?_
   refine S.s (OpR.ldBox S.ok rfl (S.e 5 rfl) (S.box 0 rfl) tS_24) rfl fun a w G S=>?_
   refine S.s (τ:=IT (sumsF ((([rg,ra,rb,rc]).getD k default).val) ((([rg,ra,rb,rc]).getD ((k + 3) % 4) default).val) ((([rg,ra,rb,rc]).getD ((k + 1) % 4) default).val) ((([rg,ra,rb,rc]).getD ((k + 2) % 4) default).val))) (OpR.call4 rfl c_38 (rsums_ok S.ok (FX.toQV (S.g 3 rfl)) (FX.toQV (S.g 2 rfl)) (FX.toQV (S.g 1 rfl)) (FX.toQV (S.g 0 rfl)) (by omega))) rfl fun a w G S=>?_
   refine S.s (τ:=BT (decide (compareF [([rg,ra,rb,rc].getD k default).val,([rg,ra,rb,rc].getD ((k + 3) % 4) default).val] [([rg,ra,rb,rc].getD ((k + 1) % 4) default).val,([rg,ra,rb,rc].getD ((k + 2) % 4) default).val] ≤ 0))) (OpR.ileq S.ok rfl (S.e 0 rfl) (rfl : _ = nv .i64 0) (bv_eq (congrArg (fun z : Int=>decide (z ≤ 0)) (sums_cmp (vals_pos hp _) (vals_pos hp _) (vals_pos hp _) (vals_pos hp _) (by first | exact .inl ⟨rfl,rfl⟩ | exact .inr ⟨rfl,rfl⟩) (by first | exact .inl ⟨rfl,rfl⟩ | exact .inr ⟨rfl,rfl⟩))))) rfl fun a w G S=>?_
   refine S.m rfl (S.g 0 rfl) rfl fun a w G S=>?_
   rcases Bool.eq_false_or_eq_true (decide (compareF [([rg,ra,rb,rc].getD k default).val,([rg,ra,rb,rc].getD ((k + 3) % 4) default).val] [([rg,ra,rb,rc].getD ((k + 1) % 4) default).val,([rg,ra,rb,rc].getD ((k + 2) % 4) default).val] ≤ 0)) with hc19 | hc19
   ·
    have hp20:=of_decide_eq_true hc19
    replace S:=S.boolIs 0 rfl hc19
    refine S.stepG 0 (OpR.ldBox S.ok rfl (S.e 13 rfl) (S.box 3 rfl) tS_24) rfl rfl rfl rfl rfl rfl fun a w G S=>?_
    refine S.stepG 1 (OpR.ldBox S.ok rfl (S.e 11 rfl) (S.box 0 rfl) tS_24) rfl rfl rfl rfl rfl rfl fun a w G S=>?_
    refine S.stepG 2 (OpR.ldBox S.ok rfl (S.e 14 rfl) (S.box 2 rfl) tS_24) rfl rfl rfl rfl rfl rfl fun a w G S=>?_
    refine S.stepG 3 (OpR.ldBox S.ok rfl (S.e 14 rfl) (S.box 1 rfl) tS_24) rfl rfl rfl rfl rfl rfl fun a w G S=>?_
    refine S.stepG (τ:=IT (sumsF ((([rg,ra,rb,rc]).getD k default).val) ((([rg,ra,rb,rc]).getD ((k + 2) % 4) default).val) ((([rg,ra,rb,rc]).getD ((k + 3) % 4) default).val) ((([rg,ra,rb,rc]).getD ((k + 1) % 4) default).val))) 4 (OpR.call4 rfl c_38 (rsums_ok S.ok (FX.toQV (S.g 3 rfl)) (FX.toQV (S.g 2 rfl)) (FX.toQV (S.g 1 rfl)) (FX.toQV (S.g 0 rfl)) (by omega))) rfl rfl rfl rfl rfl rfl fun a w G S=>?_
    refine S.stepG (τ:=BT (decide (compareF [maxQ ([rg,ra,rb,rc].getD k default).val ([rg,ra,rb,rc].getD ((k + 3) % 4) default).val,minQ ([rg,ra,rb,rc].getD ((k + 1) % 4) default).val ([rg,ra,rb,rc].getD ((k + 2) % 4) default).val] [minQ ([rg,ra,rb,rc].getD k default).val ([rg,ra,rb,rc].getD ((k + 3) % 4) default).val,maxQ ([rg,ra,rb,rc].getD ((k + 1) % 4) default).val ([rg,ra,rb,rc].getD ((k + 2) % 4) default).val] ≥ 0))) 5 (OpR.igeq S.ok rfl (S.e 0 rfl) (rfl : _ = nv .i64 0) (bv_eq (congrArg (fun z : Int=>decide (z ≥ 0)) (sums_cmp2 (vals_pos hp _) (vals_pos hp _) (vals_pos hp _) (vals_pos hp _) hA hC)))) rfl rfl rfl rfl rfl rfl fun a w G S=>?_
    refine S.s (τ:=BT (decide (compareF [maxQ ([rg,ra,rb,rc].getD k default).val ([rg,ra,rb,rc].getD ((k + 3) % 4) default).val,minQ ([rg,ra,rb,rc].getD ((k + 1) % 4) default).val ([rg,ra,rb,rc].getD ((k + 2) % 4) default).val] [minQ ([rg,ra,rb,rc].getD k default).val ([rg,ra,rb,rc].getD ((k + 3) % 4) default).val,maxQ ([rg,ra,rb,rc].getD ((k + 1) % 4) default).val ([rg,ra,rb,rc].getD ((k + 2) % 4) default).val] ≥ 0))) (OpR.pick S.ok rfl (S.e 6 rfl) (S.g 0 rfl)) rfl fun a w G S=>?_
    replace S:=S.d22
    refine S.q rfl (S.g 0 rfl) rfl fun a w G S=>?_
    refine wn hK ?_;clear hK K
    replace S:=S.d15.d14.d13.d12.d11.d10.d9.d8.d7.d6.d5.d4.d3.d2.d1
    exact wp_ret (S.retTmp rfl ((S.e 0 rfl).trans (bv_eq (by first | exact rrot_t ‹_› | exact rrot_f ‹_›))))
   ·
    have hp21:=of_decide_eq_false hc19
    replace S:=S.boolIs 0 rfl hc19
    refine S.skipG 0 rfl rfl rfl rfl rfl rfl fun a w G S=>?_
    refine S.skipG 1 rfl rfl rfl rfl rfl rfl fun a w G S=>?_
    refine S.skipG 2 rfl rfl rfl rfl rfl rfl fun a w G S=>?_
    refine S.skipG 3 rfl rfl rfl rfl rfl rfl fun a w G S=>?_
    refine S.skipG 4 rfl rfl rfl rfl rfl rfl fun a w G S=>?_
    refine S.skipG 5 rfl rfl rfl rfl rfl rfl fun a w G S=>?_
    refine S.s (τ:=BT false) (OpR.pick S.ok rfl (S.e 6 rfl) rfl) rfl fun a w G S=>?_
    replace S:=S.d22
    refine S.q rfl (S.g 0 rfl) rfl fun a w G S=>?_
    refine wn hK ?_;clear hK K
    replace S:=S.d15.d14.d13.d12.d11.d10.d9.d8.d7.d6.d5.d4.d3.d2.d1
    exact wp_ret (S.retTmp rfl ((S.e 0 rfl).trans (bv_eq (by first | exact rrot_t ‹_› | exact rrot_f ‹_›))))
end Go.Proofs.YtdeihehaheelmaaGreat
namespace Go.Proofs.YtdeihehaheelmaaGreat
set_option maxHeartbeats 1000000
set_option maxRecDepth 100000
open Go.RowKit (Below)
private theorem bp_26_ : Tryz.prog.built 26 [] = some (flat [(.agg #[.bool false,.slice none 0 0,.slice none 0 0] : Value),(.agg #[.bool false,.slice none 0 0,.slice none 0 0] : Value),(.agg #[.bool false,.slice none 0 0,.slice none 0 0] : Value),(.agg #[.bool false,.slice none 0 0,.slice none 0 0] : Value)]).toArray:=by kernel_rfl
private theorem bt_24_ : Tryz.prog.built 24 [] = some #[.bool false,.slice none 0 0,.slice none 0 0]:=by kernel_rfl
private theorem c_11 : callable Tryz.prog 11 = true:=by kernel_rfl
private theorem c_27 : callable Tryz.prog 27 = true:=by kernel_rfl
private theorem c_42 : callable Tryz.prog 42 = true:=by kernel_rfl
private theorem el_24 : elS Tryz.prog 24 3 56 (.agg #[.bool false,.slice none 0 0,.slice none 0 0]):=by unfold elS;kernel_rfl
private theorem if_30 : ifaceT Tryz.prog 30:=by unfold ifaceT;kernel_rfl
theorem xInvert_ok {n : Nat} {rg ra rb rc : FR} {k : Int} {v1 v2 : Value} {W0 : World} {G0 : Gh} (hok : Gok W0 G0) (h1 : (PTS [(some 3,FX n rg),(some 3,FX n ra),(some 3,FX n rb),(some 3,FX n rc)]).t v1 G0) (h2 : (IT k).t v2 G0) (hn : 1000 * n + 1000 ≤ BIG) (hn1 : 1 ≤ n) : Calls Tryz.prog 15 #[v1,v2] W0 (Ret W0 G0 (MT.tup2 (PTS [(some 3,FX (n + 2) (invF [rg,ra,rb,rc] k 0)),(some 3,FX (n + 2) (invF [rg,ra,rb,rc] k 1)),(some 3,FX (n + 2) (invF [rg,ra,rb,rc] k 2)),(some 3,FX (n + 2) (invF [rg,ra,rb,rc] k 3))]) (MT.ex (errV 43 (chkF [rg,ra,rb,rc]))))):=by
 have hmd:=md4_lt k
 refine St.enter (N:=51) (L:=[(1,IT k),(0,PTS [(some 3,FX n rg),(some 3,FX n ra),(some 3,FX n rb),(some 3,FX n rc)])]) (args:=[v1,v2]) Tryz.func15 rfl rfl rfl hok (enter2 h1 h2) fun a S=>?_
 refine wp_reg fun K hK=>?_
 refine S.boxop (x:=.tmp 0) (τ:=PTS [(some 3,FX n rg),(some 3,FX n ra),(some 3,FX n rb),(some 3,FX n rc)]) (S.g 1 rfl) (sh (τ:=PTS [(some 3,FX n rg),(some 3,FX n ra),(some 3,FX n rb),(some 3,FX n rc)]) (S.g 1 rfl)) rfl rfl rfl rfl rfl fun b2 a w G S=>?_
 refine S.alloc rfl rfl rfl z_26 zs_26 rfl rfl fun b4 a w G S=>?_
 refine S.s (τ:=MT.ex (Value.nilIface)) (OpR.asn S.ok rfl rfl) rfl fun a w G S=>?_
 refine wn hK ?_;clear hK K
 replace S:=S.d4
 refine wp_seq_k fun K hK=>?_
 refine wp_reg fun K hK=>?_
 refine S.s (OpR.ldBox S.ok rfl (S.e 2 rfl) (S.box 1 rfl) tS_26) rfl fun a w G S=>?_
 refine S.s (τ:=MT.ex (errV 43 (chkF [rg,ra,rb,rc]))) (OpR.call1 rfl c_11 (xCheck_ok S.ok (S.g 0 rfl) (by omega) (by omega))) rfl fun a w G S=>?_
 refine S.q rfl (S.g 0 rfl) rfl fun a w G S=>?_
 refine wn hK ?_;clear hK K
 replace S:=S.d2.d1
 refine wp_reg fun K hK=>?_
 refine S.m rfl (S.g 0 rfl) rfl fun a w G S=>?_
 refine S.s (τ:=BT (decide ((chkF [rg,ra,rb,rc]) ≠ 0))) (OpR.isB errV_neq (OpR.errNeqNil S.ok rfl if_30 (S.e 0 rfl) (by first | exact .inl rfl | exact .inr ⟨_,_,rfl⟩ | exact errV_or _) rfl)) rfl fun a w G S=>?_
 refine wn hK ?_;clear hK K
 replace S:=S.d1
 refine S.cond 0 rfl (fun hc1=>?_) (fun hc1=>?_)
 ·
  have hp2:=of_decide_eq_true hc1
  refine wp_reg fun K hK=>?_
  refine S.s (τ:=PTS [(some 3,FX (n + 2) (invF [rg,ra,rb,rc] k 0)),(some 3,FX (n + 2) (invF [rg,ra,rb,rc] k 1)),(some 3,FX (n + 2) (invF [rg,ra,rb,rc] k 2)),(some 3,FX (n + 2) (invF [rg,ra,rb,rc] k 3))]) (OpR.bldP (us:=[(.agg #[.bool false,.slice none 0 0,.slice none 0 0] : Value),(.agg #[.bool false,.slice none 0 0,.slice none 0 0] : Value),(.agg #[.bool false,.slice none 0 0,.slice none 0 0] : Value),(.agg #[.bool false,.slice none 0 0,.slice none 0 0] : Value)]) S.ok rfl (by simp only [List.map_toArray,List.map_nil];exact bp_26_) rfl (pts_cons zs_24 (FX.eq (zero_FX (by omega)) (inv_bad (by omega))) (pts_cons zs_24 (FX.eq (zero_FX (by omega)) (inv_bad (by omega))) (pts_cons zs_24 (FX.eq (zero_FX (by omega)) (inv_bad (by omega))) (pts_cons zs_24 (FX.eq (zero_FX (by omega)) (inv_bad (by omega))) pts_nil))))) rfl fun a w G S=>?_
  refine S.m rfl (S.g 2 rfl) rfl fun a w G S=>?_
  refine S.store (τ:=PTS [(some 3,FX (n + 2) (invF [rg,ra,rb,rc] k 0)),(some 3,FX (n + 2) (invF [rg,ra,rb,rc] k 1)),(some 3,FX (n + 2) (invF [rg,ra,rb,rc] k 2)),(some 3,FX (n + 2) (invF [rg,ra,rb,rc] k 3))]) 0 rfl rfl rfl rfl (S.e 5 rfl) tS_26 (S.g 1 rfl) (sh (τ:=PTS [(some 3,FX (n + 2) (invF [rg,ra,rb,rc] k 0)),(some 3,FX (n + 2) (invF [rg,ra,rb,rc] k 1)),(some 3,FX (n + 2) (invF [rg,ra,rb,rc] k 2)),(some 3,FX (n + 2) (invF [rg,ra,rb,rc] k 3))]) (S.g 1 rfl)) fun w S=>?_
  replace S:=S.n0
  replace S:=S.d4
  refine S.q rfl (S.g 0 rfl) rfl fun a w G S=>?_
  refine wn hK ?_;clear hK K
  replace S:=S.d2.d1
  exact wp_ret (then_ret (S.retCellTmp (i:=0) rfl (S.e 3 rfl) rfl tS_26 (fun _ h=>h) (S.g 0 rfl)))
 ·
  have hp3:=of_decide_eq_false hc1
  refine wp_skip ?_
  refine hK _ _ ?_;clear hK K
  refine wp_reg fun K hK=>?_
  refine S.m rfl (S.g 5 rfl) rfl fun a w G S=>?_
  refine S.s (τ:=IT (k.tmod 4)) (OpR.irem S.ok rfl (S.e 0 rfl) (rfl : _ = nv .i64 4) (by omega) rfl) rfl fun a w G S=>?_
  refine S.s (τ:=IT ((k.tmod 4) + 4)) (OpR.iadd S.ok rfl (S.e 0 rfl) (rfl : _ = nv .i64 4) (iw_i64 (by omega) (tmod4_bd k))) rfl fun a w G S=>?_
  refine S.s (τ:=NT (md4 k)) (OpR.irem S.ok rfl (S.e 0 rfl) (rfl : _ = nv .i64 4) (by omega) (iv_eq (md4_eq k))) rfl fun a w G S=>?_
  replace S:=S.d9
  refine S.q rfl (S.g 0 rfl) rfl fun a w G S=>?_
  refine wn hK ?_;clear hK K
  replace S:=S.d4.d3.d2.d1
  refine wp_reg fun K hK=>?_
  refine S.s (OpR.ldBox S.ok rfl (S.e 5 rfl) (S.box 1 rfl) tS_26) rfl fun a w G S=>?_
  refine S.s (τ:=LS (some 3) (([rg,ra,rb,rc]).map (FX n))) (OpR.call1 rfl c_27 (xlist_ok S.ok (S.g 0 rfl) (by omega) (by omega))) rfl fun a w G S=>?_
  refine S.q rfl (S.g 0 rfl) rfl fun a w G S=>?_
  refine wn hK ?_;clear hK K
  replace S:=S.d2.d1
  refine wp_reg fun K hK=>?_
  refine S.s (τ:=MT.ex (Value.slice none 0 0)) (OpR.asn S.ok rfl rfl) rfl fun a w G S=>?_
  refine wn hK ?_;clear hK K
  refine wp_seq_k fun K hK=>?_
  refine wp_reg fun K hK=>?_
  refine S.s (τ:=NT 0) (OpR.mv S.ok rfl (rfl : _ = nv .i64 0)) rfl fun a w G S=>?_
  refine wn hK ?_;clear hK K
  refine wp_block ?_
  replace S:=S.also (t:=8) (τ:=MT.ex ((Value.slice none 0 0))) ((S.e 1 rfl).trans (by first | rfl | omega | (simp only [Nat.zero_add,Nat.add_zero];done) | (simp;done) | (push_cast;omega)))
  refine wp_loopJ (fun μ a w=>∃ (i : Nat) (v : Value) (own : List BX) (G : Gh),μ = 4 - i ∧ (i ≤ 4) ∧ (OWNS (some 3) 24 v own ((invL [rg,ra,rb,rc] (md4 k) i).map (FX (n + 2)))) ∧  St W0 G0 51 [(22,NT i),(8,MT.ex (v)),(7,LS (some 3) (([rg,ra,rb,rc]).map (FX n))),(1,NT (md4 k)),(13,BT (decide ((chkF [rg,ra,rb,rc]) ≠ 0))),(6,MT.ex (errV 43 (chkF [rg,ra,rb,rc]))),(5,MT.ex (Value.nilIface)),(4,PB b4),(2,PB b2)] (⟨b4,26,some 12,MT.ex ((.agg #[.bool false,.slice none 0 0,.slice none 0 0,.bool false,.slice none 0 0,.slice none 0 0,.bool false,.slice none 0 0,.slice none 0 0,.bool false,.slice none 0 0,.slice none 0 0] : Value))⟩ :: ⟨b2,26,some 12,PTS [(some 3,FX n rg),(some 3,FX n ra),(some 3,FX n rb),(some 3,FX n rc)]⟩ :: own) a w G) (4 - 0) ⟨0,(Value.slice none 0 0),[],_,rfl,(by omega),OWNS.nil,(S.keep [1,0,3,4,5,6,7,8,9]).keepB [0,1] (by decide)⟩ ?_
  clear S
  intro μ a w ⟨i,v,own,G,hm,hi,hr,S⟩
  refine wp_reg fun K hK=>?_
  refine S.s (OpR.nlss S.ok rfl (S.e 0 rfl) (rfl : _ = nv .i64 4) MT.self) rfl fun a w G S=>?_
  refine wn hK ?_;clear hK K
  refine wp_seq_k fun K hK=>?_
  refine S.cond 0 rfl (fun hc4=>?_) (fun hc4=>?_)
  ·
   have hp5:=of_decide_eq_true hc4
   refine wp_skip ?_
   refine hK _ _ ?_;clear hK K
   refine wp_seq_k fun K hK=>?_
   refine wp_block ?_
   refine wp_reg fun K hK=>?_
   refine S.m rfl (S.g 1 rfl) rfl fun a w G S=>?_
   refine S.q rfl (S.g 0 rfl) rfl fun a w G S=>?_
   refine wn hK ?_;clear hK K
   replace S:=S.d1
   refine wp_region_lit ?_
   refine S.m rfl (S.g 3 rfl) rfl fun a w G S=>?_
   refine S.m rfl (S.g 5 rfl) rfl fun a w G S=>?_
   refine S.m rfl (S.g 2 rfl) rfl fun a w G S=>?_
   refine S.m rfl (S.g 8 rfl) rfl fun a w G S=>?_
   refine S.s (OpR.nadd S.ok rfl (S.e 1 rfl) (S.e 0 rfl) (wr_i64 (by omega)) MT.self) rfl fun a w G S=>?_
   refine S.s (OpR.nrem S.ok rfl (S.e 0 rfl) (rfl : _ = nv .i64 4) (by omega) MT.self) rfl fun a w G S=>?_
   refine S.s (τ:=PE (some 3) (FX n (([rg,ra,rb,rc]).getD ((i + (md4 k)) % 4) default))) (OpR.ixM (T:=(FX n)) (xs:=[rg,ra,rb,rc]) (i:=(i + (md4 k)) % 4) S.ok rfl Tryz.underlying48 tS_24 (S.g 4 rfl) (S.e 0 rfl) rfl (show _ < 4 by omega)) rfl fun a w G S=>?_
   refine S.s (OpR.ldE S.ok rfl tS_24 (S.g 0 rfl)) rfl fun a w G S=>?_
   refine S.s (τ:=QR false ([]) ([])) (OpR.bQ0 S.ok rfl bt_24_) rfl fun a w G S=>?_
   refine S.s (τ:=QC (n + 2) (([rg,ra,rb,rc].getD ((i + md4 k) % 4) default).val)) (OpR.conv' (OpR.call2 rfl c_42 (fAdd_ok S.ok (FX.toQV (S.g 1 rfl)) (QR.zQV (n:=1) (S.g 0 rfl) (by omega)) (by omega))) fun _ _ h=>(QC.eq (QC.up h (by omega)) (Rat.add_zero _))) rfl fun a w G S=>?_
   refine S.s (τ:=LS (some 3) (([FR.of (([rg,ra,rb,rc].getD ((i + md4 k) % 4) default).val)]).map (FX (n + 2)))) (OpR.buildS (k:=some 3) (τs:=[FR.of (([rg,ra,rb,rc].getD ((i + md4 k) % 4) default).val)].map (FX (n + 2))) (us:=[a.eval (.tmp 34)]) S.ok rfl Tryz.underlying48 el_24 rfl (by decide) (by decide) (by simp [Act.eval]) rfl (Els.cons (sh (τ:=FX (n + 2) (FR.of (([rg,ra,rb,rc].getD ((i + md4 k) % 4) default).val))) (FX.eq (FX.up (QC.toFX (S.g 0 rfl) (by first | decide | omega)) (by first | decide | omega)) (by first | rfl | omega | (simp only [Nat.zero_add,Nat.add_zero];done) | (simp;done) | (push_cast;omega)))) (FX.eq (FX.up (QC.toFX (S.g 0 rfl) (by first | decide | omega)) (by first | decide | omega)) (by first | rfl | omega | (simp only [Nat.zero_add,Nat.add_zero];done) | (simp;done) | (push_cast;omega))) Els.nil)) rfl fun a w G S=>?_
   refine S.appSM (k:=some 3) (Bh:=[⟨b4,26,some 12,MT.ex ((.agg #[.bool false,.slice none 0 0,.slice none 0 0,.bool false,.slice none 0 0,.slice none 0 0,.bool false,.slice none 0 0,.slice none 0 0,.bool false,.slice none 0 0,.slice none 0 0] : Value))⟩,⟨b2,26,some 12,PTS [(some 3,FX n rg),(some 3,FX n ra),(some 3,FX n rb),(some 3,FX n rc)]⟩]) (own:=own) (xs:=invL [rg,ra,rb,rc] (md4 k) i) (ys:=[FR.of (([rg,ra,rb,rc].getD ((i + md4 k) % 4) default).val)]) (T:=(FX (n + 2))) rfl rfl rfl Tryz.underlying48 el_24 zs_24 (S.e 10 rfl) hr (S.g 0 rfl) (by simp) (by simp only [LIM,inv_len,List.length_cons,List.length_nil];omega) (by simp only [inv_len,List.length_cons,List.length_nil];omega) rfl rfl fun v1 own1 a w G hr1 S=>?_
   replace S : St W0 G0 51 [(36,MT.ex (v1)),(35,LS (some 3) (([FR.of (([rg,ra,rb,rc].getD ((i + md4 k) % 4) default).val)]).map (FX (n + 2)))),(34,QC (n + 2) (([rg,ra,rb,rc].getD ((i + md4 k) % 4) default).val)),(33,QR false ([]) ([])),(32,FX n (([rg,ra,rb,rc]).getD ((i + (md4 k)) % 4) default)),(31,PE (some 3) (FX n (([rg,ra,rb,rc]).getD ((i + (md4 k)) % 4) default))),(30,NT ((i + (md4 k)) % 4)),(29,NT (i + (md4 k))),(28,NT (md4 k)),(27,NT i),(26,LS (some 3) (([rg,ra,rb,rc]).map (FX n))),(25,MT.ex (v)),(9,NT i),(23,BT (decide (i < 4))),(22,NT i),(8,MT.ex (v)),(7,LS (some 3) (([rg,ra,rb,rc]).map (FX n))),(1,NT (md4 k)),(13,BT (decide ((chkF [rg,ra,rb,rc]) ≠ 0))),(6,MT.ex (errV 43 (chkF [rg,ra,rb,rc]))),(5,MT.ex (Value.nilIface)),(4,PB b4),(2,PB b2)] (⟨b4,26,some 12,MT.ex ((.agg #[.bool false,.slice none 0 0,.slice none 0 0,.bool false,.slice none 0 0,.slice none 0 0,.bool false,.slice none 0 0,.slice none 0 0,.bool false,.slice none 0 0,.slice none 0 0] : Value))⟩ :: ⟨b2,26,some 12,PTS [(some 3,FX n rg),(some 3,FX n ra),(some 3,FX n rb),(some 3,FX n rc)]⟩ :: own1) a _ _:=S
   replace S:=S.d15
   refine S.q rfl (S.g 0 rfl) rfl fun a w G S=>?_
   refine wpList_nil ?_
   replace S:=S.d13.d12.d11.d10.d9.d8.d7.d6.d5.d4.d3.d2.d1
   refine hK _ _ ?_;clear hK K
   refine wp_region_lit ?_
   refine S.s (OpR.nadd S.ok rfl (S.e 2 rfl) (rfl : _ = nv .i64 1) (wr_i64 (by omega)) MT.self) rfl fun a w G S=>?_
   replace S:=S.d3
   refine S.m rfl (S.g 0 rfl) rfl fun a w G S=>?_
   refine wpList_nil ?_
   replace S:=S.d1
   exact ⟨4 - (i + 1),(by omega),i + 1,v1,own1,_,rfl,(by omega),(inv_next ▸ hr1),S.keep [0,1,3,4,5,6,7,8,9]⟩
  ·
   have hp6:=of_decide_eq_false hc4
   refine wp_exit (then_exit (then_exit (exit_same ?_)))
   clear hK K
   refine hK _ _ ?_;clear hK K
   refine wp_seq_k fun K hK=>?_
   replace S:=S.d1.d0
   have hi4 : i = 4:=by omega
   have hr4:=hr
   rw [hi4] at hr4
   have hck : chkF [rg,ra,rb,rc] = 0:=by omega
   obtain ⟨Gz,hsl,hle,S⟩:=S.freezeS (Bh:=[⟨b4,26,some 12,MT.ex ((.agg #[.bool false,.slice none 0 0,.slice none 0 0,.bool false,.slice none 0 0,.slice none 0 0,.bool false,.slice none 0 0,.slice none 0 0,.bool false,.slice none 0 0,.slice none 0 0] : Value))⟩,⟨b2,26,some 12,PTS [(some 3,FX n rg),(some 3,FX n ra),(some 3,FX n rb),(some 3,FX n rc)]⟩]) hr4 (by simp only [LIM,List.length_map,inv_len];omega)
   replace S:=S.also (t:=8) (τ:=LS (some 3) ((invL [rg,ra,rb,rc] (md4 k) 4).map (FX (n + 2)))) ((S.e 0 rfl).symm ▸ hsl)
   replace S : St W0 G0 51 [(8,LS (some 3) ((invL [rg,ra,rb,rc] (md4 k) 4).map (FX (n + 2)))),(8,MT.ex (v)),(7,LS (some 3) (([rg,ra,rb,rc]).map (FX n))),(1,NT (md4 k)),(13,BT (decide ((chkF [rg,ra,rb,rc]) ≠ 0))),(6,MT.ex (errV 43 (chkF [rg,ra,rb,rc]))),(5,MT.ex (Value.nilIface)),(4,PB b4),(2,PB b2)] [⟨b4,26,some 12,MT.ex ((.agg #[.bool false,.slice none 0 0,.slice none 0 0,.bool false,.slice none 0 0,.slice none 0 0,.bool false,.slice none 0 0,.slice none 0 0,.bool false,.slice none 0 0,.slice none 0 0] : Value))⟩,⟨b2,26,some 12,PTS [(some 3,FX n rg),(some 3,FX n ra),(some 3,FX n rb),(some 3,FX n rc)]⟩] a _ _:=S
   replace S:=S.d6
   refine S.drawnS [⟨38,.g (LS (some 3) ((invL [rg,ra,rb,rc] (md4 k) 4).map (FX (n + 2)))),[]⟩,⟨39,.g (PE (some 3) (FX (n + 2) ((invL [rg,ra,rb,rc] (md4 k) 4).getD 0 default))),[0]⟩,⟨40,.g (FX (n + 2) ((invL [rg,ra,rb,rc] (md4 k) 4).getD 0 default)),[1]⟩,⟨41,.g (LS (some 3) ((invL [rg,ra,rb,rc] (md4 k) 4).map (FX (n + 2)))),[]⟩,⟨42,.g (PE (some 3) (FX (n + 2) ((invL [rg,ra,rb,rc] (md4 k) 4).getD 1 default))),[3]⟩,⟨43,.g (FX (n + 2) ((invL [rg,ra,rb,rc] (md4 k) 4).getD 1 default)),[4]⟩,⟨44,.g (LS (some 3) ((invL [rg,ra,rb,rc] (md4 k) 4).map (FX (n + 2)))),[]⟩,⟨45,.g (PE (some 3) (FX (n + 2) ((invL [rg,ra,rb,rc] (md4 k) 4).getD 2 default))),[6]⟩,⟨46,.g (FX (n + 2) ((invL [rg,ra,rb,rc] (md4 k) 4).getD 2 default)),[7]⟩,⟨47,.g (LS (some 3) ((invL [rg,ra,rb,rc] (md4 k) 4).map (FX (n + 2)))),[]⟩,⟨48,.g (PE (some 3) (FX (n + 2) ((invL [rg,ra,rb,rc] (md4 k) 4).getD 3 default))),[9]⟩,⟨49,.g (FX (n + 2) ((invL [rg,ra,rb,rc] (md4 k) 4).getD 3 default)),[10]⟩,⟨50,.g (PTS [(some 3,FX (n + 2) (invF [rg,ra,rb,rc] k 0)),(some 3,FX (n + 2) (invF [rg,ra,rb,rc] k 1)),(some 3,FX (n + 2) (invF [rg,ra,rb,rc] k 2)),(some 3,FX (n + 2) (invF [rg,ra,rb,rc] k 3))]),[2,5,8,11]⟩,⟨9998,.st 0 (PTS [(some 3,FX (n + 2) (invF [rg,ra,rb,rc] k 0)),(some 3,FX (n + 2) (invF [rg,ra,rb,rc] k 1)),(some 3,FX (n + 2) (invF [rg,ra,rb,rc] k 2)),(some 3,FX (n + 2) (invF [rg,ra,rb,rc] k 3))]),[12]⟩,⟨5,.g (MT.ex (Value.nilIface)),[]⟩] mixedOrders (by kernel_rfl)
    ⟨⟨rfl,fun a w G S=>.of rfl (OpR.mv S.ok rfl (S.g 0 rfl))⟩,
     ⟨rfl,fun a w G S=>.of rfl (OpR.ixM (T:=(FX (n + 2))) (xs:=invL [rg,ra,rb,rc] (md4 k) 4) (i:=0) S.ok rfl Tryz.underlying48 tS_24 (S.g 0 rfl) (rfl : _ = nv .i64 0) rfl (by rw [inv_len];decide))⟩,
     ⟨rfl,fun a w G S=>.of rfl (OpR.ldE S.ok rfl tS_24 (S.g 0 rfl))⟩,
     ⟨rfl,fun a w G S=>.of rfl (OpR.mv S.ok rfl (S.g 0 rfl))⟩,
     ⟨rfl,fun a w G S=>.of rfl (OpR.ixM (T:=(FX (n + 2))) (xs:=invL [rg,ra,rb,rc] (md4 k) 4) (i:=1) S.ok rfl Tryz.underlying48 tS_24 (S.g 0 rfl) (rfl : _ = nv .i64 1) rfl (by rw [inv_len];decide))⟩,
     ⟨rfl,fun a w G S=>.of rfl (OpR.ldE S.ok rfl tS_24 (S.g 0 rfl))⟩,
     ⟨rfl,fun a w G S=>.of rfl (OpR.mv S.ok rfl (S.g 0 rfl))⟩,
     ⟨rfl,fun a w G S=>.of rfl (OpR.ixM (T:=(FX (n + 2))) (xs:=invL [rg,ra,rb,rc] (md4 k) 4) (i:=2) S.ok rfl Tryz.underlying48 tS_24 (S.g 0 rfl) (rfl : _ = nv .i64 2) rfl (by rw [inv_len];decide))⟩,
     ⟨rfl,fun a w G S=>.of rfl (OpR.ldE S.ok rfl tS_24 (S.g 0 rfl))⟩,
     ⟨rfl,fun a w G S=>.of rfl (OpR.mv S.ok rfl (S.g 0 rfl))⟩,
     ⟨rfl,fun a w G S=>.of rfl (OpR.ixM (T:=(FX (n + 2))) (xs:=invL [rg,ra,rb,rc] (md4 k) 4) (i:=3) S.ok rfl Tryz.underlying48 tS_24 (S.g 0 rfl) (rfl : _ = nv .i64 3) rfl (by rw [inv_len];decide))⟩,
     ⟨rfl,fun a w G S=>.of rfl (OpR.ldE S.ok rfl tS_24 (S.g 0 rfl))⟩,
     ⟨rfl,fun a w G S=>.of rfl (OpR.bldP (us:=[a.eval (.tmp 40),a.eval (.tmp 43),a.eval (.tmp 46),a.eval (.tmp 49)]) S.ok rfl (by simp only [List.map_toArray,List.map_cons,List.map_nil];exact bp_26_0_1_2_3 (u0:=a.eval (.tmp 40)) (u1:=a.eval (.tmp 43)) (u2:=a.eval (.tmp 46)) (u3:=a.eval (.tmp 49)) (sh (τ:=FX (n + 2) ((invL [rg,ra,rb,rc] (md4 k) 4).getD 0 default)) (S.g 0 rfl)) (sh (τ:=FX (n + 2) ((invL [rg,ra,rb,rc] (md4 k) 4).getD 1 default)) (S.g 1 rfl)) (sh (τ:=FX (n + 2) ((invL [rg,ra,rb,rc] (md4 k) 4).getD 2 default)) (S.g 2 rfl)) (sh (τ:=FX (n + 2) ((invL [rg,ra,rb,rc] (md4 k) 4).getD 3 default)) (S.g 3 rfl))) rfl (pts_cons (sh (τ:=FX (n + 2) (invF [rg,ra,rb,rc] k 0)) (FX.eq (S.g 0 rfl) (inv_at hck (by decide)))) (FX.eq (S.g 0 rfl) (inv_at hck (by decide))) (pts_cons (sh (τ:=FX (n + 2) (invF [rg,ra,rb,rc] k 1)) (FX.eq (S.g 1 rfl) (inv_at hck (by decide)))) (FX.eq (S.g 1 rfl) (inv_at hck (by decide))) (pts_cons (sh (τ:=FX (n + 2) (invF [rg,ra,rb,rc] k 2)) (FX.eq (S.g 2 rfl) (inv_at hck (by decide)))) (FX.eq (S.g 2 rfl) (inv_at hck (by decide))) (pts_cons (sh (τ:=FX (n + 2) (invF [rg,ra,rb,rc] k 3)) (FX.eq (S.g 3 rfl) (inv_at hck (by decide)))) (FX.eq (S.g 3 rfl) (inv_at hck (by decide))) pts_nil)))))⟩,
     ⟨rfl,rfl,rfl,.inl ⟨_,_,_,_,rfl,tS_26,fun a w G S=>⟨(S.g 0 rfl),sh (τ:=PTS [(some 3,FX (n + 2) (invF [rg,ra,rb,rc] k 0)),(some 3,FX (n + 2) (invF [rg,ra,rb,rc] k 1)),(some 3,FX (n + 2) (invF [rg,ra,rb,rc] k 2)),(some 3,FX (n + 2) (invF [rg,ra,rb,rc] k 3))]) (S.g 0 rfl)⟩,by rw [if_pos (by simp only [List.length_cons,List.length_nil];omega)];exact ⟨rfl,fun a w G S=>congrArg some (S.e 7 rfl).symm⟩⟩⟩,
     ⟨rfl,fun a w G S=>.of rfl (OpR.asn S.ok rfl rfl)⟩,trivial⟩ fun β a w G S=>?_
   replace S : St W0 G0 51 [(5,MT.ex (Value.nilIface)),(8,LS (some 3) ((invL [rg,ra,rb,rc] (md4 k) 4).map (FX (n + 2)))),(7,LS (some 3) (([rg,ra,rb,rc]).map (FX n))),(1,NT (md4 k)),(13,BT (decide ((chkF [rg,ra,rb,rc]) ≠ 0))),(6,MT.ex (errV 43 (chkF [rg,ra,rb,rc]))),(4,PB b4),(2,PB b2)] [⟨b4,26,some 12,PTS [(some 3,FX (n + 2) (invF [rg,ra,rb,rc] k 0)),(some 3,FX (n + 2) (invF [rg,ra,rb,rc] k 1)),(some 3,FX (n + 2) (invF [rg,ra,rb,rc] k 2)),(some 3,FX (n + 2) (invF [rg,ra,rb,rc] k 3))]⟩,⟨b2,26,some 12,PTS [(some 3,FX n rg),(some 3,FX n ra),(some 3,FX n rb),(some 3,FX n rc)]⟩] a _ _:=S.keep [0,14,16,17,18,19,20,21]
   refine wn hK ?_;clear hK K
   exact wp_ret (S.retCellTmp (i:=0) rfl (S.e 6 rfl) rfl tS_26 (fun _ h=>h) ((S.e 0 rfl).trans (errV_z (by omega))))
end Go.Proofs.YtdeihehaheelmaaGreat
namespace Go.Proofs.YtdeihehaheelmaaGreat
set_option maxHeartbeats 1000000
set_option maxRecDepth 100000
open Go.RowKit (Below)
private theorem c_10 : callable Tryz.prog 10 = true:=by kernel_rfl
private theorem c_14 : callable Tryz.prog 14 = true:=by kernel_rfl
private theorem c_15 : callable Tryz.prog 15 = true:=by kernel_rfl
private theorem c_16 : callable Tryz.prog 16 = true:=by kernel_rfl
private theorem c_17 : callable Tryz.prog 17 = true:=by kernel_rfl
private theorem c_18 : callable Tryz.prog 18 = true:=by kernel_rfl
private theorem c_19 : callable Tryz.prog 19 = true:=by kernel_rfl
private theorem c_43 : callable Tryz.prog 43 = true:=by kernel_rfl
private theorem c_5 : callable Tryz.prog 5 = true:=by kernel_rfl
private theorem c_6 : callable Tryz.prog 6 = true:=by kernel_rfl
private theorem c_9 : callable Tryz.prog 9 = true:=by kernel_rfl
private theorem fo_26_0 : fldOff Tryz.prog 26 0 = some 0:=by kernel_rfl
private theorem fo_26_1 : fldOff Tryz.prog 26 1 = some 3:=by kernel_rfl
private theorem fo_26_2 : fldOff Tryz.prog 26 2 = some 6:=by kernel_rfl
private theorem fo_26_3 : fldOff Tryz.prog 26 3 = some 9:=by kernel_rfl
theorem lsame_ok {n m : Nat} {rg ra rb rc : FR} {v1 v2 : Value} {W0 : World} {G0 : Gh} (hok : Gok W0 G0) (h1 : (PTS [(some 3,FX n rg),(some 3,FX n ra),(some 3,FX n rb),(some 3,FX n rc)]).t v1 G0) (h2 : (PTS [(some 3,FX m rg),(some 3,FX m ra),(some 3,FX m rb),(some 3,FX m rc)]).t v2 G0)  : Calls Tryz.prog 16 #[v1,v2] W0 (Ret W0 G0 (BT true)):=by
 refine St.enter (N:=31) (L:=[(1,PTS [(some 3,FX m rg),(some 3,FX m ra),(some 3,FX m rb),(some 3,FX m rc)]),(0,PTS [(some 3,FX n rg),(some 3,FX n ra),(some 3,FX n rb),(some 3,FX n rc)])]) (args:=[v1,v2]) Tryz.func16 rfl rfl rfl hok (enter2 h1 h2) fun a S=>?_
 refine wp_reg fun K hK=>?_
 refine S.boxop (x:=.tmp 0) (τ:=PTS [(some 3,FX n rg),(some 3,FX n ra),(some 3,FX n rb),(some 3,FX n rc)]) (S.g 1 rfl) (sh (τ:=PTS [(some 3,FX n rg),(some 3,FX n ra),(some 3,FX n rb),(some 3,FX n rc)]) (S.g 1 rfl)) rfl rfl rfl rfl rfl fun b2 a w G S=>?_
 refine S.boxop (x:=.tmp 1) (τ:=PTS [(some 3,FX m rg),(some 3,FX m ra),(some 3,FX m rb),(some 3,FX m rc)]) (S.g 1 rfl) (sh (τ:=PTS [(some 3,FX m rg),(some 3,FX m ra),(some 3,FX m rb),(some 3,FX m rc)]) (S.g 1 rfl)) rfl rfl rfl rfl rfl fun b3 a w G S=>?_
 refine S.s (τ:=BT false) (OpR.asn S.ok rfl rfl) rfl fun a w G S=>?_
 refine wn hK ?_;clear hK K
 replace S:=S.d4.d3
 refine wp_reg fun K hK=>?_
 refine S.s (τ:=PB b2) (OpR.fldA S.ok rfl (S.e 2 rfl) fo_26_0 rfl) rfl fun a w G S=>?_
 refine S.s (OpR.ldPart S.ok rfl (S.e 0 rfl) (S.box 1 rfl) tS_24 fun _ h hs=>part_load (PTS.part 0 rfl rfl h hs) rfl) rfl fun a w G S=>?_
 refine S.s (τ:=PB b3) (OpR.fldA S.ok rfl (S.e 3 rfl) fo_26_0 rfl) rfl fun a w G S=>?_
 refine S.s (OpR.ldPart S.ok rfl (S.e 0 rfl) (S.box 0 rfl) tS_24 fun _ h hs=>part_load (PTS.part 0 rfl rfl h hs) rfl) rfl fun a w G S=>?_
 refine S.s (τ:=BT true) (OpR.call2 rfl c_43 (bRat_ok S.ok (FX.qr (S.g 2 rfl)) (FX.qr (S.g 0 rfl)))) rfl fun a w G S=>?_
 refine S.m rfl (S.g 0 rfl) rfl fun a w G S=>?_
 refine S.stepG (τ:=MT.ex (Value.pointer (some ⟨b2,3,none⟩))) 0 (OpR.fldA S.ok rfl (S.e 8 rfl) fo_26_1 rfl) rfl rfl rfl rfl rfl rfl fun a w G S=>?_
 refine S.stepG 1 (OpR.ldPart S.ok rfl (S.e 0 rfl) (S.box 1 rfl) tS_24 fun _ h hs=>part_load (PTS.part 1 rfl rfl h hs) rfl) rfl rfl rfl rfl rfl rfl fun a w G S=>?_
 refine S.stepG (τ:=MT.ex (Value.pointer (some ⟨b3,3,none⟩))) 2 (OpR.fldA S.ok rfl (S.e 9 rfl) fo_26_1 rfl) rfl rfl rfl rfl rfl rfl fun a w G S=>?_
 refine S.stepG 3 (OpR.ldPart S.ok rfl (S.e 0 rfl) (S.box 0 rfl) tS_24 fun _ h hs=>part_load (PTS.part 1 rfl rfl h hs) rfl) rfl rfl rfl rfl rfl rfl fun a w G S=>?_
 refine S.stepG (τ:=BT true) 4 (OpR.call2 rfl c_43 (bRat_ok S.ok (FX.qr (S.g 2 rfl)) (FX.qr (S.g 0 rfl)))) rfl rfl rfl rfl rfl rfl fun a w G S=>?_
 refine S.s (τ:=BT true) (OpR.pick S.ok rfl (S.e 5 rfl) (S.g 0 rfl)) rfl fun a w G S=>?_
 refine S.m rfl (S.g 0 rfl) rfl fun a w G S=>?_
 refine S.stepG (τ:=MT.ex (Value.pointer (some ⟨b2,6,none⟩))) 0 (OpR.fldA S.ok rfl (S.e 15 rfl) fo_26_2 rfl) rfl rfl rfl rfl rfl rfl fun a w G S=>?_
 refine S.stepG 1 (OpR.ldPart S.ok rfl (S.e 0 rfl) (S.box 1 rfl) tS_24 fun _ h hs=>part_load (PTS.part 2 rfl rfl h hs) rfl) rfl rfl rfl rfl rfl rfl fun a w G S=>?_
 refine S.stepG (τ:=MT.ex (Value.pointer (some ⟨b3,6,none⟩))) 2 (OpR.fldA S.ok rfl (S.e 16 rfl) fo_26_2 rfl) rfl rfl rfl rfl rfl rfl fun a w G S=>?_
 refine S.stepG 3 (OpR.ldPart S.ok rfl (S.e 0 rfl) (S.box 0 rfl) tS_24 fun _ h hs=>part_load (PTS.part 2 rfl rfl h hs) rfl) rfl rfl rfl rfl rfl rfl fun a w G S=>?_
 refine S.stepG (τ:=BT true) 4 (OpR.call2 rfl c_43 (bRat_ok S.ok (FX.qr (S.g 2 rfl)) (FX.qr (S.g 0 rfl)))) rfl rfl rfl rfl rfl rfl fun a w G S=>?_
 refine S.s (τ:=BT true) (OpR.pick S.ok rfl (S.e 5 rfl) (S.g 0 rfl)) rfl fun a w G S=>?_
 refine S.m rfl (S.g 0 rfl) rfl fun a w G S=>?_
 refine S.stepG (τ:=MT.ex (Value.pointer (some ⟨b2,9,none⟩))) 0 (OpR.fldA S.ok rfl (S.e 22 rfl) fo_26_3 rfl) rfl rfl rfl rfl rfl rfl fun a w G S=>?_
 refine S.stepG 1 (OpR.ldPart S.ok rfl (S.e 0 rfl) (S.box 1 rfl) tS_24 fun _ h hs=>part_load (PTS.part 3 rfl rfl h hs) rfl) rfl rfl rfl rfl rfl rfl fun a w G S=>?_
 refine S.stepG (τ:=MT.ex (Value.pointer (some ⟨b3,9,none⟩))) 2 (OpR.fldA S.ok rfl (S.e 23 rfl) fo_26_3 rfl) rfl rfl rfl rfl rfl rfl fun a w G S=>?_
 refine S.stepG 3 (OpR.ldPart S.ok rfl (S.e 0 rfl) (S.box 0 rfl) tS_24 fun _ h hs=>part_load (PTS.part 3 rfl rfl h hs) rfl) rfl rfl rfl rfl rfl rfl fun a w G S=>?_
 refine S.stepG (τ:=BT true) 4 (OpR.call2 rfl c_43 (bRat_ok S.ok (FX.qr (S.g 2 rfl)) (FX.qr (S.g 0 rfl)))) rfl rfl rfl rfl rfl rfl fun a w G S=>?_
 refine S.s (τ:=BT true) (OpR.pick S.ok rfl (S.e 5 rfl) (S.g 0 rfl)) rfl fun a w G S=>?_
 replace S:=S.d26
 refine S.q rfl (S.g 0 rfl) rfl fun a w G S=>?_
 refine wn hK ?_;clear hK K
 replace S:=S.d28.d27.d26.d25.d24.d23.d22.d21.d20.d19.d18.d17.d16.d15.d14.d13.d12.d11.d10.d9.d8.d7.d6.d5.d4.d3.d2.d1
 exact wp_ret (S.retTmp rfl (S.g 0 rfl))
theorem lTurns_ok {rg ra rb rc : FR} {k : Int} {v1 v2 : Value} {W0 : World} {G0 : Gh} (hok : Gok W0 G0) (h1 : (PTS [(some 3,RX rg),(some 3,RX ra),(some 3,RX rb),(some 3,RX rc)]).t v1 G0) (h2 : (IT k).t v2 G0)  : Calls Tryz.prog 4 #[v1,v2] W0 (Ret W0 G0 (BT true)):=by
 refine St.enter (N:=84) (L:=[(1,IT k),(0,PTS [(some 3,RX rg),(some 3,RX ra),(some 3,RX rb),(some 3,RX rc)])]) (args:=[v1,v2]) Tryz.func4 rfl rfl rfl hok (enter2 h1 h2) fun a S=>?_
 refine wp_reg fun K hK=>?_
 refine S.boxop (x:=.tmp 0) (τ:=PTS [(some 3,RX rg),(some 3,RX ra),(some 3,RX rb),(some 3,RX rc)]) (S.g 1 rfl) (sh (τ:=PTS [(some 3,RX rg),(some 3,RX ra),(some 3,RX rb),(some 3,RX rc)]) (S.g 1 rfl)) rfl rfl rfl rfl rfl fun b2 a w G S=>?_
 refine S.s (τ:=BT false) (OpR.asn S.ok rfl rfl) rfl fun a w G S=>?_
 refine wn hK ?_;clear hK K
 replace S:=S.d3
 refine wp_seq_k fun K hK=>?_
 refine wp_reg fun K hK=>?_
 refine S.s (τ:=BT true) (OpR.call0 rfl c_5 (lawake_ok S.ok )) rfl fun a w G S=>?_
 refine S.s (τ:=BT false) (OpR.bnot S.ok rfl (S.e 0 rfl) rfl) rfl fun a w G S=>?_
 refine S.m rfl (S.g 0 rfl) rfl fun a w G S=>?_
 refine S.stepG 0 (OpR.ldBox S.ok rfl (S.e 4 rfl) (S.box 0 rfl) tS_26) rfl rfl rfl rfl rfl rfl fun a w G S=>?_
 refine S.stepG (τ:=BT (shortF [rg,ra,rb,rc])) 1 (OpR.call1 rfl c_6 (lshort_ok S.ok (S.g 0 rfl))) rfl rfl rfl rfl rfl rfl fun a w G S=>?_
 refine S.stepG 2 (OpR.bnot S.ok rfl (S.e 0 rfl) MT.self) rfl rfl rfl rfl rfl rfl fun a w G S=>?_
 refine S.s (τ:=BT (!(shortF [rg,ra,rb,rc]))) (OpR.pick S.ok rfl (S.e 3 rfl) (S.g 0 rfl)) rfl fun a w G S=>?_
 refine wn hK ?_;clear hK K
 replace S:=S.d6.d5.d4.d3.d2.d1
 refine S.cond 0 rfl (fun hc1=>?_) (fun hc1=>?_)
 ·
  refine wp_reg fun K hK=>?_
  refine S.s (τ:=BT true) (OpR.call0 rfl c_5 (lawake_ok S.ok )) rfl fun a w G S=>?_
  replace S:=S.d2
  refine S.q rfl (S.g 0 rfl) rfl fun a w G S=>?_
  refine wn hK ?_;clear hK K
  replace S:=S.d1
  exact wp_ret (then_ret (S.retTmp rfl (S.g 0 rfl)))
 ·
  have hs1:=not_false_of hc1
  refine wp_skip ?_
  refine hK _ _ ?_;clear hK K
  refine wp_reg fun K hK=>?_
  replace S:=(S.castBox (τ':=PTS [(some 3,FX 64 rg),(some 3,FX 64 ra),(some 3,FX 64 rb),(some 3,FX 64 rc)]) 0 rfl fun _ h _=>quad_toFX h hs1).n0
  refine S.s (OpR.ldBox S.ok rfl (S.e 2 rfl) (S.box 0 rfl) tS_26) rfl fun a w G S=>?_
  refine S.m rfl (S.g 4 rfl) rfl fun a w G S=>?_
  refine S.s (τ:=MT.tup2 (BT (rotF [rg,ra,rb,rc] k)) (MT.ex (errV 43 (rotCode [rg,ra,rb,rc] k)))) (OpR.call2 rfl c_14 (xRotates_ok S.ok (S.g 1 rfl) (S.g 0 rfl) (by decide) (by decide))) rfl fun a w G S=>?_
  refine S.m rfl (S.g 0 rfl) rfl fun a w G S=>?_
  refine S.s (OpR.ext2a S.ok rfl (S.g 0 rfl)) rfl fun a w G S=>?_
  refine S.s (OpR.ext2b S.ok rfl (S.g 1 rfl)) rfl fun a w G S=>?_
  refine S.q rfl (S.g 1 rfl) rfl fun a w G S=>?_
  refine S.q rfl (S.g 1 rfl) rfl fun a w G S=>?_
  refine wn hK ?_;clear hK K
  replace S:=S.d7.d6.d5.d4.d3.d2
  refine wp_reg fun K hK=>?_
  refine S.s (OpR.ldBox S.ok rfl (S.e 4 rfl) (S.box 0 rfl) tS_26) rfl fun a w G S=>?_
  refine S.m rfl (S.g 6 rfl) rfl fun a w G S=>?_
  refine S.s (τ:=MT.tup2 (PTS [(some 3,FX (64 + 2) (invF [rg,ra,rb,rc] k 0)),(some 3,FX (64 + 2) (invF [rg,ra,rb,rc] k 1)),(some 3,FX (64 + 2) (invF [rg,ra,rb,rc] k 2)),(some 3,FX (64 + 2) (invF [rg,ra,rb,rc] k 3))]) (MT.ex (errV 43 (chkF [rg,ra,rb,rc])))) (OpR.call2 rfl c_15 (xInvert_ok S.ok (S.g 1 rfl) (S.g 0 rfl) (by decide) (by decide))) rfl fun a w G S=>?_
  refine S.m rfl (S.g 0 rfl) rfl fun a w G S=>?_
  refine S.s (OpR.ext2a S.ok rfl (S.g 0 rfl)) rfl fun a w G S=>?_
  refine S.s (OpR.ext2b S.ok rfl (S.g 1 rfl)) rfl fun a w G S=>?_
  refine S.alloc rfl rfl rfl z_26 zs_26 rfl rfl fun b7 a w G S=>?_
  refine S.store (τ:=PTS [(some 3,FX (64 + 2) (invF [rg,ra,rb,rc] k 0)),(some 3,FX (64 + 2) (invF [rg,ra,rb,rc] k 1)),(some 3,FX (64 + 2) (invF [rg,ra,rb,rc] k 2)),(some 3,FX (64 + 2) (invF [rg,ra,rb,rc] k 3))]) 0 rfl rfl rfl rfl (S.e 0 rfl) tS_26 (S.g 2 rfl) (sh (τ:=PTS [(some 3,FX (64 + 2) (invF [rg,ra,rb,rc] k 0)),(some 3,FX (64 + 2) (invF [rg,ra,rb,rc] k 1)),(some 3,FX (64 + 2) (invF [rg,ra,rb,rc] k 2)),(some 3,FX (64 + 2) (invF [rg,ra,rb,rc] k 3))]) (S.g 2 rfl)) fun w S=>?_
  replace S:=S.n0
  refine S.q rfl (S.g 1 rfl) rfl fun a w G S=>?_
  refine wn hK ?_;clear hK K
  replace S:=S.d7.d6.d5.d4.d3.d2
  refine wp_seq_k fun K hK=>?_
  refine wp_reg fun K hK=>?_
  refine S.s (OpR.ldBox S.ok rfl (S.e 6 rfl) (S.box 1 rfl) tS_26) rfl fun a w G S=>?_
  refine S.s (τ:=IT (chkF [rg,ra,rb,rc])) (OpR.call1 rfl c_9 (rCheck_ok S.ok (S.g 0 rfl) (by decide) (by decide))) rfl fun a w G S=>?_
  refine S.q rfl (S.g 0 rfl) rfl fun a w G S=>?_
  refine wn hK ?_;clear hK K
  replace S:=S.d2.d1
  refine wp_reg fun K hK=>?_
  refine S.m rfl (S.g 0 rfl) rfl fun a w G S=>?_
  refine S.s (OpR.zneq S.ok rfl (S.e 0 rfl) (rfl : _ = nv .i64 0) MT.self) rfl fun a w G S=>?_
  refine wn hK ?_;clear hK K
  replace S:=S.d1
  refine S.cond 0 rfl (fun hc4=>?_) (fun hc4=>?_)
  ·
   have hp5:=of_decide_eq_true hc4
   have hck:=hp5
   refine wp_reg fun K hK=>?_
   refine S.m rfl (S.g 5 rfl) rfl fun a w G S=>?_
   refine S.s (τ:=BT true) (OpR.bnot S.ok rfl (S.e 0 rfl) (bv_eq (by rw [← rotF_0 hck];rfl))) rfl fun a w G S=>?_
   refine S.m rfl (S.g 0 rfl) rfl fun a w G S=>?_
   refine S.stepG 0 (OpR.mv S.ok rfl (S.g 7 rfl)) rfl rfl rfl rfl rfl rfl fun a w G S=>?_
   refine S.stepG (τ:=IT (rotCode [rg,ra,rb,rc] k)) 1 (OpR.call1 rfl c_10 (bNum_ok S.ok ((S.e 0 rfl).trans (by first | rfl | omega | (simp only [Nat.zero_add,Nat.add_zero];done) | (simp;done) | (push_cast;omega))))) rfl rfl rfl rfl rfl rfl fun a w G S=>?_
   refine S.stepG 2 (OpR.mv S.ok rfl (S.g 6 rfl)) rfl rfl rfl rfl rfl rfl fun a w G S=>?_
   refine S.stepG (τ:=BT true) 3 (OpR.zeql S.ok rfl (S.e 1 rfl) (S.e 0 rfl) (bv_eq (decide_eq_true (rotC_0 hck).symm))) rfl rfl rfl rfl rfl rfl fun a w G S=>?_
   refine S.s (τ:=BT true) (OpR.pick S.ok rfl (S.e 4 rfl) (S.g 0 rfl)) rfl fun a w G S=>?_
   refine S.m rfl (S.g 0 rfl) rfl fun a w G S=>?_
   refine S.stepG 0 (OpR.mv S.ok rfl (S.g 11 rfl)) rfl rfl rfl rfl rfl rfl fun a w G S=>?_
   refine S.stepG (τ:=IT (chkF [rg,ra,rb,rc])) 1 (OpR.call1 rfl c_10 (bNum_ok S.ok ((S.e 0 rfl).trans (by first | rfl | omega | (simp only [Nat.zero_add,Nat.add_zero];done) | (simp;done) | (push_cast;omega))))) rfl rfl rfl rfl rfl rfl fun a w G S=>?_
   refine S.stepG 2 (OpR.mv S.ok rfl (S.g 12 rfl)) rfl rfl rfl rfl rfl rfl fun a w G S=>?_
   refine S.stepG (τ:=BT true) 3 (OpR.zeql S.ok rfl (S.e 1 rfl) (S.e 0 rfl) (bv_eq (decide_eq_true rfl))) rfl rfl rfl rfl rfl rfl fun a w G S=>?_
   refine S.s (τ:=BT true) (OpR.pick S.ok rfl (S.e 4 rfl) (S.g 0 rfl)) rfl fun a w G S=>?_
   refine S.m rfl (S.g 0 rfl) rfl fun a w G S=>?_
   refine S.stepG 0 (OpR.ldBox S.ok rfl (S.e 18 rfl) (S.box 0 rfl) tS_26) rfl rfl rfl rfl rfl rfl fun a w G S=>?_
   refine S.stepG (τ:=PTS [(some 3,FX 66 (invF [rg,ra,rb,rc] k 0)),(some 3,FX 66 (invF [rg,ra,rb,rc] k 1)),(some 3,FX 66 (invF [rg,ra,rb,rc] k 2)),(some 3,FX 66 (invF [rg,ra,rb,rc] k 3))]) 1 (OpR.bldP (us:=[(.agg #[.bool false,.slice none 0 0,.slice none 0 0] : Value),(.agg #[.bool false,.slice none 0 0,.slice none 0 0] : Value),(.agg #[.bool false,.slice none 0 0,.slice none 0 0] : Value),(.agg #[.bool false,.slice none 0 0,.slice none 0 0] : Value)]) S.ok rfl (by simp only [List.map_toArray,List.map_nil];exact bp_26_) rfl (pts_cons zs_24 (FX.eq (zero_FX (by decide)) (inv_bad hck)) (pts_cons zs_24 (FX.eq (zero_FX (by decide)) (inv_bad hck)) (pts_cons zs_24 (FX.eq (zero_FX (by decide)) (inv_bad hck)) (pts_cons zs_24 (FX.eq (zero_FX (by decide)) (inv_bad hck)) pts_nil))))) rfl rfl rfl rfl rfl rfl fun a w G S=>?_
   refine S.stepG (τ:=BT true) 2 (OpR.call2 rfl c_16 (lsame_ok S.ok (S.g 1 rfl) (S.g 0 rfl))) rfl rfl rfl rfl rfl rfl fun a w G S=>?_
   refine S.s (τ:=BT true) (OpR.pick S.ok rfl (S.e 3 rfl) (S.g 0 rfl)) rfl fun a w G S=>?_
   replace S:=S.d26
   refine S.q rfl (S.g 0 rfl) rfl fun a w G S=>?_
   refine wn hK ?_;clear hK K
   replace S:=S.d19.d18.d17.d16.d15.d14.d13.d12.d11.d10.d9.d8.d7.d6.d5.d4.d3.d2.d1
   exact wp_ret (then_ret (S.retTmp rfl (S.g 0 rfl)))
  ·
   have hp6:=of_decide_eq_false hc4
   have hck : chkF [rg,ra,rb,rc] = 0:=by omega
   refine wp_skip ?_
   refine hK _ _ ?_;clear hK K
   refine wp_seq_k fun K hK=>?_
   refine wp_seq_k fun K hK=>?_
   refine S.drawn [⟨53,.g (MT.ex (errV 43 (0))),[]⟩,⟨54,.g (BT false),[0]⟩,⟨55,.g (BT false),[1]⟩,⟨56,.g (PTS [(some 3,FX (64 + 2) (invF [rg,ra,rb,rc] k 0)),(some 3,FX (64 + 2) (invF [rg,ra,rb,rc] k 1)),(some 3,FX (64 + 2) (invF [rg,ra,rb,rc] k 2)),(some 3,FX (64 + 2) (invF [rg,ra,rb,rc] k 3))]),[2]⟩,⟨57,.g (PTS [(some 3,FX 64 rg),(some 3,FX 64 ra),(some 3,FX 64 rb),(some 3,FX 64 rc)]),[2]⟩,⟨58,.g (IT k),[2]⟩,⟨59,.g (PTS [(some 3,FX 64 (invF [rg,ra,rb,rc] k 0)),(some 3,FX 64 (invF [rg,ra,rb,rc] k 1)),(some 3,FX 64 (invF [rg,ra,rb,rc] k 2)),(some 3,FX 64 (invF [rg,ra,rb,rc] k 3))]),[4,5,2]⟩,⟨60,.g (BT true),[3,6,2]⟩,⟨61,.g (BT false),[7,2]⟩,⟨62,.g (BT false),[2,8]⟩] mixedOrders (by kernel_rfl)
    ⟨fun a w G S=>.of rfl (OpR.mv S.ok rfl ((S.e 2 rfl).trans (congrArg (errV 43) hck))),
     fun a w G S=>.of rfl (OpR.isB (errV_neq.trans (by rfl)) (OpR.errNeqNil S.ok rfl if_30 (S.e 0 rfl) (by first | exact .inl rfl | exact .inr ⟨_,_,rfl⟩ | exact errV_or _) rfl)),
     fun a w G S=>.of rfl (OpR.mv S.ok rfl (S.g 0 rfl)),
     fun a w G S=>.yes S 0 rfl rfl rfl (OpR.ldBox S.ok rfl (S.e 4 rfl) (S.box 0 rfl) tS_26),
     fun a w G S=>.yes S 0 rfl rfl rfl (OpR.ldBox S.ok rfl (S.e 9 rfl) (S.box 1 rfl) tS_26),
     fun a w G S=>.yes S 0 rfl rfl rfl (OpR.mv S.ok rfl (S.g 10 rfl)),
     fun a w G S=>.yes S 2 rfl rfl rfl (OpR.call2 rfl c_17 (rInvert_ok S.ok (S.g 0 rfl) (S.g 1 rfl) (by decide) (by decide) hck)),
     fun a w G S=>.yes S 2 rfl rfl rfl (OpR.call2 rfl c_16 (lsame_ok S.ok (S.g 0 rfl) (S.g 1 rfl))),
     fun a w G S=>.yes S 1 rfl rfl rfl (OpR.bnot S.ok rfl (S.e 0 rfl) rfl),
     fun a w G S=>.of rfl (OpR.pick S.ok rfl (S.e 0 rfl) (S.g 1 rfl)),trivial⟩ fun β a w G S=>?_
   replace S : St W0 G0 84 [(62,BT false),(33,BT (decide ((chkF [rg,ra,rb,rc]) ≠ 0))),(9,IT (chkF [rg,ra,rb,rc])),(8,MT.ex (errV 43 (chkF [rg,ra,rb,rc]))),(7,PB b7),(6,MT.ex (errV 43 (rotCode [rg,ra,rb,rc] k))),(5,BT (rotF [rg,ra,rb,rc] k)),(16,BT (!(shortF [rg,ra,rb,rc]))),(4,BT false),(2,PB b2),(1,IT k)] [⟨b7,26,some 12,PTS [(some 3,FX (64 + 2) (invF [rg,ra,rb,rc] k 0)),(some 3,FX (64 + 2) (invF [rg,ra,rb,rc] k 1)),(some 3,FX (64 + 2) (invF [rg,ra,rb,rc] k 2)),(some 3,FX (64 + 2) (invF [rg,ra,rb,rc] k 3))]⟩,⟨b2,26,some 12,PTS [(some 3,FX 64 rg),(some 3,FX 64 ra),(some 3,FX 64 rb),(some 3,FX 64 rc)]⟩] a _ _:=S.keep [0,10,11,12,13,14,15,16,17,18,19]
   refine wn hK ?_;clear hK K
   refine wp_cond_false (S.e 0 rfl) ?_
   refine wp_skip ?_
   refine hK _ _ ?_;clear hK K
   refine wp_seq_k fun K hK=>?_
   refine wp_reg fun K hK=>?_
   refine S.m rfl (S.g 10 rfl) rfl fun a w G S=>?_
   refine S.s (OpR.ilss S.ok rfl (S.e 0 rfl) (rfl : _ = nv .i64 0) MT.self) rfl fun a w G S=>?_
   refine S.m rfl (S.g 0 rfl) rfl fun a w G S=>?_
   rcases Bool.eq_false_or_eq_true (decide (k < 0)) with hc7 | hc7
   ·
    have hp8:=of_decide_eq_true hc7
    replace S:=S.boolIs 0 rfl hc7
    refine S.skipG 0 rfl rfl rfl rfl rfl rfl fun a w G S=>?_
    refine S.skipG 1 rfl rfl rfl rfl rfl rfl fun a w G S=>?_
    refine S.s (τ:=BT true) (OpR.pick S.ok rfl (S.e 2 rfl) rfl) rfl fun a w G S=>?_
    refine wn hK ?_;clear hK K
    replace S:=S.d6.d5.d4.d3.d2.d1
    refine wp_cond_true (S.e 0 rfl) ?_
    refine wp_reg fun K hK=>?_
    refine S.m rfl (S.g 7 rfl) rfl fun a w G S=>?_
    refine S.s (τ:=BT true) (OpR.bnot S.ok rfl (S.e 0 rfl) (bv_eq (by rw [← rotF_9 (by omega) (by omega)];rfl))) rfl fun a w G S=>?_
    refine S.m rfl (S.g 0 rfl) rfl fun a w G S=>?_
    refine S.stepG 0 (OpR.mv S.ok rfl (S.g 9 rfl)) rfl rfl rfl rfl rfl rfl fun a w G S=>?_
    refine S.stepG (τ:=BT true) 1 (OpR.conv' (OpR.call2 rfl c_18 (bIs_ok S.ok ((S.e 0 rfl).trans (by first | rfl | omega | (simp only [Nat.zero_add,Nat.add_zero];done) | (simp;done) | (push_cast;omega))) ((rfl : _ = nv .i64 9).trans (iv_eq (by first | rfl | omega | (simp only [Nat.zero_add,Nat.add_zero];done) | (simp;done) | (push_cast;omega)))))) fun _ _ h=>(h.trans (bv_eq (decide_eq_true (by rw [rotC_9 (by omega) (by omega)]))))) rfl rfl rfl rfl rfl rfl fun a w G S=>?_
    refine S.s (τ:=BT true) (OpR.pick S.ok rfl (S.e 2 rfl) (S.g 0 rfl)) rfl fun a w G S=>?_
    replace S:=S.d15
    refine S.q rfl (S.g 0 rfl) rfl fun a w G S=>?_
    refine wn hK ?_;clear hK K
    replace S:=S.d6.d5.d4.d3.d2.d1
    exact wp_ret (then_ret (S.retTmp rfl (S.g 0 rfl)))
   ·
    have hp9:=of_decide_eq_false hc7
    replace S:=S.boolIs 0 rfl hc7
    refine S.stepG 0 (OpR.mv S.ok rfl (S.g 14 rfl)) rfl rfl rfl rfl rfl rfl fun a w G S=>?_
    refine S.stepG 1 (OpR.igtr S.ok rfl (S.e 0 rfl) (rfl : _ = nv .i64 3) MT.self) rfl rfl rfl rfl rfl rfl fun a w G S=>?_
    refine S.s (τ:=BT (decide (k > 3))) (OpR.pick S.ok rfl (S.e 2 rfl) (S.g 0 rfl)) rfl fun a w G S=>?_
    refine wn hK ?_;clear hK K
    replace S:=S.d6.d5.d4.d3.d2.d1
    refine S.cond 0 rfl (fun hc10=>?_) (fun hc10=>?_)
    ·
     have hp11:=of_decide_eq_true hc10
     refine wp_reg fun K hK=>?_
     refine S.m rfl (S.g 7 rfl) rfl fun a w G S=>?_
     refine S.s (τ:=BT true) (OpR.bnot S.ok rfl (S.e 0 rfl) (bv_eq (by rw [← rotF_9 (by omega) (by omega)];rfl))) rfl fun a w G S=>?_
     refine S.m rfl (S.g 0 rfl) rfl fun a w G S=>?_
     refine S.stepG 0 (OpR.mv S.ok rfl (S.g 9 rfl)) rfl rfl rfl rfl rfl rfl fun a w G S=>?_
     refine S.stepG (τ:=BT true) 1 (OpR.conv' (OpR.call2 rfl c_18 (bIs_ok S.ok ((S.e 0 rfl).trans (by first | rfl | omega | (simp only [Nat.zero_add,Nat.add_zero];done) | (simp;done) | (push_cast;omega))) ((rfl : _ = nv .i64 9).trans (iv_eq (by first | rfl | omega | (simp only [Nat.zero_add,Nat.add_zero];done) | (simp;done) | (push_cast;omega)))))) fun _ _ h=>(h.trans (bv_eq (decide_eq_true (by rw [rotC_9 (by omega) (by omega)]))))) rfl rfl rfl rfl rfl rfl fun a w G S=>?_
     refine S.s (τ:=BT true) (OpR.pick S.ok rfl (S.e 2 rfl) (S.g 0 rfl)) rfl fun a w G S=>?_
     replace S:=S.d15
     refine S.q rfl (S.g 0 rfl) rfl fun a w G S=>?_
     refine wn hK ?_;clear hK K
     replace S:=S.d6.d5.d4.d3.d2.d1
     exact wp_ret (then_ret (S.retTmp rfl (S.g 0 rfl)))
    ·
     have hp12:=of_decide_eq_false hc10
     refine wp_skip ?_
     refine hK _ _ ?_;clear hK K
     refine wp_reg fun K hK=>?_
     refine S.s (τ:=MT.ex (errV 43 (0))) (OpR.mv S.ok rfl ((S.e 6 rfl).trans (congrArg (errV 43) (rotC_ok (by omega) (by omega))))) rfl fun a w G S=>?_
     refine S.s (τ:=BT true) (OpR.isB (errV_eql.trans (by rfl)) (OpR.errEqNil S.ok rfl if_30 (S.e 0 rfl) (by first | exact .inl rfl | exact .inr ⟨_,_,rfl⟩ | exact errV_or _) rfl)) rfl fun a w G S=>?_
     refine S.m rfl (S.g 0 rfl) rfl fun a w G S=>?_
     refine S.stepG 0 (OpR.mv S.ok rfl (S.g 10 rfl)) rfl rfl rfl rfl rfl rfl fun a w G S=>?_
     refine S.stepG 1 (OpR.ldBox S.ok rfl (S.e 14 rfl) (S.box 1 rfl) tS_26) rfl rfl rfl rfl rfl rfl fun a w G S=>?_
     refine S.stepG (τ:=NT k.toNat) 2 (OpR.mv S.ok rfl ((S.e 16 rfl).trans (iv_eq (by omega)))) rfl rfl rfl rfl rfl rfl fun a w G S=>?_
     refine S.stepG (τ:=BT (rotL [rg,ra,rb,rc] (k.toNat))) 3 (OpR.call2 rfl c_19 (rRotates_ok S.ok (S.g 1 rfl) ((S.e 0 rfl).trans (nv_eq (by first | rfl | omega | (simp only [Nat.zero_add,Nat.add_zero];done) | (simp;done) | (push_cast;omega)))) (by decide) (by decide) (by omega) (chk_pos hck))) rfl rfl rfl rfl rfl rfl fun a w G S=>?_
     refine S.stepG (τ:=BT true) 4 (OpR.beql S.ok rfl (S.e 3 rfl) (S.e 0 rfl) Tryz.underlying4 (bv_eq (by rw [rotF_in2 hck (by omega)];simp))) rfl rfl rfl rfl rfl rfl fun a w G S=>?_
     refine S.s (τ:=BT true) (OpR.pick S.ok rfl (S.e 5 rfl) (S.g 0 rfl)) rfl fun a w G S=>?_
     replace S:=S.d18
     refine S.q rfl (S.g 0 rfl) rfl fun a w G S=>?_
     refine wn hK ?_;clear hK K
     replace S:=S.d9.d8.d7.d6.d5.d4.d3.d2.d1
     exact wp_ret (S.retTmp rfl (S.g 0 rfl))
end Go.Proofs.YtdeihehaheelmaaGreat
namespace Go.Proofs.YtdeihehaheelmaaGreat
open Go.RowKit (Below)
def G0of (W : World) : Gh:=fun b=>W.heap[b]?
theorem G0of_ok (W : World) : Gok W (G0of W):=fun _ _ h=>h
theorem Gc_G0 {W : World} {b i : Nat} : Gc (G0of W) b i = W.cell? ⟨b,i,none⟩:=by
  unfold Gc G0of World.cell?;cases W.heap[b]? with
  | none=>rfl
  | some o=>cases o <;> rfl
def RdA (P : Program) (W : World) (t : TypeId) (k : Option Nat) (A : MT → Prop) : Prop:=∀ (H : Type) (enc : TypeId × Value → H) (fuel : Nat) (cs : List Value) (x : DataW H × List MemPlace),
  DataW.trod enc P W 0 (fun _=>true) true fuel t cs = some x → (x.1.weights P t).all (· ≤ reachBytes) = true → ∃ (v : Value) (τ : MT),A τ ∧ v.cells.toList = cs ∧ Shaped k v ∧ τ.t v (G0of W)
section
variable {P : Program} {W : World} {t e : TypeId} {k : Option Nat} {A A' : MT → Prop}
theorem RdA.mono (h : RdA P W t k A) (hA : ∀ τ v,A τ → τ.t v (G0of W) → ∃ σ,A' σ ∧ σ.t v (G0of W)) : RdA P W t k A':=fun H enc fuel cs x hx hw=>by
  obtain ⟨v,τ,h1,h2,h3,h4⟩:=h H enc fuel cs x hx hw
  obtain ⟨σ,h5,h6⟩:=hA τ v h1 h4
  exact ⟨v,σ,h5,h2,h3,h6⟩
theorem rd_bool (ht : P.underlying t = some .bool) : RdA P W t none (fun τ=>∃ b,τ = .ex (.bool b)):=fun H enc fuel cs x hx hw=>by
  obtain ⟨b,rfl,rfl⟩:=DataW.trod_bool ht hx
  exact ⟨.bool b,_,⟨b,rfl⟩,rfl,⟨rfl,rfl⟩,rfl⟩
theorem rd_int {kk : IntKind} (ht : P.underlying t = some (.int kk)) : RdA P W t none (fun τ=>∃ z,(Lit.int kk z).wf = true ∧ τ = .ex (.int kk z)):=fun H enc fuel cs x hx hw=>by
  obtain ⟨z,rfl,rfl,h⟩:=DataW.trod_int ht hx
  exact ⟨.int kk z,_,⟨z,h,rfl⟩,rfl,⟨rfl,rfl⟩,rfl⟩
theorem cells_get {a : Addr} {n : Nat} {L : List Value} (h : W.cells? 0 a n = some L) : L.length = n ∧ ∀ j,j < n → W.cell? (a.add j) = L[j]?:=by
  unfold World.cells? at h
  rw [if_pos (Nat.zero_le _)] at h
  exact ⟨by simpa using mapM_some_length h,fun j hj=>mapM_some_get h j j (by simp [hj])⟩
theorem weightsAll_mem {H : Type} {es : List (DataW H)} {d : DataW H} {i : Nat} (hi : es[i]? = some d) : ∀ n ∈ d.weights P e,n ∈ DataW.weightsAll P e es:=by
  induction es generalizing i with
  | nil=>simp at hi
  | cons x r ih =>
    intro n hn
    rw [DataW.weightsAll,List.mem_append]
    cases i with
    | zero=>simp at hi;subst hi;exact .inl hn
    | succ j=>exact .inr (ih (by simpa using hi) n hn)
theorem rd_slice (ht : P.underlying t = some (.slice e)) (hc : P.cellsOf e = k.getD 1) (hc0 : 0 < k.getD 1) (hb : 4 ≤ P.bytesOf e) (h : RdA P W e k A) : RdA P W t none (fun τ=>∃ τs,(∀ σ ∈ τs,A σ) ∧ τ = LS k τs):=fun H enc fuel cs x hx hw=>by
  rcases DataW.trod_slice ht hx with ⟨rfl,rfl⟩ | ⟨a,len,cap,elems,rest,n,rfl,rfl,rfl,hb0,hlc,hcm,hel,hE,_,_⟩
  · exact ⟨.slice none 0 0,LS k [],⟨[],by simp,rfl⟩,rfl,⟨rfl,rfl⟩,LS.nil⟩
  · simp only [DataW.weights,ht,List.all_cons,List.all_append,Bool.and_eq_true,decide_eq_true_eq] at hw
    obtain ⟨hw1,hw2,_⟩:=hw
    have hlim : len ≤ LIM:=by
      have h1 : len * 4 ≤ ((elems.map (·.1)).length + (rest.map (·.1)).length) * P.bytesOf e:=Nat.mul_le_mul (by simp;omega) hb
      have h2 : reachBytes = 140737488351232:=rfl
      simp only [LIM];omega
    have each : ∀ i,∃ (v : Value) (τ : MT),i < len → W.cells? 0 (a.add (i * k.getD 1)) (k.getD 1) = some v.cells.toList ∧ A τ ∧ Shaped k v ∧ τ.t v (G0of W):=fun i=>by
      by_cases hi : i < len
      · have h1:=hE i hi
        rw [List.getElem?_eq_getElem (by omega),Option.bind_eq_some_iff,hc] at h1
        obtain ⟨cs',h2,h3⟩:=h1
        obtain ⟨v,τ,h4,h5,h6,h7⟩:=h H enc n cs' _ h3 (List.all_eq_true.2 fun m hm=>List.all_eq_true.1 hw2 m (weightsAll_mem (i:=i) (by rw [List.getElem?_map,List.getElem?_eq_getElem (by omega)];rfl) m hm))
        exact ⟨v,τ,fun _=>⟨by rw [h5];exact h2,h4,h6,h7⟩⟩
      · exact ⟨undef,.ex undef,fun h=>absurd h hi⟩
    obtain ⟨f,g,hfg⟩ : ∃ (f : Nat → Value) (g : Nat → MT),∀ i,i < len → W.cells? 0 (a.add (i * k.getD 1)) (k.getD 1) = some (f i).cells.toList ∧ A (g i) ∧ Shaped k (f i) ∧ (g i).t (f i) (G0of W):=⟨fun i=>(each i).choose,fun i=>(each i).choose_spec.choose,fun i=>(each i).choose_spec.choose_spec⟩
    refine ⟨.slice (some a) len cap,LS k ((List.range len).map g),⟨_,fun σ hσ=>?_,rfl⟩,rfl,⟨rfl,rfl⟩,LS.of_vals (us:=(List.range len).map f) (A:=some a) (c:=cap) (by simp) (by simpa using hlc) (by simpa using hlim) ⟨by simp,fun i τ u hi hu=>?_⟩ fun i u hu=>?_⟩
    · obtain ⟨i,hi,rfl⟩:=List.mem_map.1 hσ
      exact (hfg i (by simpa using hi)).2.1
    · have hlt : i < len:=by have:=(List.getElem?_eq_some_iff.1 hi).1;simpa using this
      simp [List.getElem?_range hlt] at hi hu
      subst hi;subst hu
      exact (hfg i hlt).2.2
    · have hlt : i < len:=by have:=(List.getElem?_eq_some_iff.1 hu).1;simpa using this
      simp [List.getElem?_range hlt] at hu
      subst hu
      obtain ⟨h1,h2,h3,h4⟩:=hfg i hlt
      obtain ⟨h5,h6⟩:=cells_get h1
      obtain ⟨g5,g6⟩:=cells_get (hfg 0 (by omega)).1
      obtain ⟨b,off,spot⟩:=a
      have h7:=g6 0 hc0
      rw [List.getElem?_eq_getElem (by omega)] at h7
      have hs : spot = none:=by simpa [Addr.add] using World.cell?_spot h7
      subst hs
      refine ⟨b,off,rfl,fun j x hj=>?_⟩
      have hjl : j < k.getD 1:=by have:=(Array.getElem?_eq_some_iff.1 hj).1;rw [← h5,Array.length_toList];exact this
      have h8:=h6 j hjl
      rw [Gc_G0]
      rw [addr_add,addr_add,Array.getElem?_toList,hj] at h8
      exact h8
theorem forall_map' {α : Type} {T : α → MT} {p : α → Prop} {τs : List MT} (h : ∀ σ ∈ τs,∃ x,p x ∧ σ = T x) : ∃ xs : List α,τs = xs.map T ∧ ∀ x ∈ xs,p x:=by
  induction τs with
  | nil=>exact ⟨[],rfl,by simp⟩
  | cons a r ih =>
    obtain ⟨l,rfl,hl⟩:=ih fun σ h'=>h σ (List.mem_cons_of_mem _ h')
    obtain ⟨x,hx,rfl⟩:=h a (List.mem_cons_self ..)
    exact ⟨x :: l,rfl,by simpa using ⟨hx,hl⟩⟩
theorem rd_words (ht : P.underlying t = some (.slice e)) (hu : P.underlying e = some (.int .u32)) (hc : P.cellsOf e = 1) (hb : 4 ≤ P.bytesOf e) : RdA P W t none (fun τ=>∃ l,τ = SL l):=by
  have h1 : RdA P W e none (fun τ=>∃ x : Nat,x < 4294967296 ∧ τ = .ex (u32 x)):=(rd_int hu).mono fun τ v ⟨z,hz,hτ⟩ hv=>by
    subst hτ
    have hm : IntKind.u32.min = 0:=by decide
    have hM : IntKind.u32.max = 4294967295:=by decide
    simp [Lit.wf,hm,hM] at hz
    exact ⟨_,⟨z.toNat,by omega,rfl⟩,by
      have : (z.toNat : Int) = z:=by omega
      show v = .int .u32 (z.toNat : Int);rw [this];exact hv⟩
  refine (rd_slice (k:=none) ht hc (by decide) hb h1).mono fun τ v ⟨τs,hσ,hτ⟩ hv=>?_
  subst hτ
  obtain ⟨l,hl,hlt⟩:=forall_map' hσ
  subst hl
  obtain ⟨A,c,us,h2,h3,h4,h5,h6⟩:=LS.vals hv
  rw [List.length_map] at h2 h3 h4
  refine ⟨_,⟨l,rfl⟩,A,c,h2,h3,h4,hlt,fun i x hi=>?_⟩
  have hil:=(List.getElem?_eq_some_iff.1 hi).1
  have hul : i < us.length:=by rw [h5.1,List.length_map];exact hil
  have hui : us[i]? = some us[i]:=by rw [List.getElem?_eq_getElem hul]
  have h7:=(h5.2 i (.ex (u32 x)) us[i] (by rw [List.getElem?_map,hi];rfl) hui).2
  obtain ⟨b,off,e1,h8⟩:=h6 i us[i] hui
  refine ⟨b,off,e1,?_⟩
  have h9 : us[i] = u32 x:=h7
  rw [h9] at h8
  simpa using h8 0 (u32 x) rfl
def FldOk (P : Program) (W : World) : Nat → List Field → List (Option Nat × (MT → Prop)) → Prop
  | _,[],[]=>True
  | off,f :: fs,a :: As=>f.offset = off ∧ P.cellsOf f.type = a.1.getD 1 ∧ RdA P W f.type a.1 a.2 ∧ FldOk P W (off + a.1.getD 1) fs As
  | _,_,_=>False
def Mt : List (Option Nat × (MT → Prop)) → List (Option Nat × MT) → Prop
  | [],[]=>True
  | a :: As,f :: F=>f.1 = a.1 ∧ a.2 f.2 ∧ Mt As F
  | _,_=>False
def tot (As : List (Option Nat × (MT → Prop))) : Nat:=(As.map fun a=>a.1.getD 1).sum
theorem Mt.tot : ∀ {As : List (Option Nat × (MT → Prop))} {F : List (Option Nat × MT)},Mt As F → (F.map fun f=>f.1.getD 1).sum = Go.Proofs.YtdeihehaheelmaaGreat.tot As
  | [],[],_=>rfl
  | a :: As,f :: F,h=>by
    have:=Mt.tot h.2.2
    simp only [Go.Proofs.YtdeihehaheelmaaGreat.tot,List.map_cons,List.sum_cons,h.1] at this ⊢
    rw [this]
  | [],_ :: _,h=>h.elim
  | _ :: _,[],h=>h.elim
theorem rd_fields {H : Type} {enc : TypeId × Value → H} {n : Nat} {cs : List Value} : ∀ (fs : List Field) (As : List (Option Nat × (MT → Prop))) (xs : List (DataW H × List MemPlace)) (off : Nat), FldOk P W off fs As → xs.length = fs.length →
    (∀ (i : Nat) (f : Field),fs[i]? = some f → DataW.trod enc P W 0 (fun _=>true) true n f.type ((cs.drop f.offset).take (P.cellsOf f.type)) = xs[i]?) → (DataW.weightsEach P (fs.map (·.type)) (xs.map (·.1))).all (· ≤ reachBytes) = true → cs.length = off + tot As →
    ∃ us F,Mt As F ∧ flat us = cs.drop off ∧ us.length = F.length ∧ ∀ (i : Nat) (f : Option Nat × MT) (u : Value),F[i]? = some f → us[i]? = some u → Shaped f.1 u ∧ f.2.t u (G0of W)
  | [],[],xs,off,_,_,_,_,hl=>⟨[],[],trivial,by rw [List.drop_eq_nil_of_le (by rw [hl];simp [tot])];rfl,rfl,fun i f u h=>by simp at h⟩
  | f :: fs,a :: As,[],off,_,hx,_,_,_=>by simp at hx
  | f :: fs,a :: As,x :: xs,off,hF,hx,hT,hw,hl=>by
    obtain ⟨h1,h2,h3,h4⟩:=hF
    simp only [List.map_cons,DataW.weightsEach,List.all_append,Bool.and_eq_true] at hw
    obtain ⟨v,τ,h5,h6,h7,h8⟩:=h3 H enc n _ x (hT 0 f rfl) hw.1
    obtain ⟨us,F,g1,g2,g3,g4⟩:=rd_fields fs As xs (off + a.1.getD 1) h4 (by simpa using hx) (fun i g hg=>by simpa using hT (i + 1) g (by simpa using hg)) hw.2 (by rw [hl];simp [tot];omega)
    refine ⟨v :: us,(a.1,τ) :: F,⟨rfl,h5,g1⟩,?_,by simp [g3],fun i f' u hf hu=>?_⟩
    · rw [flat_cons,h6,g2,h1,h2,← List.drop_drop,List.take_append_drop]
    · cases i with
      | zero=>simp at hf hu;subst hf;subst hu;exact ⟨h7,h8⟩
      | succ i=>exact g4 i f' u (by simpa using hf) (by simpa using hu)
  | [],_ :: _,_,_,h,_,_,_,_=>h.elim
  | _ :: _,[],_,_,h,_,_,_,_=>h.elim
theorem rd_struct {fs : Array Field} {As : List (Option Nat × (MT → Prop))} {n : Nat} (ht : P.underlying t = some (.struct fs)) (hn : P.cellsOf t = n) (hnA : tot As = n) (hF : FldOk P W 0 fs.toList As) : RdA P W t (some n) (fun τ=>∃ F,Mt As F ∧ τ = PTS F):=fun H enc fuel cs x hx hw=>by
  obtain ⟨xs,m,rfl,rfl,hl,hxl,hT⟩:=DataW.trod_struct ht hx
  simp only [DataW.weights,ht] at hw
  obtain ⟨us,F,h1,h2,h3,h4⟩:=rd_fields fs.toList As xs 0 hF (by simpa using hxl) (fun i f hf=>hT i f (by simpa using hf)) hw (by omega)
  have hP : (PTS F).t (.agg (flat us).toArray) (G0of W):=⟨us,rfl,h3,h4⟩
  refine ⟨.agg (flat us).toArray,PTS F,⟨F,h1,rfl⟩,by rw [h2];rfl,PTS.shaped (by unfold offs;rw [List.take_length,h1.tot,hnA]) hP,hP⟩
theorem shaped1 {u : Value} (h : Shaped none u) : u.cells = #[u]:=h.1
theorem PTS.toQR {s : Bool} {p q : List Nat} {v : Value} {G : Gh} (h : (PTS [(none,.ex (.bool s)),(none,SL p),(none,SL q)]).t v G) : (QR s p q).t v G:=by
  obtain ⟨us,rfl,hl,h⟩:=h
  match us,hl,h with
  | [u0,u1,u2],_,h =>
    obtain ⟨a0,b0⟩:=h 0 _ u0 rfl rfl
    obtain ⟨a1,b1⟩:=h 1 _ u1 rfl rfl
    obtain ⟨a2,b2⟩:=h 2 _ u2 rfl rfl
    refine ⟨u1,u2,?_,b1,b2⟩
    have e0 : u0 = .bool s:=b0
    simp only [flat,List.flatMap_cons,List.flatMap_nil,shaped1 a0,shaped1 a1,shaped1 a2]
    rw [e0];rfl
theorem rd_frac {fs : Array Field} {f0 f1 f2 : Field} {tw : TypeId} (ht : P.underlying t = some (.struct fs)) (hf : fs.toList = [f0, f1, f2]) (hn : P.cellsOf t = 3) (h0 : f0.offset = 0 ∧ P.cellsOf f0.type = 1 ∧ P.underlying f0.type = some .bool) (h1 : f1.offset = 1 ∧ f1.type = tw) (h2 : f2.offset = 2 ∧ f2.type = tw)
    (hw : P.underlying tw = some (.slice e) ∧ P.cellsOf tw = 1) (he : P.underlying e = some (.int .u32) ∧ P.cellsOf e = 1 ∧ 4 ≤ P.bytesOf e) : RdA P W t (some 3) (fun τ=>∃ r : FR,τ = QR r.s r.p r.q):=by
  have hW : RdA P W tw none (fun τ=>∃ l,τ = SL l):=rd_words hw.1 he.1 he.2.1 he.2.2
  refine (rd_struct (As:=[(none,fun τ=>∃ b,τ = .ex (.bool b)),(none,fun τ=>∃ l,τ = SL l),(none,fun τ=>∃ l,τ = SL l)]) ht hn rfl (by
    rw [hf];exact ⟨h0.1,h0.2.1,rd_bool h0.2.2,h1.1,by rw [h1.2];exact hw.2,by rw [h1.2];exact hW,h2.1,by rw [h2.2];exact hw.2,by rw [h2.2];exact hW,trivial⟩)).mono fun τ v ⟨F,hM,hτ⟩ hv=>?_
  subst hτ
  match F,hM with
  | [a,b,c],⟨a1,⟨s,a2⟩,b1,⟨p,b2⟩,c1,⟨q,c2⟩,_⟩ =>
    obtain ⟨a0,a'⟩:=a;obtain ⟨b0,b'⟩:=b;obtain ⟨c0,c'⟩:=c
    simp only at a1 a2 b1 b2 c1 c2
    subst a1;subst a2;subst b1;subst b2;subst c1;subst c2
    exact ⟨_,⟨⟨s,p,q⟩,rfl⟩,PTS.toQR hv⟩
theorem rd_arg {H : Type} {enc : TypeId × Value → H} {v : Value} {d : DataW H} {ps : List MemPlace} (h : RdA P W t k A) (hd : DataW.Trod enc P W 0 (fun _ => true) true t v d ps) (hw : (d.weights P t).all (· ≤ reachBytes) = true)
    (hv : match k with | none=>v.cells = #[v] | some _=>∃ cs,v = .agg cs) : ∃ τ,A τ ∧ Shaped k v ∧ τ.t v (G0of W):=by
  obtain ⟨fuel,hf⟩:=hd
  obtain ⟨u,τ,h1,h2,h3,h4⟩:=h H enc fuel _ _ hf hw
  have : u = v:=by
    cases k with
    | none =>
      have h5 : u.cells = #[u]:=h3.1
      rw [h5,hv] at h2
      simpa using h2
    | some n =>
      obtain ⟨cs,rfl⟩:=hv
      obtain ⟨cs',rfl,_⟩:=h3
      have : cs'.toList = cs.toList:=h2
      rw [Array.toList_inj.1 this]
  subst this
  exact ⟨τ,h1,h3,h4⟩
end
end Go.Proofs.YtdeihehaheelmaaGreat
namespace Go.Proofs.YtdeihehaheelmaaGreat.grashofTurnsDone
open Go.ChangeShapes Go.WideShapes Go.ChangeAt Go.RowKit
theorem own : ownKnob Tryz.prog.godebug = none:=by kernel_rfl
theorem laidOut : laidOutB Tryz.prog = true:=by kernel_rfl
theorem rd24 (W : World) : RdA Tryz.prog W 24 (some 3) (fun τ=>∃ r : FR,τ = RX r) :=
  rd_frac (tw:=22) (e:=91) Tryz.underlying24 rfl (by kernel_rfl) ⟨rfl,by kernel_rfl,Tryz.underlying4⟩ ⟨rfl,rfl⟩ ⟨rfl,rfl⟩ ⟨Tryz.underlying22,by kernel_rfl⟩ ⟨Tryz.underlying91,by kernel_rfl,of_decide_eq_true (by kernel_rfl)⟩
theorem rd26 (W : World) : RdA Tryz.prog W 26 (some 12) (fun τ=>∃ x : (FR) × (FR) × (FR) × (FR),τ = PTS [(some 3,RX (x.1)),(some 3,RX (x.2.1)),(some 3,RX (x.2.2.1)),(some 3,RX (x.2.2.2))]) :=
  (rd_struct (As:=[(some 3,fun τ=>∃ x : FR,τ = RX x),(some 3,fun τ=>∃ x : FR,τ = RX x),(some 3,fun τ=>∃ x : FR,τ = RX x),(some 3,fun τ=>∃ x : FR,τ = RX x)]) Tryz.underlying26 (by kernel_rfl) rfl ⟨rfl,by kernel_rfl,rd24 W,rfl,by kernel_rfl,rd24 W,rfl,by kernel_rfl,rd24 W,rfl,by kernel_rfl,rd24 W,trivial⟩).mono fun τ v ⟨F,hM,hτ⟩ hv=>by
    subst hτ
    match F,hM with
    | [(m0k,m0t),(m1k,m1t),(m2k,m2t),(m3k,m3t)],⟨m0e,⟨m0x,m0h⟩,m1e,⟨m1x,m1h⟩,m2e,⟨m2x,m2h⟩,m3e,⟨m3x,m3h⟩,_⟩ =>
      simp only at m0e m0h
      subst m0e;subst m0h
      simp only at m1e m1h
      subst m1e;subst m1h
      simp only at m2e m2h
      subst m2e;subst m2h
      simp only at m3e m3h
      subst m3e;subst m3h
      exact ⟨_,⟨(m0x,m1x,m2x,m3x),rfl⟩,hv⟩
set_option maxRecDepth 100000 in
theorem lifted (os : Os) (started : os.Started) (H : Type) (enc : TypeId × Value → H) :
    ReturnsInHanded {} Tryz.checked os 4 .any (Rows.grashofTurnsSpec.pre6 enc Tryz.prog Tryz.f4 Rows.grashofTurnsRow.domain false) (Rows.grashofTurnsSpec.post enc Tryz.prog Tryz.f4 false true false false):=by
  refine returnsInHanded_of_change_sized (C:=Tryz.checked) own started (by kernel_rfl) Tryz.func4
    (ChangeSpec.witness6 (enc:=enc) (C:=Tryz.checked) false ⟨#[],#[.agg #[.bool false,.slice none 0 0,.slice none 0 0,.bool false,.slice none 0 0,.slice none 0 0,.bool false,.slice none 0 0,.slice none 0 0,.bool false,.slice none 0 0,.slice none 0 0],.int .i64 0],[]⟩ 8 (by kernel_rfl) (by kernel_rfl) (by kernel_rfl) (by kernel_rfl)) ?_
  intro W base args ds gs before hval0 hW hcnd hsz _
  have hval : ∀ (j : Nat) t v,Tryz.f4.params[j]? = some t → args[j]? = some v → Value.okWide Tryz.prog W .any base t v:=hval0
  have hW':=hW
  obtain ⟨p,q,hA0,hV,rfl,hfz,hnd⟩:=hW
  have hA : DataW.TrodAll enc Tryz.prog W 0 (fun _=>true) true Tryz.f4.params.toList args.toList ds p:=hA0
  have hsz : (DataW.weightsEach Tryz.prog (Tryz.f4.params.toList ++ _) (ds ++ gs)).all (· ≤ reachBytes) = true:=hsz
  rw [Tryz.params4] at hA hval hsz
  obtain ⟨v0,vs0,d0,ds0,p0,q0,hargs,rfl,rfl,h0,r0⟩:=trodAll_cons hA
  obtain ⟨v1,vs1,d1,ds1,p1,q1,rfl,rfl,rfl,h1,r1⟩:=trodAll_cons r0
  obtain ⟨rfl,rfl,rfl⟩:=trodAll_nil r1
  obtain rfl : args = #[v0,v1]:=by cases args;simp_all
  obtain ⟨rfl,rfl⟩:=trodVars_none hV
  obtain ⟨cs0,rfl,hcs0⟩:=okWide_struct Tryz.underlying26 (hval 0 26 v0 rfl rfl)
  have k0:=h0
  have lt0 : ∀ x ∈ p0,x.block < W.heap.size:=by obtain ⟨m,hm⟩:=k0;exact DataW.trod_lt m _ _ _ hm
  have z0 : (d0.weights Tryz.prog 26).all (· ≤ reachBytes) = true:=List.all_eq_true.2 fun x hx=>List.all_eq_true.1 hsz x (DataW.weights_mem_each (j:=0) rfl rfl x hx)
  obtain ⟨τ0,⟨x0,rfl⟩,_,H0⟩:=rd_arg (rd26 W) k0 z0 ⟨_,rfl⟩
  obtain ⟨a1,rfl,rfl,rfl,w1⟩:=open_int Tryz.underlying3 (hval 1 3 v1 rfl rfl) h1
  clear hA0 hval0
  refine (lTurns_ok (G0of_ok W) H0 rfl).mono fun e W' hr=>?_
  obtain ⟨v,G',rfl,hv,hn⟩:=hr
  have hv : v = .bool true:=hv
  subst hv
  have bel : RowKit.Below W.heap.size W W':=hn.below
  exact ⟨_,rfl,_,_,_,[],_,[],hW',trodAll_mk1 (shut_bool Tryz.underlying4 _),(trodAll_cons_mk (Below.trod laidOut (by kernel_rfl) (of_decide_eq_true (by kernel_rfl)) k0 bel lt0) (trodAll_cons_mk (shut_int Tryz.underlying3 w1) trodAll_mk0)),rfl,bel.frame _,fun h=>by cases h⟩
theorem over : Rows.grashofTurnsRow.holds Tryz.pinned (OpenSpec.ofChange Rows.grashofTurnsSpec) :=
  OpenClaim.holds_of_wide 4 Tryz.f4 rfl rfl rfl rfl rfl rfl rfl ⟨rfl,rfl,rfl,rfl,rfl⟩ rfl rfl rfl rfl rfl (by kernel_rfl) Tryz.func4 (by kernel_rfl)
    (of_decide_eq_true (by kernel_rfl)) (by unfold Func.isWrapper;first | (rw [if_pos (by decide +kernel)];kernel_rfl) | (rw [if_neg (by decide +kernel)];exact ⟨rfl,rfl⟩))
    (fun os started H enc _=>lifted os started H enc)
theorem proved : Rows.GrashofTurnsSaid:=over
end Go.Proofs.YtdeihehaheelmaaGreat.grashofTurnsDone
