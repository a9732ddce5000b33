import Derived.Test.YtboicjlbbbodgaaGreatDoorProg
import Derived.Test.YtboicjlbbbodgaaGreatDoorQTsb
set_option linter.unusedVariables false
set_option linter.unusedSimpArgs false
namespace Go.Proofs.YtboicjlbbbodgaaGreatDoor
set_option maxHeartbeats 1000000
set_option maxRecDepth 100000
open Go.RowKit (Below)
private theorem c_163 : callable Tryz.prog 163 = true:=by kernel_rfl
private theorem c_164 : callable Tryz.prog 164 = true:=by kernel_rfl
private theorem el_99 : elS Tryz.prog 99 1 4 (.int .u32 0):=by unfold elS;kernel_rfl
private theorem it_139 : intTy Tryz.prog 139 .u64 = true:=by kernel_rfl
private theorem it_99 : intTy Tryz.prog 99 .u32 = true:=by kernel_rfl
private theorem mixedOrders : Tryz.prog.follows .mixedOrders = true:=by kernel_rfl
private theorem tS_99 : tyS Tryz.prog 99 (none) = true:=by kernel_rfl
theorem word_ok {l : List Nat} {i : Nat} {v1 v2 : Value} {W0 : World} {G0 : Gh} (hok : Gok W0 G0) (h1 : (SL l).t v1 G0) (h2 : (NT i).t v2 G0)  : Calls Tryz.prog 164 #[v1,v2] W0 (Ret W0 G0 (MT.ex (nv .u64 (dig l i)))):=by
 have hlim:=SL.lim h1
 have hwf:=SL.wf h1
 simp only [LIM] at hlim
 have hdl:=dig_lt hwf i
 refine St.enter (N:=14) (L:=[(1,NT i),(0,SL l)]) (args:=[v1,v2]) Tryz.func164 rfl rfl rfl hok (enter2 h1 h2) fun a S=>?_
 refine wp_reg fun K hK=>?_
 refine S.s (τ:=MT.ex (nv .u64 (0))) (OpR.asn S.ok rfl (rfl : _ = nv .u64 0)) rfl fun a w G S=>?_
 refine wn hK ?_;clear hK K
 refine wp_seq_k fun K hK=>?_
 refine wp_reg fun K hK=>?_
 refine S.m rfl (S.g 1 rfl) rfl fun a w G S=>?_
 refine S.m rfl (S.g 3 rfl) rfl fun a w G S=>?_
 refine S.s (OpR.lenL S.ok rfl Tryz.underlying55 (S.g 0 rfl) MT.self) rfl fun a w G S=>?_
 refine S.s (OpR.nlss S.ok rfl (S.e 2 rfl) (S.e 0 rfl) MT.self) rfl fun a w G S=>?_
 refine wn hK ?_;clear hK K
 replace S:=S.d3.d2.d1
 refine S.cond 0 rfl (fun hc1=>?_) (fun hc1=>?_)
 ·
  have hp2:=of_decide_eq_true hc1
  refine wp_reg fun K hK=>?_
  refine S.m rfl (S.g 3 rfl) rfl fun a w G S=>?_
  refine S.m rfl (S.g 3 rfl) rfl fun a w G S=>?_
  refine S.s (τ:=PE (none) (MT.ex (nv .u32 (dig (l) (i))))) (OpR.ixL (i:=i) S.ok rfl Tryz.underlying55 tS_99 (S.g 1 rfl) (S.e 0 rfl) rfl (dig_get (by first | omega | (simp;omega)))) rfl fun a w G S=>?_
  refine S.s (OpR.ldE S.ok rfl tS_99 (S.g 0 rfl)) rfl fun a w G S=>?_
  refine S.s (OpR.nconv S.ok rfl (S.e 0 rfl) it_99 it_139 (wr_u64 (by omega)) MT.self) rfl fun a w G S=>?_
  replace S:=S.d6
  refine S.q rfl (S.g 0 rfl) rfl fun a w G S=>?_
  refine wn hK ?_;clear hK K
  replace S:=S.d5.d4.d3.d2.d1
  exact wp_ret (then_ret (S.retTmp rfl ((S.e 0 rfl).trans (nv_eq (by first | rfl | omega | (simp only [Nat.zero_add,Nat.add_zero];done) | (simp;done) | (push_cast;omega))))))
 ·
  have hp3:=of_decide_eq_false hc1
  refine wp_skip ?_
  refine hK _ _ ?_;clear hK K
  refine wp_reg fun K hK=>?_
  replace S:=S.d1
  refine S.s (τ:=MT.ex (nv .u64 (0))) (OpR.asn S.ok rfl (rfl : _ = nv .u64 0)) rfl fun a w G S=>?_
  refine wn hK ?_;clear hK K
  exact wp_ret (S.retTmp rfl ((S.e 0 rfl).trans (nv_eq (dig_out (by omega)).symm)))
theorem trim_ok {nb m : Nat} {v1 : Value} {W0 : World} {G0 : Gh} (hok : Gok W0 G0) (h1 : (SV nb m).t v1 G0)  : Calls Tryz.prog 163 #[v1] W0 (Ret W0 G0 (SN nb m)):=by
 obtain ⟨hlt,l,hl,h1⟩:=h1
 have hlim:=SL.lim h1
 have hwf:=SL.wf h1
 simp only [LIM] at hlim
 refine St.enter (N:=25) (L:=[(0,SL l)]) (args:=[v1]) Tryz.func163 rfl rfl rfl hok (enter1 h1) fun a S=>?_
 refine wp_reg fun K hK=>?_
 refine S.s (τ:=MT.ex (Value.slice none 0 0)) (OpR.asn S.ok rfl rfl) rfl fun a w G S=>?_
 refine wn hK ?_;clear hK K
 refine wp_reg fun K hK=>?_
 refine S.m rfl (S.g 1 rfl) rfl fun a w G S=>?_
 refine S.s (OpR.lenL S.ok rfl Tryz.underlying55 (S.g 0 rfl) MT.self) rfl fun a w G S=>?_
 refine S.q rfl (S.g 0 rfl) rfl fun a w G S=>?_
 refine wn hK ?_;clear hK K
 replace S:=S.d2.d1
 refine wp_seq_k fun K hK=>?_
 refine wp_block ?_
 refine wp_loopJ (fun μ a w=>∃ (n : Nat) (G : Gh),μ = n ∧ (n ≤ l.length) ∧ (val (l.take n) = val l) ∧  St W0 G0 25 [(3,NT n),(2,MT.ex (Value.slice none 0 0)),(0,SL l)] [] a w G) (l.length) ⟨l.length,_,rfl,(Nat.le_refl _),(by rw [List.take_length]),(S.keep [0,1,2]).keepB [] (by decide)⟩ ?_
 clear S
 intro μ a w ⟨n,G,hm,hn,hv,S⟩
 refine wp_seq_k fun K hK=>?_
 refine wp_reg fun K hK=>?_
 refine S.m rfl (S.g 0 rfl) rfl fun a w G S=>?_
 refine S.s (OpR.ngtr S.ok rfl (S.e 0 rfl) (rfl : _ = nv .i64 0) MT.self) rfl fun a w G S=>?_
 refine S.m rfl (S.g 0 rfl) rfl fun a w G S=>?_
 rcases Bool.eq_false_or_eq_true (decide (0 < n)) with hc1 | hc1
 ·
  have hp2:=of_decide_eq_true hc1
  replace S:=S.boolIs 0 rfl hc1
  refine S.stepG 0 (OpR.mv S.ok rfl (S.g 6 rfl)) rfl rfl rfl rfl rfl rfl fun a w G S=>?_
  refine S.stepG 1 (OpR.mv S.ok rfl (S.g 5 rfl)) rfl rfl rfl rfl rfl rfl fun a w G S=>?_
  refine S.stepG 2 (OpR.nsub S.ok rfl (S.e 0 rfl) (rfl : _ = nv .i64 1) (by omega) (wr_i64 (by omega)) MT.self) rfl rfl rfl rfl rfl rfl fun a w G S=>?_
  refine S.stepG (τ:=PE (none) (MT.ex (nv .u32 (dig (l) (n - 1))))) 3 (OpR.ixL (i:=n - 1) S.ok rfl Tryz.underlying55 tS_99 (S.g 2 rfl) (S.e 0 rfl) rfl (dig_get (by first | omega | (simp;omega)))) rfl rfl rfl rfl rfl rfl fun a w G S=>?_
  refine S.stepG 4 (OpR.ldE S.ok rfl tS_99 (S.g 0 rfl)) rfl rfl rfl rfl rfl rfl fun a w G S=>?_
  refine S.stepG 5 (OpR.neql S.ok rfl (S.e 0 rfl) (rfl : _ = nv .u32 0) MT.self) rfl rfl rfl rfl rfl rfl fun a w G S=>?_
  refine S.s (τ:=BT (decide ((dig (l) (n - 1)) = 0))) (OpR.pick S.ok rfl (S.e 6 rfl) (S.g 0 rfl)) rfl fun a w G S=>?_
  refine wn hK ?_;clear hK K
  replace S:=S.d10.d9.d8.d7.d6.d5.d4.d3.d2.d1
  refine S.cond 0 rfl (fun hc3=>?_) (fun hc3=>?_)
  ·
   have hp4:=of_decide_eq_true hc3
   refine wp_skip ?_
   refine hK _ _ ?_;clear hK K
   refine wp_block ?_
   refine wp_region_lit ?_
   refine S.m rfl (S.g 1 rfl) rfl fun a w G S=>?_
   refine S.s (OpR.nsub S.ok rfl (S.e 0 rfl) (rfl : _ = nv .i64 1) (by omega) (wr_i64 (by omega)) MT.self) rfl fun a w G S=>?_
   replace S:=S.d3
   refine S.q rfl (S.g 0 rfl) rfl fun a w G S=>?_
   refine wpList_nil ?_
   replace S:=S.d2.d1
   exact ⟨(n - 1),(by omega),n - 1,_,rfl,(by omega),(trim_step ‹_› ‹_› hv),(S.keep [0,2,3]).keepB [] (by decide)⟩
  ·
   have hp5:=of_decide_eq_false hc3
   refine wp_exit (then_exit (then_exit (exit_same ?_)))
   clear hK K
   refine hK _ _ ?_;clear hK K
   refine wp_seq_k fun K hK=>?_
   refine wp_reg fun K hK=>?_
   refine S.m rfl (S.g 1 rfl) rfl fun a w G S=>?_
   refine S.s (OpR.neql S.ok rfl (S.e 0 rfl) (rfl : _ = nv .i64 0) MT.self) rfl fun a w G S=>?_
   refine wn hK ?_;clear hK K
   replace S:=S.d1
   refine S.cond 0 rfl (fun hc6=>?_) (fun hc6=>?_)
   ·
    have hp7:=of_decide_eq_true hc6
    refine wp_reg fun K hK=>?_
    replace S:=S.d3
    refine S.s (τ:=MT.ex (Value.slice none 0 0)) (OpR.asn S.ok rfl rfl) rfl fun a w G S=>?_
    refine wn hK ?_;clear hK K
    exact wp_ret (then_ret (S.retTmp rfl (SN_nil_of (S.e 0 rfl) (trim_zero ‹_› hv hl))))
   ·
    have hp8:=of_decide_eq_false hc6
    refine wp_skip ?_
    refine hK _ _ ?_;clear hK K
    refine wp_reg fun K hK=>?_
    refine S.s (τ:=EMP) (OpR.build0 S.ok rfl Tryz.underlying55 el_99) rfl fun a w G S=>?_
    refine S.m rfl (S.g 5 rfl) rfl fun a w G S=>?_
    refine S.m rfl (S.g 4 rfl) rfl fun a w G S=>?_
    refine S.s (τ:=SL (l.take (n))) (OpR.cutL S.ok rfl Tryz.underlying55 tS_99 (S.g 1 rfl) (S.e 0 rfl) rfl (by first | omega | (simp;omega))) rfl fun a w G S=>?_
    refine S.s (τ:=SL (l.take (n))) (OpR.appNew S.ok rfl Tryz.underlying55 el_99 (S.g 3 rfl) (S.g 0 rfl)) rfl fun a w G S=>?_
    replace S:=S.d8
    refine S.q rfl (S.g 0 rfl) rfl fun a w G S=>?_
    refine wn hK ?_;clear hK K
    replace S:=S.d5.d4.d3.d2.d1
    exact wp_ret (S.retTmp rfl (SL.toSN (S.g 0 rfl) (trim_words ‹_› (by first | omega | exact ‹_›) hn hv hl hwf) hlt))
 ·
  have hp9:=of_decide_eq_false hc1
  replace S:=S.boolIs 0 rfl hc1
  refine S.skipG 0 rfl rfl rfl rfl rfl rfl fun a w G S=>?_
  refine S.skipG 1 rfl rfl rfl rfl rfl rfl fun a w G S=>?_
  refine S.skipG 2 rfl rfl rfl rfl rfl rfl fun a w G S=>?_
  refine S.skipG 3 rfl rfl rfl rfl rfl rfl fun a w G S=>?_
  refine S.skipG 4 rfl rfl rfl rfl rfl rfl fun a w G S=>?_
  refine S.skipG 5 rfl rfl rfl rfl rfl rfl fun a w G S=>?_
  refine S.s (τ:=BT false) (OpR.pick S.ok rfl (S.e 6 rfl) rfl) rfl fun a w G S=>?_
  refine wn hK ?_;clear hK K
  replace S:=S.d10.d9.d8.d7.d6.d5.d4.d3.d2.d1
  refine wp_cond_false (S.e 0 rfl) ?_
  refine wp_exit (then_exit (then_exit (exit_same ?_)))
  clear hK K
  refine hK _ _ ?_;clear hK K
  refine wp_seq_k fun K hK=>?_
  refine wp_reg fun K hK=>?_
  refine S.m rfl (S.g 1 rfl) rfl fun a w G S=>?_
  refine S.s (OpR.neql S.ok rfl (S.e 0 rfl) (rfl : _ = nv .i64 0) MT.self) rfl fun a w G S=>?_
  refine wn hK ?_;clear hK K
  replace S:=S.d1
  refine S.cond 0 rfl (fun hc10=>?_) (fun hc10=>?_)
  ·
   have hp11:=of_decide_eq_true hc10
   refine wp_reg fun K hK=>?_
   replace S:=S.d3
   refine S.s (τ:=MT.ex (Value.slice none 0 0)) (OpR.asn S.ok rfl rfl) rfl fun a w G S=>?_
   refine wn hK ?_;clear hK K
   exact wp_ret (then_ret (S.retTmp rfl (SN_nil_of (S.e 0 rfl) (trim_zero ‹_› hv hl))))
  ·
   have hp12:=of_decide_eq_false hc10
   refine wp_skip ?_
   refine hK _ _ ?_;clear hK K
   refine wp_reg fun K hK=>?_
   refine S.s (τ:=EMP) (OpR.build0 S.ok rfl Tryz.underlying55 el_99) rfl fun a w G S=>?_
   refine S.m rfl (S.g 5 rfl) rfl fun a w G S=>?_
   refine S.m rfl (S.g 4 rfl) rfl fun a w G S=>?_
   refine S.s (τ:=SL (l.take (n))) (OpR.cutL S.ok rfl Tryz.underlying55 tS_99 (S.g 1 rfl) (S.e 0 rfl) rfl (by first | omega | (simp;omega))) rfl fun a w G S=>?_
   refine S.s (τ:=SL (l.take (n))) (OpR.appNew S.ok rfl Tryz.underlying55 el_99 (S.g 3 rfl) (S.g 0 rfl)) rfl fun a w G S=>?_
   replace S:=S.d8
   refine S.q rfl (S.g 0 rfl) rfl fun a w G S=>?_
   refine wn hK ?_;clear hK K
   replace S:=S.d5.d4.d3.d2.d1
   exact wp_ret (S.retTmp rfl (SL.toSN (S.g 0 rfl) (trim_words ‹_› (by first | omega | exact ‹_›) hn hv hl hwf) hlt))
theorem compare_ok {na nb x y : Nat} {v1 v2 : Value} {W0 : World} {G0 : Gh} (hok : Gok W0 G0) (h1 : (SN na x).t v1 G0) (h2 : (SN nb y).t v2 G0)  : Calls Tryz.prog 141 #[v1,v2] W0 (Ret W0 G0 (IT (cmpN x y))):=by
 have hla:=SL.lim (SN.toSL h1)
 have hlb:=SL.lim (SN.toSL h2)
 simp only [LIM] at hla hlb
 refine St.enter (N:=41) (L:=[(1,SN nb y),(0,SN na x)]) (args:=[v1,v2]) Tryz.func141 rfl rfl rfl hok (enter2 h1 h2) fun a S=>?_
 refine wp_reg fun K hK=>?_
 refine S.s (τ:=NT 0) (OpR.asn S.ok rfl (rfl : _ = nv .i64 0)) rfl fun a w G S=>?_
 refine wn hK ?_;clear hK K
 refine wp_seq_k fun K hK=>?_
 refine wp_reg fun K hK=>?_
 refine S.m rfl (S.g 2 rfl) rfl fun a w G S=>?_
 refine S.s (OpR.lenL S.ok rfl Tryz.underlying55 (SN.toSL (S.g 0 rfl)) MT.self) rfl fun a w G S=>?_
 refine S.m rfl (S.g 3 rfl) rfl fun a w G S=>?_
 refine S.s (OpR.lenL S.ok rfl Tryz.underlying55 (SN.toSL (S.g 0 rfl)) MT.self) rfl fun a w G S=>?_
 refine S.s (OpR.nneq S.ok rfl (S.e 2 rfl) (S.e 0 rfl) MT.self) rfl fun a w G S=>?_
 refine wn hK ?_;clear hK K
 replace S:=S.d4.d3.d2.d1
 refine S.cond 0 rfl (fun hc1=>?_) (fun hc1=>?_)
 ·
  have hp2:=of_decide_eq_true hc1
  refine wp_seq_k fun K hK=>?_
  refine wp_reg fun K hK=>?_
  refine S.m rfl (S.g 3 rfl) rfl fun a w G S=>?_
  refine S.s (OpR.lenL S.ok rfl Tryz.underlying55 (SN.toSL (S.g 0 rfl)) MT.self) rfl fun a w G S=>?_
  refine S.m rfl (S.g 4 rfl) rfl fun a w G S=>?_
  refine S.s (OpR.lenL S.ok rfl Tryz.underlying55 (SN.toSL (S.g 0 rfl)) MT.self) rfl fun a w G S=>?_
  refine S.s (OpR.nlss S.ok rfl (S.e 2 rfl) (S.e 0 rfl) MT.self) rfl fun a w G S=>?_
  refine wn hK ?_;clear hK K
  replace S:=S.d4.d3.d2.d1
  refine S.cond 0 rfl (fun hc3=>?_) (fun hc3=>?_)
  ·
   have hp4:=of_decide_eq_true hc3
   refine wp_reg fun K hK=>?_
   replace S:=S.d2
   refine S.s (τ:=IT (-1)) (OpR.asn S.ok rfl (rfl : _ = Value.int .i64 (-1))) rfl fun a w G S=>?_
   refine wn hK ?_;clear hK K
   exact wp_ret (then_ret (then_ret (S.retTmp rfl ((S.e 0 rfl).trans (iv_eq (cmp_of_lt (lt_of_len ‹_›)))))))
  ·
   have hp5:=of_decide_eq_false hc3
   refine wp_skip ?_
   refine hK _ _ ?_;clear hK K
   refine wp_reg fun K hK=>?_
   replace S:=S.d2
   refine S.s (τ:=NT 1) (OpR.asn S.ok rfl (rfl : _ = nv .i64 1)) rfl fun a w G S=>?_
   refine wn hK ?_;clear hK K
   exact wp_ret (then_ret (S.retTmp rfl ((S.e 0 rfl).trans (iv_eq (cmp_of_gt (lt_of_len (by omega)))))))
 ·
  have hp6:=of_decide_eq_false hc1
  refine wp_skip ?_
  refine hK _ _ ?_;clear hK K
  refine wp_seq_k fun K hK=>?_
  refine wp_reg fun K hK=>?_
  refine S.m rfl (S.g 3 rfl) rfl fun a w G S=>?_
  refine S.s (OpR.lenL S.ok rfl Tryz.underlying55 (SN.toSL (S.g 0 rfl)) MT.self) rfl fun a w G S=>?_
  refine S.s (τ:=IT ((((words (x)).length : Nat) : Int) - ((1 : Nat) : Int))) (OpR.isub S.ok rfl (S.e 0 rfl) (rfl : _ = nv .i64 1) (iw_i64 (by omega) (by omega))) rfl fun a w G S=>?_
  refine S.q rfl (S.g 0 rfl) rfl fun a w G S=>?_
  refine wn hK ?_;clear hK K
  replace S:=S.d3.d2.d1
  refine wp_block ?_
  replace S:=S.also (t:=5) (τ:=IT (((((words x).length) : Nat) : Int) - ((1 : Nat) : Int))) ((S.e 0 rfl).trans (iv_eq (by first | rfl | omega | (simp only [Nat.zero_add,Nat.add_zero];done) | (simp;done) | (push_cast;omega))))
  refine wp_loopJ (fun μ a w=>∃ (k : Nat) (G : Gh),μ = k ∧ (k ≤ (words x).length) ∧ (val ((words x).drop k) = val ((words y).drop k)) ∧  St W0 G0 41 [(5,IT (((k : Nat) : Int) - ((1 : Nat) : Int))),(10,BT (decide (((words (x)).length) ≠ ((words (y)).length)))),(4,NT 0),(1,SN nb y),(0,SN na x)] [] a w G) (((words x).length)) ⟨(words x).length,_,rfl,(Nat.le_refl _),(by rw [List.drop_length,List.drop_of_length_le (by omega)]),(S.keep [0,2,3,4,5]).keepB [] (by decide)⟩ ?_
  clear S
  intro μ a w ⟨k,G,hm,hk,he,S⟩
  refine wp_seq_k fun K hK=>?_
  refine wp_reg fun K hK=>?_
  refine S.m rfl (S.g 0 rfl) rfl fun a w G S=>?_
  refine S.s (OpR.igeq S.ok rfl (S.e 0 rfl) (rfl : _ = nv .i64 0) MT.self) rfl fun a w G S=>?_
  refine wn hK ?_;clear hK K
  replace S:=S.d1
  refine S.cond 0 rfl (fun hc7=>?_) (fun hc7=>?_)
  ·
   have hp8:=of_decide_eq_true hc7
   refine wp_skip ?_
   refine hK _ _ ?_;clear hK K
   refine wp_seq_k fun K hK=>?_
   refine wp_block ?_
   refine wp_seq_k fun K hK=>?_
   refine S.drawn [⟨23,.g (SN na x),[]⟩,⟨24,.g (IT (((k : Nat) : Int) - ((1 : Nat) : Int))),[]⟩,⟨25,.g (PE (none) (MT.ex (nv .u32 (dig (words (x)) (k - 1))))),[0,1]⟩,⟨26,.g (MT.ex (nv .u32 (dig (words (x)) (k - 1)))),[2]⟩,⟨27,.g (SN nb y),[]⟩,⟨28,.g (IT (((k : Nat) : Int) - ((1 : Nat) : Int))),[]⟩,⟨29,.g (PE (none) (MT.ex (nv .u32 (dig (words (y)) (k - 1))))),[4,5]⟩,⟨30,.g (MT.ex (nv .u32 (dig (words (y)) (k - 1)))),[6]⟩,⟨31,.g (BT (decide ((dig (words (x)) (k - 1)) ≠ (dig (words (y)) (k - 1))))),[3,7]⟩] mixedOrders (by kernel_rfl)
    ⟨fun a w G S=>.of rfl (OpR.mv S.ok rfl (S.g 5 rfl)),
     fun a w G S=>.of rfl (OpR.mv S.ok rfl (S.g 1 rfl)),
     fun a w G S=>.of rfl (OpR.ixL (i:=k - 1) S.ok rfl Tryz.underlying55 tS_99 (SN.toSL (S.g 0 rfl)) (S.e 1 rfl) (by omega) (dig_get (by first | omega | (simp;omega)))),
     fun a w G S=>.of rfl (OpR.ldE S.ok rfl tS_99 (S.g 0 rfl)),
     fun a w G S=>.of rfl (OpR.mv S.ok rfl (S.g 4 rfl)),
     fun a w G S=>.of rfl (OpR.mv S.ok rfl (S.g 1 rfl)),
     fun a w G S=>.of rfl (OpR.ixL (i:=k - 1) S.ok rfl Tryz.underlying55 tS_99 (SN.toSL (S.g 0 rfl)) (S.e 1 rfl) (by omega) (dig_get (by first | omega | (simp;omega)))),
     fun a w G S=>.of rfl (OpR.ldE S.ok rfl tS_99 (S.g 0 rfl)),
     fun a w G S=>.of rfl (OpR.nneq S.ok rfl (S.e 0 rfl) (S.e 1 rfl) MT.self),trivial⟩ fun β a w G S=>?_
   replace S : St W0 G0 41 [(31,BT (decide ((dig (words (x)) (k - 1)) ≠ (dig (words (y)) (k - 1))))),(20,BT (decide ((((k : Nat) : Int) - ((1 : Nat) : Int)) ≥ 0))),(5,IT (((k : Nat) : Int) - ((1 : Nat) : Int))),(10,BT (decide (((words (x)).length) ≠ ((words (y)).length)))),(4,NT 0),(1,SN nb y),(0,SN na x)] [] a _ _:=S.keep [0,9,10,11,12,13,14]
   refine wn hK ?_;clear hK K
   refine S.cond 0 rfl (fun hc9=>?_) (fun hc9=>?_)
   ·
    have hp10:=of_decide_eq_true hc9
    refine wp_seq_k fun K hK=>?_
    refine wp_seq_k fun K hK=>?_
    refine S.drawn [⟨32,.g (SN na x),[]⟩,⟨33,.g (IT (((k : Nat) : Int) - ((1 : Nat) : Int))),[]⟩,⟨34,.g (PE (none) (MT.ex (nv .u32 (dig (words (x)) (k - 1))))),[0,1]⟩,⟨35,.g (MT.ex (nv .u32 (dig (words (x)) (k - 1)))),[2]⟩,⟨36,.g (SN nb y),[]⟩,⟨37,.g (IT (((k : Nat) : Int) - ((1 : Nat) : Int))),[]⟩,⟨38,.g (PE (none) (MT.ex (nv .u32 (dig (words (y)) (k - 1))))),[4,5]⟩,⟨39,.g (MT.ex (nv .u32 (dig (words (y)) (k - 1)))),[6]⟩,⟨40,.g (BT (decide ((dig (words (x)) (k - 1)) < (dig (words (y)) (k - 1))))),[3,7]⟩] mixedOrders (by kernel_rfl)
     ⟨fun a w G S=>.of rfl (OpR.mv S.ok rfl (S.g 6 rfl)),
      fun a w G S=>.of rfl (OpR.mv S.ok rfl (S.g 2 rfl)),
      fun a w G S=>.of rfl (OpR.ixL (i:=k - 1) S.ok rfl Tryz.underlying55 tS_99 (SN.toSL (S.g 0 rfl)) (S.e 1 rfl) (by omega) (dig_get (by first | omega | (simp;omega)))),
      fun a w G S=>.of rfl (OpR.ldE S.ok rfl tS_99 (S.g 0 rfl)),
      fun a w G S=>.of rfl (OpR.mv S.ok rfl (S.g 5 rfl)),
      fun a w G S=>.of rfl (OpR.mv S.ok rfl (S.g 2 rfl)),
      fun a w G S=>.of rfl (OpR.ixL (i:=k - 1) S.ok rfl Tryz.underlying55 tS_99 (SN.toSL (S.g 0 rfl)) (S.e 1 rfl) (by omega) (dig_get (by first | omega | (simp;omega)))),
      fun a w G S=>.of rfl (OpR.ldE S.ok rfl tS_99 (S.g 0 rfl)),
      fun a w G S=>.of rfl (OpR.nlss S.ok rfl (S.e 0 rfl) (S.e 1 rfl) MT.self),trivial⟩ fun β a w G S=>?_
    replace S : St W0 G0 41 [(40,BT (decide ((dig (words (x)) (k - 1)) < (dig (words (y)) (k - 1))))),(31,BT (decide ((dig (words (x)) (k - 1)) ≠ (dig (words (y)) (k - 1))))),(20,BT (decide ((((k : Nat) : Int) - ((1 : Nat) : Int)) ≥ 0))),(5,IT (((k : Nat) : Int) - ((1 : Nat) : Int))),(10,BT (decide (((words (x)).length) ≠ ((words (y)).length)))),(4,NT 0),(1,SN nb y),(0,SN na x)] [] a _ _:=S.keep [0,9,10,11,12,13,14,15]
    refine wn hK ?_;clear hK K
    refine S.cond 0 rfl (fun hc11=>?_) (fun hc11=>?_)
    ·
     have hp12:=of_decide_eq_true hc11
     refine wp_reg fun K hK=>?_
     replace S:=S.d5
     refine S.s (τ:=IT (-1)) (OpR.asn S.ok rfl (rfl : _ = Value.int .i64 (-1))) rfl fun a w G S=>?_
     refine wn hK ?_;clear hK K
     exact wp_ret (then_ret (block_ret (then_ret (then_ret (block_ret (then_ret (S.retTmp rfl ((S.e 0 rfl).trans (iv_eq (cmp_of_lt (lt_of_dig (by omega) he ‹_›)))))))))))
    ·
     have hp13:=of_decide_eq_false hc11
     refine wp_skip ?_
     refine hK _ _ ?_;clear hK K
     refine wp_reg fun K hK=>?_
     replace S:=S.d5
     refine S.s (τ:=NT 1) (OpR.asn S.ok rfl (rfl : _ = nv .i64 1)) rfl fun a w G S=>?_
     refine wn hK ?_;clear hK K
     exact wp_ret (block_ret (then_ret (then_ret (block_ret (then_ret (S.retTmp rfl ((S.e 0 rfl).trans (iv_eq (cmp_of_gt (lt_of_dig (by omega) he.symm (by omega)))))))))))
   ·
    have hp14:=of_decide_eq_false hc9
    refine wp_skip ?_
    refine hK _ _ ?_;clear hK K
    refine wp_region_lit ?_
    refine S.m rfl (S.g 2 rfl) rfl fun a w G S=>?_
    refine S.s (τ:=IT ((((k : Nat) : Int) - ((1 : Nat) : Int)) - 1)) (OpR.isub S.ok rfl (S.e 0 rfl) (rfl : _ = nv .i64 1) (iw_i64 (by omega) (by omega))) rfl fun a w G S=>?_
    replace S:=S.d4
    refine S.q rfl (S.g 0 rfl) rfl fun a w G S=>?_
    refine wpList_nil ?_
    replace S:=S.d2.d1
    replace S:=S.also (t:=5) (τ:=IT ((((k - 1) : Nat) : Int) - ((1 : Nat) : Int))) ((S.e 0 rfl).trans (iv_eq (by first | rfl | omega | (simp only [Nat.zero_add,Nat.add_zero];done) | (simp;done) | (push_cast;omega))))
    exact ⟨(k - 1),(by omega),(k - 1),_,rfl,(by omega),(drop_step (by omega) he ‹_›),(S.keep [0,4,5,6,7]).keepB [] (by decide)⟩
  ·
   have hp15:=of_decide_eq_false hc7
   refine wp_exit (then_exit (then_exit (exit_same ?_)))
   clear hK K
   refine hK _ _ ?_;clear hK K
   refine wp_reg fun K hK=>?_
   replace S:=S.d3
   refine S.s (τ:=NT 0) (OpR.asn S.ok rfl (rfl : _ = nv .i64 0)) rfl fun a w G S=>?_
   refine wn hK ?_;clear hK K
   exact wp_ret (S.retTmp rfl ((S.e 0 rfl).trans (iv_eq (cmp_of_eq (eq_of_drop (by omega) he)))))
theorem plus_ok {na nb x y : Nat} {v1 v2 : Value} {W0 : World} {G0 : Gh} (hok : Gok W0 G0) (h1 : (SN na x).t v1 G0) (h2 : (SN nb y).t v2 G0) (hna : na ≤ BIG) (hnb : nb ≤ BIG) : Calls Tryz.prog 140 #[v1,v2] W0 (Ret W0 G0 (SN (max na nb + 1) (x + y))):=by
 have hla:=words_length_bits (SN.lt h1)
 have hlb:=words_length_bits (SN.lt h2)
 simp only [BIG] at hna hnb
 have ha:=SN.lt h1
 have hb:=SN.lt h2
 refine St.enter (N:=39) (L:=[(1,SN nb y),(0,SN na x)]) (args:=[v1,v2]) Tryz.func140 rfl rfl rfl hok (enter2 h1 h2) fun a S=>?_
 refine wp_reg fun K hK=>?_
 refine S.s (τ:=MT.ex (Value.slice none 0 0)) (OpR.asn S.ok rfl rfl) rfl fun a w G S=>?_
 refine wn hK ?_;clear hK K
 refine wp_reg fun K hK=>?_
 refine S.m rfl (S.g 2 rfl) rfl fun a w G S=>?_
 refine S.s (OpR.lenL S.ok rfl Tryz.underlying55 (SN.toSL (S.g 0 rfl)) MT.self) rfl fun a w G S=>?_
 refine S.m rfl (S.g 3 rfl) rfl fun a w G S=>?_
 refine S.s (OpR.lenL S.ok rfl Tryz.underlying55 (SN.toSL (S.g 0 rfl)) MT.self) rfl fun a w G S=>?_
 refine S.s (OpR.nmax S.ok rfl (S.e 2 rfl) (S.e 0 rfl) MT.self) rfl fun a w G S=>?_
 refine S.s (OpR.nadd S.ok rfl (S.e 0 rfl) (rfl : _ = nv .i64 1) (wr_i64 (by omega)) MT.self) rfl fun a w G S=>?_
 refine S.mkSlice (n:=(max ((words (x)).length) ((words (y)).length)) + 1) rfl rfl rfl Tryz.underlying55 el_99 (S.e 0 rfl) (S.e 0 rfl) rfl rfl (by omega) (by omega) rfl rfl fun b14 a w G S=>?_
 refine S.q rfl (S.g 0 rfl) rfl fun a w G S=>?_
 refine wn hK ?_;clear hK K
 replace S:=S.d7.d6.d5.d4.d3.d2.d1
 refine wp_reg fun K hK=>?_
 refine S.s (τ:=MT.ex (nv .u64 (0))) (OpR.asn S.ok rfl (rfl : _ = nv .u64 0)) rfl fun a w G S=>?_
 refine wn hK ?_;clear hK K
 refine wp_seq_k fun K hK=>?_
 refine wp_reg fun K hK=>?_
 refine S.m rfl (S.g 1 rfl) rfl fun a w G S=>?_
 refine S.s (OpR.lenA S.ok rfl Tryz.underlying55 (S.e 0 rfl) MT.self) rfl fun a w G S=>?_
 refine S.s (τ:=NT 0) (OpR.mv S.ok rfl (rfl : _ = nv .i64 0)) rfl fun a w G S=>?_
 refine wn hK ?_;clear hK K
 replace S:=S.d2
 refine wp_block ?_
 replace S:=S.castBox (τ':=MT.ex (Value.agg (ucells ((List.replicate ((max ((words (x)).length) ((words (y)).length)) + 1) 0))).toArray)) 0 rfl fun _ h _=>Eq.trans h (congrArg (fun l=>Value.agg (ucells l).toArray) (by simp))
 replace S:=S.n0
 refine wp_loopJ (fun μ a w=>∃ (k : Nat) (c : Nat) (o : List Nat) (G : Gh),μ = max (words x).length (words y).length + 1 - k ∧ (k ≤ max (words x).length (words y).length + 1) ∧ (c ≤ 1) ∧ (o.length = max (words x).length (words y).length + 1) ∧ (wfl o) ∧ (val (o.take k) + 4294967296 ^ k * c = val ((words x).take k) + val ((words y).take k)) ∧  St W0 G0 39 [(17,NT k),(16,NT ((max ((words (x)).length) ((words (y)).length)) + 1)),(6,MT.ex (nv .u64 (c))),(5,MT.ex (Value.slice (some ⟨b14,0,none⟩) ((max ((words (x)).length) ((words (y)).length)) + 1) ((max ((words (x)).length) ((words (y)).length)) + 1))),(4,MT.ex (Value.slice none 0 0)),(1,SN nb y),(0,SN na x)] [⟨b14,99,some ((max ((words (x)).length) ((words (y)).length)) + 1),MT.ex (Value.agg (ucells (o)).toArray)⟩] a w G) (max (words x).length (words y).length + 1 - 0) ⟨0,0,List.replicate ((max ((words (x)).length) ((words (y)).length)) + 1) 0,_,rfl,(by omega),(by omega),(by simp),(wfl_replicate _),(by simp [val]),(S.keep [0,1,2,3,4,5,6]).keepB [0] (by decide)⟩ ?_
 clear S
 intro μ a w ⟨k,c,o,G,hm,hk,hc,ho,hw,hv,S⟩
 have hda:=dig_lt (wfl_words x) k
 have hdb:=dig_lt (wfl_words y) k
 refine wp_reg fun K hK=>?_
 refine S.s (OpR.nlss S.ok rfl (S.e 0 rfl) (S.e 1 rfl) MT.self) rfl fun a w G S=>?_
 refine wn hK ?_;clear hK K
 refine wp_seq_k fun K hK=>?_
 refine S.cond 0 rfl (fun hc1=>?_) (fun hc1=>?_)
 ·
  have hp2:=of_decide_eq_true hc1
  refine wp_skip ?_
  refine hK _ _ ?_;clear hK K
  refine wp_seq_k fun K hK=>?_
  refine wp_block ?_
  refine wp_reg fun K hK=>?_
  refine S.m rfl (S.g 1 rfl) rfl fun a w G S=>?_
  refine S.q rfl (S.g 0 rfl) rfl fun a w G S=>?_
  refine wn hK ?_;clear hK K
  replace S:=S.d1
  refine wp_reg fun K hK=>?_
  refine S.m rfl (S.g 4 rfl) rfl fun a w G S=>?_
  refine S.m rfl (S.g 9 rfl) rfl fun a w G S=>?_
  refine S.m rfl (S.g 2 rfl) rfl fun a w G S=>?_
  refine S.s (τ:=MT.ex (nv .u64 (dig (words (x)) k))) (OpR.call2 rfl c_164 (word_ok S.ok (SN.toSL (S.g 1 rfl)) (S.g 0 rfl))) rfl fun a w G S=>?_
  refine S.m rfl (S.g 11 rfl) rfl fun a w G S=>?_
  refine S.m rfl (S.g 5 rfl) rfl fun a w G S=>?_
  refine S.s (τ:=MT.ex (nv .u64 (dig (words (y)) k))) (OpR.call2 rfl c_164 (word_ok S.ok (SN.toSL (S.g 1 rfl)) (S.g 0 rfl))) rfl fun a w G S=>?_
  refine S.s (OpR.nadd S.ok rfl (S.e 3 rfl) (S.e 0 rfl) (wr_u64 (by omega)) MT.self) rfl fun a w G S=>?_
  refine S.s (OpR.nadd S.ok rfl (S.e 7 rfl) (S.e 0 rfl) (wr_u64 (by omega)) MT.self) rfl fun a w G S=>?_
  replace S:=S.d13
  refine S.q rfl (S.g 0 rfl) rfl fun a w G S=>?_
  refine wn hK ?_;clear hK K
  replace S:=S.d9.d8.d7.d6.d5.d4.d3.d2.d1
  refine wp_reg fun K hK=>?_
  refine S.m rfl (S.g 5 rfl) rfl fun a w G S=>?_
  refine S.m rfl (S.g 2 rfl) rfl fun a w G S=>?_
  refine S.m rfl (S.g 2 rfl) rfl fun a w G S=>?_
  refine S.s (OpR.nconv32 S.ok rfl (S.e 0 rfl) it_139 it_99 MT.self) rfl fun a w G S=>?_
  refine S.s (τ:=MT.ex (Value.pointer (some ⟨b14,k,none⟩))) (OpR.ixA (i:=k) S.ok rfl Tryz.underlying55 tS_99 (S.e 3 rfl) (S.e 2 rfl) rfl (by first | omega | (simp;omega)) (ptr_eq (by simp only [Option.getD_none] <;> omega))) rfl fun a w G S=>?_
  refine S.setElem 0 (z:=(c + ((dig (words (x)) k) + (dig (words (y)) k))) % 4294967296) rfl rfl rfl rfl (S.e 0 rfl) tS_99 (S.e 1 rfl) rfl (by first | omega | (simp;omega)) fun w S=>?_
  replace S:=S.n0
  refine wn hK ?_;clear hK K
  replace S:=S.d4.d3.d2.d1.d0
  refine wp_region_lit ?_
  refine S.m rfl (S.g 0 rfl) rfl fun a w G S=>?_
  refine S.s (OpR.nshr S.ok rfl (S.e 0 rfl) (rfl : _ = nv .u64 32) (by decide) MT.self) rfl fun a w G S=>?_
  replace S:=S.d2
  refine S.q rfl (S.g 0 rfl) rfl fun a w G S=>?_
  refine wpList_nil ?_
  replace S:=S.d2.d1
  refine hK _ _ ?_;clear hK K
  refine wp_region_lit ?_
  refine S.s (OpR.nadd S.ok rfl (S.e 3 rfl) (rfl : _ = nv .i64 1) (wr_i64 (by omega)) MT.self) rfl fun a w G S=>?_
  replace S:=S.d4
  refine S.m rfl (S.g 0 rfl) rfl fun a w G S=>?_
  refine wpList_nil ?_
  replace S:=S.d1
  replace S:=S.also (t:=6) (τ:=MT.ex (nv .u64 (((c + ((dig (words (x)) k) + (dig (words (y)) k))) / 2 ^ 32)))) ((S.e 1 rfl).trans (nv_eq (by first | rfl | omega | (simp only [Nat.zero_add,Nat.add_zero];done) | (simp;done) | (push_cast;omega))))
  replace S:=S.castBox (τ':=MT.ex (Value.agg (ucells ((o.set (k) ((c + ((dig (words (x)) k) + (dig (words (y)) k))) % 4294967296)))).toArray)) 0 rfl fun _ h _=>Eq.trans h (congrArg (fun l=>Value.agg (ucells l).toArray) (by simp))
  replace S:=S.n0
  exact ⟨max (words x).length (words y).length + 1 - (k + 1),(by omega),k + 1,(c + ((dig (words (x)) k) + (dig (words (y)) k))) / 2 ^ 32,o.set (k) ((c + ((dig (words (x)) k) + (dig (words (y)) k))) % 4294967296),_,rfl,(by omega),(by omega),(by simpa using ho),(hw.set (by omega)),(add_step (by omega) hv),(S.keep [1,5,0,6,7,8,9]).keepB [0] (by decide)⟩
 ·
  have hp3:=of_decide_eq_false hc1
  refine wp_exit (then_exit (then_exit (exit_same ?_)))
  clear hK K
  refine hK _ _ ?_;clear hK K
  refine wp_reg fun K hK=>?_
  obtain ⟨vz4,Gz4,hz4,hs4,hg4,hle4,S⟩:=S.freeze 0 rfl
  have hsl4 : (SL (o)).t (Value.slice (some ⟨b14,0,none⟩) ((max ((words (x)).length) ((words (y)).length)) + 1) ((max ((words (x)).length) ((words (y)).length)) + 1)) Gz4:=SL_frozen hz4 hg4 ⟨ho.symm,Nat.le_refl _⟩ (by simp only [LIM];omega) (by assumption)
  replace S:=S.also (t:=5) (τ:=SL (o)) ((S.e 4 rfl).symm ▸ hsl4)
  replace S : St W0 G0 39 [(5,SL o),(18,BT (decide (k < ((max ((words (x)).length) ((words (y)).length)) + 1)))),(17,NT k),(16,NT ((max ((words (x)).length) ((words (y)).length)) + 1)),(6,MT.ex (nv .u64 (c))),(4,MT.ex (Value.slice none 0 0)),(1,SN nb y),(0,SN na x)] [] a _ _:=S.keep [0,1,2,3,4,6,7,8]
  refine S.m rfl (S.g 0 rfl) rfl fun a w G S=>?_
  refine S.s (τ:=SN (max na nb + 1) (x + y)) (OpR.call1 rfl c_163 (trim_ok S.ok (SL.asSV (S.g 0 rfl) ⟨add_fin ho ‹_› hk hv hc,add_lt_pow ha hb⟩))) rfl fun a w G S=>?_
  replace S:=S.d7
  refine S.q rfl (S.g 0 rfl) rfl fun a w G S=>?_
  refine wn hK ?_;clear hK K
  replace S:=S.d2.d1
  exact wp_ret (S.retTmp rfl (S.g 0 rfl))
theorem less_ok {na nb x y : Nat} {v1 v2 : Value} {W0 : World} {G0 : Gh} (hok : Gok W0 G0) (h1 : (SN na x).t v1 G0) (h2 : (SN nb y).t v2 G0) (hle : y ≤ x) : Calls Tryz.prog 142 #[v1,v2] W0 (Ret W0 G0 (SN na (x - y))):=by
 have hlim:=SL.lim (SN.toSL h1)
 have hx:=SN.lt h1
 simp only [LIM] at hlim
 refine St.enter (N:=38) (L:=[(1,SN nb y),(0,SN na x)]) (args:=[v1,v2]) Tryz.func142 rfl rfl rfl hok (enter2 h1 h2) fun a S=>?_
 refine wp_reg fun K hK=>?_
 refine S.s (τ:=MT.ex (Value.slice none 0 0)) (OpR.asn S.ok rfl rfl) rfl fun a w G S=>?_
 refine wn hK ?_;clear hK K
 refine wp_reg fun K hK=>?_
 refine S.m rfl (S.g 2 rfl) rfl fun a w G S=>?_
 refine S.s (OpR.lenL S.ok rfl Tryz.underlying55 (SN.toSL (S.g 0 rfl)) MT.self) rfl fun a w G S=>?_
 refine S.mkSlice (n:=(words (x)).length) rfl rfl rfl Tryz.underlying55 el_99 (S.e 0 rfl) (S.e 0 rfl) rfl rfl (by omega) (by omega) rfl rfl fun b11 a w G S=>?_
 refine S.q rfl (S.g 0 rfl) rfl fun a w G S=>?_
 refine wn hK ?_;clear hK K
 replace S:=S.d3.d2.d1
 refine wp_reg fun K hK=>?_
 refine S.s (τ:=MT.ex (nv .u64 (0))) (OpR.asn S.ok rfl (rfl : _ = nv .u64 0)) rfl fun a w G S=>?_
 refine wn hK ?_;clear hK K
 refine wp_seq_k fun K hK=>?_
 refine wp_reg fun K hK=>?_
 refine S.m rfl (S.g 1 rfl) rfl fun a w G S=>?_
 refine S.s (OpR.lenA S.ok rfl Tryz.underlying55 (S.e 0 rfl) MT.self) rfl fun a w G S=>?_
 refine S.s (τ:=NT 0) (OpR.mv S.ok rfl (rfl : _ = nv .i64 0)) rfl fun a w G S=>?_
 refine wn hK ?_;clear hK K
 replace S:=S.d2
 refine wp_block ?_
 replace S:=S.castBox (τ':=MT.ex (Value.agg (ucells ((List.replicate ((words (x)).length) 0))).toArray)) 0 rfl fun _ h _=>Eq.trans h (congrArg (fun l=>Value.agg (ucells l).toArray) (by simp))
 replace S:=S.n0
 refine wp_loopJ (fun μ a w=>∃ (k : Nat) (c : Nat) (o : List Nat) (G : Gh),μ = (words x).length - k ∧ (k ≤ (words x).length) ∧ (c ≤ 1) ∧ (o.length = (words x).length) ∧ (wfl o) ∧ (val (o.take k) + val ((words y).take k) = val ((words x).take k) + 4294967296 ^ k * c) ∧  St W0 G0 38 [(14,NT k),(13,NT ((words (x)).length)),(6,MT.ex (nv .u64 (c))),(5,MT.ex (Value.slice (some ⟨b11,0,none⟩) ((words (x)).length) ((words (x)).length))),(4,MT.ex (Value.slice none 0 0)),(1,SN nb y),(0,SN na x)] [⟨b11,99,some ((words (x)).length),MT.ex (Value.agg (ucells (o)).toArray)⟩] a w G) ((words x).length - 0) ⟨0,0,List.replicate ((words (x)).length) 0,_,rfl,(by omega),(by omega),(by simp),(wfl_replicate _),(by simp [val]),(S.keep [0,1,2,3,4,5,6]).keepB [0] (by decide)⟩ ?_
 clear S
 intro μ a w ⟨k,c,o,G,hm,hk,hc,ho,hw,hv,S⟩
 have hda:=dig_lt (wfl_words x) k
 have hdb:=dig_lt (wfl_words y) k
 refine wp_reg fun K hK=>?_
 refine S.s (OpR.nlss S.ok rfl (S.e 0 rfl) (S.e 1 rfl) MT.self) rfl fun a w G S=>?_
 refine wn hK ?_;clear hK K
 refine wp_seq_k fun K hK=>?_
 refine S.cond 0 rfl (fun hc1=>?_) (fun hc1=>?_)
 ·
  have hp2:=of_decide_eq_true hc1
  refine wp_skip ?_
  refine hK _ _ ?_;clear hK K
  refine wp_seq_k fun K hK=>?_
  refine wp_block ?_
  refine wp_reg fun K hK=>?_
  refine S.m rfl (S.g 1 rfl) rfl fun a w G S=>?_
  refine S.q rfl (S.g 0 rfl) rfl fun a w G S=>?_
  refine wn hK ?_;clear hK K
  replace S:=S.d1
  refine wp_seq_k fun K hK=>?_
  refine S.drawn [⟨17,.g (SN na x),[]⟩,⟨18,.g (NT k),[]⟩,⟨19,.g (PE (none) (MT.ex (nv .u32 (dig (words (x)) (k))))),[0,1]⟩,⟨20,.g (MT.ex (nv .u32 (dig (words (x)) (k)))),[2]⟩,⟨21,.g (MT.ex (nv .u64 (dig (words (x)) (k)))),[3]⟩,⟨22,.g (SN nb y),[]⟩,⟨23,.g (NT k),[]⟩,⟨24,.g (MT.ex (nv .u64 (dig (words (y)) k))),[5,6]⟩,⟨25,.g (MT.ex (nv .u64 (((dig (words (x)) (k)) + 18446744073709551616 - (dig (words (y)) k)) % 18446744073709551616))),[4,7]⟩,⟨26,.g (MT.ex (nv .u64 (c))),[]⟩,⟨27,.g (MT.ex (nv .u64 (((((dig (words (x)) (k)) + 18446744073709551616 - (dig (words (y)) k)) % 18446744073709551616) + 18446744073709551616 - c) % 18446744073709551616))),[8,9]⟩,⟨8,.g (MT.ex (nv .u64 (((((dig (words (x)) (k)) + 18446744073709551616 - (dig (words (y)) k)) % 18446744073709551616) + 18446744073709551616 - c) % 18446744073709551616))),[10]⟩] mixedOrders (by kernel_rfl)
   ⟨fun a w G S=>.of rfl (OpR.mv S.ok rfl (S.g 8 rfl)),
    fun a w G S=>.of rfl (OpR.mv S.ok rfl (S.g 0 rfl)),
    fun a w G S=>.of rfl (OpR.ixL (i:=k) S.ok rfl Tryz.underlying55 tS_99 (SN.toSL (S.g 0 rfl)) (S.e 1 rfl) rfl (dig_get (by first | omega | (simp;omega)))),
    fun a w G S=>.of rfl (OpR.ldE S.ok rfl tS_99 (S.g 0 rfl)),
    fun a w G S=>.of rfl (OpR.nconv S.ok rfl (S.e 0 rfl) it_99 it_139 (wr_u64 (by omega)) MT.self),
    fun a w G S=>.of rfl (OpR.mv S.ok rfl (S.g 7 rfl)),
    fun a w G S=>.of rfl (OpR.mv S.ok rfl (S.g 0 rfl)),
    fun a w G S=>.of rfl (OpR.call2 rfl c_164 (word_ok S.ok (SN.toSL (S.g 0 rfl)) (S.g 1 rfl))),
    fun a w G S=>.of rfl (OpR.nsubw S.ok rfl (S.e 0 rfl) (S.e 1 rfl) (by omega) MT.self),
    fun a w G S=>.of rfl (OpR.mv S.ok rfl (S.g 4 rfl)),
    fun a w G S=>.of rfl (OpR.nsubw S.ok rfl (S.e 0 rfl) (S.e 1 rfl) (by omega) MT.self),
    fun a w G S=>.of rfl (OpR.asn S.ok rfl (S.g 0 rfl)),trivial⟩ fun β a w G S=>?_
  replace S : St W0 G0 38 [(8,MT.ex (nv .u64 (((((dig (words (x)) (k)) + 18446744073709551616 - (dig (words (y)) k)) % 18446744073709551616) + 18446744073709551616 - c) % 18446744073709551616))),(7,NT k),(15,BT (decide (k < ((words (x)).length)))),(14,NT k),(13,NT ((words (x)).length)),(6,MT.ex (nv .u64 (c))),(5,MT.ex (Value.slice (some ⟨b11,0,none⟩) ((words (x)).length) ((words (x)).length))),(4,MT.ex (Value.slice none 0 0)),(1,SN nb y),(0,SN na x)] [⟨b11,99,some ((words (x)).length),MT.ex (Value.agg (ucells (o)).toArray)⟩] a _ _:=S.keep [0,12,13,14,15,16,17,18,19,20]
  refine wn hK ?_;clear hK K
  refine wp_reg fun K hK=>?_
  refine S.m rfl (S.g 6 rfl) rfl fun a w G S=>?_
  refine S.m rfl (S.g 2 rfl) rfl fun a w G S=>?_
  refine S.m rfl (S.g 2 rfl) rfl fun a w G S=>?_
  refine S.s (OpR.nconv32 S.ok rfl (S.e 0 rfl) it_139 it_99 MT.self) rfl fun a w G S=>?_
  refine S.s (τ:=MT.ex (Value.pointer (some ⟨b11,k,none⟩))) (OpR.ixA (i:=k) S.ok rfl Tryz.underlying55 tS_99 (S.e 3 rfl) (S.e 2 rfl) rfl (by first | omega | (simp;omega)) (ptr_eq (by simp only [Option.getD_none] <;> omega))) rfl fun a w G S=>?_
  refine S.setElem 0 (z:=(((((dig (words (x)) (k)) + 18446744073709551616 - (dig (words (y)) k)) % 18446744073709551616) + 18446744073709551616 - c) % 18446744073709551616) % 4294967296) rfl rfl rfl rfl (S.e 0 rfl) tS_99 (S.e 1 rfl) rfl (by first | omega | (simp;omega)) fun w S=>?_
  replace S:=S.n0
  refine wn hK ?_;clear hK K
  replace S:=S.d4.d3.d2.d1.d0
  refine wp_region_lit ?_
  refine S.m rfl (S.g 0 rfl) rfl fun a w G S=>?_
  refine S.s (OpR.nshr S.ok rfl (S.e 0 rfl) (rfl : _ = nv .u64 63) (by decide) MT.self) rfl fun a w G S=>?_
  replace S:=S.d7
  refine S.q rfl (S.g 0 rfl) rfl fun a w G S=>?_
  refine wpList_nil ?_
  replace S:=S.d2.d1
  refine hK _ _ ?_;clear hK K
  refine wp_region_lit ?_
  refine S.s (OpR.nadd S.ok rfl (S.e 4 rfl) (rfl : _ = nv .i64 1) (wr_i64 (by omega)) MT.self) rfl fun a w G S=>?_
  replace S:=S.d5
  refine S.m rfl (S.g 0 rfl) rfl fun a w G S=>?_
  refine wpList_nil ?_
  replace S:=S.d1
  replace S:=S.also (t:=6) (τ:=MT.ex (nv .u64 (((((((dig (words (x)) (k)) + 18446744073709551616 - (dig (words (y)) k)) % 18446744073709551616) + 18446744073709551616 - c) % 18446744073709551616) / 2 ^ 63)))) ((S.e 1 rfl).trans (nv_eq (by first | rfl | omega | (simp only [Nat.zero_add,Nat.add_zero];done) | (simp;done) | (push_cast;omega))))
  replace S:=S.castBox (τ':=MT.ex (Value.agg (ucells ((o.set (k) ((((((dig (words (x)) (k)) + 18446744073709551616 - (dig (words (y)) k)) % 18446744073709551616) + 18446744073709551616 - c) % 18446744073709551616) % 4294967296)))).toArray)) 0 rfl fun _ h _=>Eq.trans h (congrArg (fun l=>Value.agg (ucells l).toArray) (by simp))
  replace S:=S.n0
  exact ⟨(words x).length - (k + 1),(by omega),k + 1,(((((dig (words (x)) (k)) + 18446744073709551616 - (dig (words (y)) k)) % 18446744073709551616) + 18446744073709551616 - c) % 18446744073709551616) / 2 ^ 63,o.set (k) ((((((dig (words (x)) (k)) + 18446744073709551616 - (dig (words (y)) k)) % 18446744073709551616) + 18446744073709551616 - c) % 18446744073709551616) % 4294967296),_,rfl,(by omega),(sub_digit hda hdb hc).2,(by simpa using ho),(hw.set (by omega)),(sub_step (by omega) hda hdb hc hv),(S.keep [1,6,0,7,8,9,10]).keepB [0] (by decide)⟩
 ·
  have hp3:=of_decide_eq_false hc1
  refine wp_exit (then_exit (then_exit (exit_same ?_)))
  clear hK K
  refine hK _ _ ?_;clear hK K
  refine wp_reg fun K hK=>?_
  obtain ⟨vz4,Gz4,hz4,hs4,hg4,hle4,S⟩:=S.freeze 0 rfl
  have hsl4 : (SL (o)).t (Value.slice (some ⟨b11,0,none⟩) ((words (x)).length) ((words (x)).length)) Gz4:=SL_frozen hz4 hg4 ⟨ho.symm,Nat.le_refl _⟩ (by simp only [LIM];omega) (by assumption)
  replace S:=S.also (t:=5) (τ:=SL (o)) ((S.e 4 rfl).symm ▸ hsl4)
  replace S : St W0 G0 38 [(5,SL o),(15,BT (decide (k < ((words (x)).length)))),(14,NT k),(13,NT ((words (x)).length)),(6,MT.ex (nv .u64 (c))),(4,MT.ex (Value.slice none 0 0)),(1,SN nb y),(0,SN na x)] [] a _ _:=S.keep [0,1,2,3,4,6,7,8]
  refine S.m rfl (S.g 0 rfl) rfl fun a w G S=>?_
  refine S.s (τ:=SN na (x - y)) (OpR.call1 rfl c_163 (trim_ok S.ok (SL.asSV (S.g 0 rfl) ⟨sub_fin hle ho hw ‹_› hk hv hc,by omega⟩))) rfl fun a w G S=>?_
  replace S:=S.d7
  refine S.q rfl (S.g 0 rfl) rfl fun a w G S=>?_
  refine wn hK ?_;clear hK K
  replace S:=S.d2.d1
  exact wp_ret (S.retTmp rfl (S.g 0 rfl))
theorem times_ok {na nb x y : Nat} {v1 v2 : Value} {W0 : World} {G0 : Gh} (hok : Gok W0 G0) (h1 : (SN na x).t v1 G0) (h2 : (SN nb y).t v2 G0) (hn : na + nb ≤ BIG) : Calls Tryz.prog 146 #[v1,v2] W0 (Ret W0 G0 (SN (na + nb) (x * y))):=by
 have hla:=words_length_bits (SN.lt h1)
 have hlb:=words_length_bits (SN.lt h2)
 simp only [BIG] at hn
 have hx:=SN.lt h1
 have hy:=SN.lt h2
 refine St.enter (N:=67) (L:=[(1,SN nb y),(0,SN na x)]) (args:=[v1,v2]) Tryz.func146 rfl rfl rfl hok (enter2 h1 h2) fun a S=>?_
 refine wp_reg fun K hK=>?_
 refine S.s (τ:=MT.ex (Value.slice none 0 0)) (OpR.asn S.ok rfl rfl) rfl fun a w G S=>?_
 refine wn hK ?_;clear hK K
 refine wp_reg fun K hK=>?_
 refine S.m rfl (S.g 2 rfl) rfl fun a w G S=>?_
 refine S.s (OpR.lenL S.ok rfl Tryz.underlying55 (SN.toSL (S.g 0 rfl)) MT.self) rfl fun a w G S=>?_
 refine S.m rfl (S.g 3 rfl) rfl fun a w G S=>?_
 refine S.s (OpR.lenL S.ok rfl Tryz.underlying55 (SN.toSL (S.g 0 rfl)) MT.self) rfl fun a w G S=>?_
 refine S.s (OpR.nadd S.ok rfl (S.e 2 rfl) (S.e 0 rfl) (wr_i64 (by omega)) MT.self) rfl fun a w G S=>?_
 refine S.mkSlice (n:=((words (x)).length) + ((words (y)).length)) rfl rfl rfl Tryz.underlying55 el_99 (S.e 0 rfl) (S.e 0 rfl) rfl rfl (by omega) (by omega) rfl rfl fun b16 a w G S=>?_
 refine S.q rfl (S.g 0 rfl) rfl fun a w G S=>?_
 refine wn hK ?_;clear hK K
 replace S:=S.d6.d5.d4.d3.d2.d1
 refine wp_seq_k fun K hK=>?_
 refine wp_reg fun K hK=>?_
 refine S.m rfl (S.g 3 rfl) rfl fun a w G S=>?_
 refine S.s (OpR.lenL S.ok rfl Tryz.underlying55 (SN.toSL (S.g 0 rfl)) MT.self) rfl fun a w G S=>?_
 refine S.s (τ:=NT 0) (OpR.mv S.ok rfl (rfl : _ = nv .i64 0)) rfl fun a w G S=>?_
 refine wn hK ?_;clear hK K
 refine wp_block ?_
 replace S:=S.castBox (τ':=MT.ex (Value.agg (ucells ((List.replicate (((words (x)).length) + ((words (y)).length)) 0))).toArray)) 0 rfl fun _ h _=>Eq.trans h (congrArg (fun l=>Value.agg (ucells l).toArray) (by simp))
 replace S:=S.n0
 refine wp_loopJ (fun μ a w=>∃ (i : Nat) (o : List Nat) (G : Gh),μ = (words x).length - i ∧ (i ≤ (words x).length) ∧ (o.length = (words x).length + (words y).length) ∧ (wfl o) ∧ (val o = val ((words x).take i) * val (words y)) ∧ (∀ j,i + (words y).length ≤ j → dig o j = 0) ∧  St W0 G0 67 [(19,NT i),(18,NT ((words (x)).length)),(17,SN na x),(5,MT.ex (Value.slice (some ⟨b16,0,none⟩) (((words (x)).length) + ((words (y)).length)) (((words (x)).length) + ((words (y)).length)))),(4,MT.ex (Value.slice none 0 0)),(1,SN nb y),(0,SN na x)] [⟨b16,99,some (((words (x)).length) + ((words (y)).length)),MT.ex (Value.agg (ucells (o)).toArray)⟩] a w G) ((words x).length - 0) ⟨0,List.replicate (((words (x)).length) + ((words (y)).length)) 0,_,rfl,(by omega),(by simp),(wfl_replicate _),(by simp [val,val_replicate_zero]),(fun j _=>dig_replicate),(S.keep [0,1,2,3,4,5,6]).keepB [0] (by decide)⟩ ?_
 clear S
 intro μ a w ⟨i,o,G,hm,hi,ho,hw,hv,hz,S⟩
 have hdx:=dig_lt (wfl_words x) i
 refine wp_reg fun K hK=>?_
 refine S.s (OpR.nlss S.ok rfl (S.e 0 rfl) (S.e 1 rfl) MT.self) rfl fun a w G S=>?_
 refine wn hK ?_;clear hK K
 refine wp_seq_k fun K hK=>?_
 refine S.cond 0 rfl (fun hc1=>?_) (fun hc1=>?_)
 ·
  have hp2:=of_decide_eq_true hc1
  refine wp_skip ?_
  refine hK _ _ ?_;clear hK K
  refine wp_seq_k fun K hK=>?_
  refine wp_block ?_
  refine wp_reg fun K hK=>?_
  refine S.m rfl (S.g 1 rfl) rfl fun a w G S=>?_
  refine S.s (τ:=PE (none) (MT.ex (nv .u32 (dig (words (x)) (i))))) (OpR.ixL (i:=i) S.ok rfl Tryz.underlying55 tS_99 (SN.toSL (S.g 4 rfl)) (S.e 2 rfl) rfl (dig_get (by first | omega | (simp;omega)))) rfl fun a w G S=>?_
  refine S.s (OpR.ldE S.ok rfl tS_99 (S.g 0 rfl)) rfl fun a w G S=>?_
  refine S.q rfl (S.g 2 rfl) rfl fun a w G S=>?_
  refine S.q rfl (S.g 1 rfl) rfl fun a w G S=>?_
  refine wn hK ?_;clear hK K
  replace S:=S.d4.d3.d2
  refine wp_reg fun K hK=>?_
  refine S.s (τ:=MT.ex (nv .u64 (0))) (OpR.asn S.ok rfl (rfl : _ = nv .u64 0)) rfl fun a w G S=>?_
  refine wn hK ?_;clear hK K
  refine wp_seq_k fun K hK=>?_
  refine wp_reg fun K hK=>?_
  refine S.m rfl (S.g 9 rfl) rfl fun a w G S=>?_
  refine S.s (OpR.lenL S.ok rfl Tryz.underlying55 (SN.toSL (S.g 0 rfl)) MT.self) rfl fun a w G S=>?_
  refine S.s (τ:=NT 0) (OpR.mv S.ok rfl (rfl : _ = nv .i64 0)) rfl fun a w G S=>?_
  refine wn hK ?_;clear hK K
  refine wp_block ?_
  refine wp_loopJ (fun μ a w=>∃ (k : Nat) (c : Nat) (q : List Nat) (G : Gh),μ = (words y).length - k ∧ (k ≤ (words y).length) ∧ (c < 4294967296) ∧ (q.length = (words x).length + (words y).length) ∧ (wfl q) ∧ (val q + 4294967296 ^ (i + k) * c = val ((words x).take i) * val (words y) + 4294967296 ^ i * dig (words x) i * val ((words y).take k)) ∧ (∀ j,i + (words y).length ≤ j → dig q j = 0) ∧  St W0 G0 67 [(26,NT k),(25,NT ((words (y)).length)),(24,SN nb y),(8,MT.ex (nv .u64 (c))),(7,MT.ex (nv .u32 (dig (words (x)) (i)))),(6,NT i),(20,BT (decide (i < ((words (x)).length)))),(19,NT i),(18,NT ((words (x)).length)),(17,SN na x),(5,MT.ex (Value.slice (some ⟨b16,0,none⟩) (((words (x)).length) + ((words (y)).length)) (((words (x)).length) + ((words (y)).length)))),(4,MT.ex (Value.slice none 0 0)),(1,SN nb y),(0,SN na x)] [⟨b16,99,some (((words (x)).length) + ((words (y)).length)),MT.ex (Value.agg (ucells (q)).toArray)⟩] a w G) ((words y).length - 0) ⟨0,0,o,_,rfl,(by omega),(by omega),ho,hw,(by rw [hv];simp [val]),hz,(S.keep [0,1,2,3,4,5,6,7,8,9,10,11,12,13]).keepB [0] (by decide)⟩ ?_
  clear S
  intro μ a w ⟨k,c,q,G,hm,hk,hc,hq,hwq,hvq,hzq,S⟩
  have hdy:=dig_lt (wfl_words y) k
  have hdq:=dig_lt hwq (i + k)
  have hmb:=mul_bound hdx hdy hc hdq
  have hmb2:=mul_bound' hdx hdy hdq
  refine wp_reg fun K hK=>?_
  refine S.s (OpR.nlss S.ok rfl (S.e 0 rfl) (S.e 1 rfl) MT.self) rfl fun a w G S=>?_
  refine wn hK ?_;clear hK K
  refine wp_seq_k fun K hK=>?_
  refine S.cond 0 rfl (fun hc3=>?_) (fun hc3=>?_)
  ·
   have hp4:=of_decide_eq_true hc3
   refine wp_skip ?_
   refine hK _ _ ?_;clear hK K
   refine wp_seq_k fun K hK=>?_
   refine wp_block ?_
   refine wp_reg fun K hK=>?_
   refine S.m rfl (S.g 1 rfl) rfl fun a w G S=>?_
   refine S.s (τ:=PE (none) (MT.ex (nv .u32 (dig (words (y)) (k))))) (OpR.ixL (i:=k) S.ok rfl Tryz.underlying55 tS_99 (SN.toSL (S.g 4 rfl)) (S.e 2 rfl) rfl (dig_get (by first | omega | (simp;omega)))) rfl fun a w G S=>?_
   refine S.s (OpR.ldE S.ok rfl tS_99 (S.g 0 rfl)) rfl fun a w G S=>?_
   refine S.q rfl (S.g 2 rfl) rfl fun a w G S=>?_
   refine S.q rfl (S.g 1 rfl) rfl fun a w G S=>?_
   refine wn hK ?_;clear hK K
   replace S:=S.d4.d3.d2
   refine wp_reg fun K hK=>?_
   refine S.m rfl (S.g 6 rfl) rfl fun a w G S=>?_
   refine S.m rfl (S.g 8 rfl) rfl fun a w G S=>?_
   refine S.s (OpR.nconv S.ok rfl (S.e 0 rfl) it_99 it_139 (wr_u64 (by omega)) MT.self) rfl fun a w G S=>?_
   refine S.m rfl (S.g 3 rfl) rfl fun a w G S=>?_
   refine S.s (OpR.nconv S.ok rfl (S.e 0 rfl) it_99 it_139 (wr_u64 (by omega)) MT.self) rfl fun a w G S=>?_
   refine S.s (OpR.nmul S.ok rfl (S.e 2 rfl) (S.e 0 rfl) (wr_u64 (by omega)) MT.self) rfl fun a w G S=>?_
   refine S.m rfl (S.g 19 rfl) rfl fun a w G S=>?_
   refine S.m rfl (S.g 15 rfl) rfl fun a w G S=>?_
   refine S.m rfl (S.g 9 rfl) rfl fun a w G S=>?_
   refine S.s (OpR.nadd S.ok rfl (S.e 1 rfl) (S.e 0 rfl) (wr_i64 (by omega)) MT.self) rfl fun a w G S=>?_
   refine S.s (τ:=MT.ex (Value.pointer (some ⟨b16,i + k,none⟩))) (OpR.ixA (i:=i + k) S.ok rfl Tryz.underlying55 tS_99 (S.e 3 rfl) (S.e 0 rfl) rfl (by first | omega | (simp;omega)) (ptr_eq (by simp only [Option.getD_none] <;> omega))) rfl fun a w G S=>?_
   refine S.s (OpR.ldElem S.ok rfl (S.e 0 rfl) (S.box 0 rfl) tS_99 (dig_get (by first | omega | (simp;omega)))) rfl fun a w G S=>?_
   refine S.s (OpR.nconv S.ok rfl (S.e 0 rfl) it_99 it_139 (wr_u64 (by omega)) MT.self) rfl fun a w G S=>?_
   refine S.s (OpR.nadd S.ok rfl (S.e 7 rfl) (S.e 0 rfl) (wr_u64 (by omega)) MT.self) rfl fun a w G S=>?_
   refine S.s (OpR.nadd S.ok rfl (S.e 13 rfl) (S.e 0 rfl) (wr_u64 (by omega)) MT.self) rfl fun a w G S=>?_
   replace S:=S.d21
   refine S.q rfl (S.g 0 rfl) rfl fun a w G S=>?_
   refine wn hK ?_;clear hK K
   replace S:=S.d16.d15.d14.d13.d12.d11.d10.d9.d8.d7.d6.d5.d4.d3.d2.d1
   refine wp_reg fun K hK=>?_
   refine S.m rfl (S.g 12 rfl) rfl fun a w G S=>?_
   refine S.m rfl (S.g 8 rfl) rfl fun a w G S=>?_
   refine S.m rfl (S.g 3 rfl) rfl fun a w G S=>?_
   refine S.s (OpR.nadd S.ok rfl (S.e 1 rfl) (S.e 0 rfl) (wr_i64 (by omega)) MT.self) rfl fun a w G S=>?_
   refine S.m rfl (S.g 4 rfl) rfl fun a w G S=>?_
   refine S.s (OpR.nconv32 S.ok rfl (S.e 0 rfl) it_139 it_99 MT.self) rfl fun a w G S=>?_
   refine S.s (τ:=MT.ex (Value.pointer (some ⟨b16,i + k,none⟩))) (OpR.ixA (i:=i + k) S.ok rfl Tryz.underlying55 tS_99 (S.e 5 rfl) (S.e 2 rfl) rfl (by first | omega | (simp;omega)) (ptr_eq (by simp only [Option.getD_none] <;> omega))) rfl fun a w G S=>?_
   refine S.setElem 0 (z:=(c + (((dig (words (x)) (i)) * (dig (words (y)) (k))) + (dig (q) (i + k)))) % 4294967296) rfl rfl rfl rfl (S.e 0 rfl) tS_99 (S.e 1 rfl) rfl (by first | omega | (simp;omega)) fun w S=>?_
   replace S:=S.n0
   refine wn hK ?_;clear hK K
   replace S:=S.d6.d5.d4.d3.d2.d1.d0
   refine wp_region_lit ?_
   refine S.m rfl (S.g 0 rfl) rfl fun a w G S=>?_
   refine S.s (OpR.nshr S.ok rfl (S.e 0 rfl) (rfl : _ = nv .u64 32) (by decide) MT.self) rfl fun a w G S=>?_
   replace S:=S.d2
   refine S.q rfl (S.g 0 rfl) rfl fun a w G S=>?_
   refine wpList_nil ?_
   replace S:=S.d2.d1
   refine hK _ _ ?_;clear hK K
   refine wp_region_lit ?_
   refine S.s (OpR.nadd S.ok rfl (S.e 3 rfl) (rfl : _ = nv .i64 1) (wr_i64 (by omega)) MT.self) rfl fun a w G S=>?_
   replace S:=S.d4
   refine S.m rfl (S.g 0 rfl) rfl fun a w G S=>?_
   refine wpList_nil ?_
   replace S:=S.d1
   replace S:=S.also (t:=8) (τ:=MT.ex (nv .u64 (((c + (((dig (words (x)) (i)) * (dig (words (y)) (k))) + (dig (q) (i + k)))) / 2 ^ 32)))) ((S.e 1 rfl).trans (nv_eq (by first | rfl | omega | (simp only [Nat.zero_add,Nat.add_zero];done) | (simp;done) | (push_cast;omega))))
   replace S:=S.castBox (τ':=MT.ex (Value.agg (ucells ((q.set (i + k) ((c + (((dig (words (x)) (i)) * (dig (words (y)) (k))) + (dig (q) (i + k)))) % 4294967296)))).toArray)) 0 rfl fun _ h _=>Eq.trans h (congrArg (fun l=>Value.agg (ucells l).toArray) (by simp))
   replace S:=S.n0
   exact ⟨(words y).length - (k + 1),(by omega),k + 1,(c + (((dig (words (x)) (i)) * (dig (words (y)) (k))) + (dig (q) (i + k)))) / 2 ^ 32,q.set (i + k) ((c + (((dig (words (x)) (i)) * (dig (words (y)) (k))) + (dig (q) (i + k)))) % 4294967296),_,rfl,(by omega),(by omega),(by simpa using hq),(hwq.set (by omega)),(mul_step (by omega) hvq),(fun j hj=>by rw [dig_set (by omega),if_neg (by omega)];exact hzq j hj),(S.keep [1,5,6,0,7,8,9,10,11,12,13,14,15,16]).keepB [0] (by decide)⟩
  ·
   have hp5:=of_decide_eq_false hc3
   refine wp_exit (then_exit (then_exit (exit_same ?_)))
   clear hK K
   refine hK _ _ ?_;clear hK K
   refine wp_region_lit ?_
   refine S.m rfl (S.g 11 rfl) rfl fun a w G S=>?_
   refine S.m rfl (S.g 7 rfl) rfl fun a w G S=>?_
   refine S.m rfl (S.g 15 rfl) rfl fun a w G S=>?_
   refine S.s (OpR.lenL S.ok rfl Tryz.underlying55 (SN.toSL (S.g 0 rfl)) MT.self) rfl fun a w G S=>?_
   refine S.s (OpR.nadd S.ok rfl (S.e 2 rfl) (S.e 0 rfl) (wr_i64 (by omega)) MT.self) rfl fun a w G S=>?_
   refine S.m rfl (S.g 9 rfl) rfl fun a w G S=>?_
   refine S.s (OpR.nconv32 S.ok rfl (S.e 0 rfl) it_139 it_99 MT.self) rfl fun a w G S=>?_
   refine S.s (τ:=MT.ex (Value.pointer (some ⟨b16,i + ((words (y)).length),none⟩))) (OpR.ixA (i:=i + ((words (y)).length)) S.ok rfl Tryz.underlying55 tS_99 (S.e 6 rfl) (S.e 2 rfl) rfl (by first | omega | (simp;omega)) (ptr_eq (by simp only [Option.getD_none] <;> omega))) rfl fun a w G S=>?_
   refine S.setElem 0 (z:=c % 4294967296) rfl rfl rfl rfl (S.e 0 rfl) tS_99 (S.e 1 rfl) rfl (by first | omega | (simp;omega)) fun w S=>?_
   replace S:=S.n0
   refine wpList_nil ?_
   replace S:=S.d7.d6.d5.d4.d3.d2.d1.d0
   refine hK _ _ ?_;clear hK K
   refine wp_region_lit ?_
   refine S.s (OpR.nadd S.ok rfl (S.e 8 rfl) (rfl : _ = nv .i64 1) (wr_i64 (by omega)) MT.self) rfl fun a w G S=>?_
   replace S:=S.d9
   refine S.m rfl (S.g 0 rfl) rfl fun a w G S=>?_
   refine wpList_nil ?_
   replace S:=S.d1
   replace S:=S.castBox (τ':=MT.ex (Value.agg (ucells ((q.set (i + ((words (y)).length)) (c % 4294967296)))).toArray)) 0 rfl fun _ h _=>Eq.trans h (congrArg (fun l=>Value.agg (ucells l).toArray) (by simp))
   replace S:=S.n0
   exact ⟨(words x).length - (i + 1),(by omega),i + 1,q.set (i + ((words (y)).length)) (c % 4294967296),_,rfl,(by omega),(by simpa using hq),(hwq.set (by omega)),(mul_row' ‹_› hk hc (by omega) (hzq _ (by omega)) hvq),(fun j hj=>by rw [dig_set (by omega),if_neg (by omega)];exact hzq j (by omega)),(S.keep [0,9,10,11,12,13,14]).keepB [0] (by decide)⟩
 ·
  have hp6:=of_decide_eq_false hc1
  refine wp_exit (then_exit (then_exit (exit_same ?_)))
  clear hK K
  refine hK _ _ ?_;clear hK K
  refine wp_reg fun K hK=>?_
  obtain ⟨vz7,Gz7,hz7,hs7,hg7,hle7,S⟩:=S.freeze 0 rfl
  have hsl7 : (SL (o)).t (Value.slice (some ⟨b16,0,none⟩) (((words (x)).length) + ((words (y)).length)) (((words (x)).length) + ((words (y)).length))) Gz7:=SL_frozen hz7 hg7 ⟨ho.symm,Nat.le_refl _⟩ (by simp only [LIM];omega) (by assumption)
  replace S:=S.also (t:=5) (τ:=SL (o)) ((S.e 4 rfl).symm ▸ hsl7)
  replace S : St W0 G0 67 [(5,SL o),(20,BT (decide (i < ((words (x)).length)))),(19,NT i),(18,NT ((words (x)).length)),(17,SN na x),(4,MT.ex (Value.slice none 0 0)),(1,SN nb y),(0,SN na x)] [] a _ _:=S.keep [0,1,2,3,4,6,7,8]
  refine S.m rfl (S.g 0 rfl) rfl fun a w G S=>?_
  refine S.s (τ:=SN (na + nb) (x * y)) (OpR.call1 rfl c_163 (trim_ok S.ok (SL.asSV (S.g 0 rfl) ⟨times_fin ‹_› hi hv,mul_lt_pow hx hy⟩))) rfl fun a w G S=>?_
  replace S:=S.d7
  refine S.q rfl (S.g 0 rfl) rfl fun a w G S=>?_
  refine wn hK ?_;clear hK K
  replace S:=S.d2.d1
  exact wp_ret (S.retTmp rfl (S.g 0 rfl))
theorem short_ok {na x d : Nat} {v1 v2 : Value} {W0 : World} {G0 : Gh} (hok : Gok W0 G0) (h1 : (SN na x).t v1 G0) (h2 : (MT.ex (nv .u32 (d))).t v2 G0) (hd : 0 < d) (hd2 : d < 4294967296) : Calls Tryz.prog 153 #[v1,v2] W0 (Ret W0 G0 (MT.tup2 (SN na (x / d)) (MT.ex (nv .u32 (x % d))))):=by
 have hlim:=SL.lim (SN.toSL h1)
 have hx:=SN.lt h1
 simp only [LIM] at hlim
 refine St.enter (N:=43) (L:=[(1,MT.ex (nv .u32 (d))),(0,SN na x)]) (args:=[v1,v2]) Tryz.func153 rfl rfl rfl hok (enter2 h1 h2) fun a S=>?_
 refine wp_reg fun K hK=>?_
 refine S.s (τ:=MT.ex (Value.slice none 0 0)) (OpR.asn S.ok rfl rfl) rfl fun a w G S=>?_
 refine S.s (τ:=MT.ex (nv .u32 (0))) (OpR.asn S.ok rfl (rfl : _ = nv .u32 0)) rfl fun a w G S=>?_
 refine wn hK ?_;clear hK K
 refine wp_reg fun K hK=>?_
 refine S.m rfl (S.g 3 rfl) rfl fun a w G S=>?_
 refine S.s (OpR.lenL S.ok rfl Tryz.underlying55 (SN.toSL (S.g 0 rfl)) MT.self) rfl fun a w G S=>?_
 refine S.mkSlice (n:=(words (x)).length) rfl rfl rfl Tryz.underlying55 el_99 (S.e 0 rfl) (S.e 0 rfl) rfl rfl (by omega) (by omega) rfl rfl fun b11 a w G S=>?_
 refine S.q rfl (S.g 0 rfl) rfl fun a w G S=>?_
 refine wn hK ?_;clear hK K
 replace S:=S.d3.d2.d1
 refine wp_reg fun K hK=>?_
 refine S.s (τ:=MT.ex (nv .u64 (0))) (OpR.asn S.ok rfl (rfl : _ = nv .u64 0)) rfl fun a w G S=>?_
 refine wn hK ?_;clear hK K
 refine wp_seq_k fun K hK=>?_
 refine wp_reg fun K hK=>?_
 refine S.m rfl (S.g 5 rfl) rfl fun a w G S=>?_
 refine S.s (OpR.lenL S.ok rfl Tryz.underlying55 (SN.toSL (S.g 0 rfl)) MT.self) rfl fun a w G S=>?_
 refine S.s (τ:=IT ((((words (x)).length : Nat) : Int) - ((1 : Nat) : Int))) (OpR.isub S.ok rfl (S.e 0 rfl) (rfl : _ = nv .i64 1) (iw_i64 (by omega) (by omega))) rfl fun a w G S=>?_
 refine S.q rfl (S.g 0 rfl) rfl fun a w G S=>?_
 refine wn hK ?_;clear hK K
 replace S:=S.d3.d2.d1
 refine wp_block ?_
 replace S:=S.also (t:=8) (τ:=IT (((((words x).length) : Nat) : Int) - ((1 : Nat) : Int))) ((S.e 0 rfl).trans (iv_eq (by first | rfl | omega | (simp only [Nat.zero_add,Nat.add_zero];done) | (simp;done) | (push_cast;omega))))
 replace S:=S.castBox (τ':=MT.ex (Value.agg (ucells ((List.replicate ((words (x)).length) 0))).toArray)) 0 rfl fun _ h _=>Eq.trans h (congrArg (fun l=>Value.agg (ucells l).toArray) (by simp))
 replace S:=S.n0
 refine wp_loopJ (fun μ a w=>∃ (k : Nat) (c : Nat) (q : List Nat) (G : Gh),μ = k ∧ (k ≤ (words x).length) ∧ (c < d) ∧ (q.length = (words x).length) ∧ (wfl q) ∧ (val (q.drop k) * d + c = val ((words x).drop k)) ∧  St W0 G0 43 [(8,IT (((k : Nat) : Int) - ((1 : Nat) : Int))),(7,MT.ex (nv .u64 (c))),(6,MT.ex (Value.slice (some ⟨b11,0,none⟩) ((words (x)).length) ((words (x)).length))),(5,MT.ex (nv .u32 (0))),(4,MT.ex (Value.slice none 0 0)),(1,MT.ex (nv .u32 (d))),(0,SN na x)] [⟨b11,99,some ((words (x)).length),MT.ex (Value.agg (ucells (q)).toArray)⟩] a w G) (((words x).length)) ⟨(words x).length,0,List.replicate ((words (x)).length) 0,_,rfl,(Nat.le_refl _),(by omega),(by simp),(wfl_replicate _),(by rw [List.drop_of_length_le (by simp),List.drop_of_length_le (Nat.le_refl _)];simp [val]),(S.keep [0,2,3,4,5,6,7]).keepB [0] (by decide)⟩ ?_
 clear S
 intro μ a w ⟨k,c,q,G,hm,hk,hc,hq,hw,hv,S⟩
 have hdx:=dig_lt (wfl_words x) (k - 1)
 refine wp_seq_k fun K hK=>?_
 refine wp_reg fun K hK=>?_
 refine S.m rfl (S.g 0 rfl) rfl fun a w G S=>?_
 refine S.s (OpR.igeq S.ok rfl (S.e 0 rfl) (rfl : _ = nv .i64 0) MT.self) rfl fun a w G S=>?_
 refine wn hK ?_;clear hK K
 replace S:=S.d1
 refine S.cond 0 rfl (fun hc1=>?_) (fun hc1=>?_)
 ·
  have hp2:=of_decide_eq_true hc1
  refine wp_skip ?_
  refine hK _ _ ?_;clear hK K
  refine wp_seq_k fun K hK=>?_
  refine wp_block ?_
  refine wp_reg fun K hK=>?_
  refine S.m rfl (S.g 2 rfl) rfl fun a w G S=>?_
  refine S.s (OpR.nshl S.ok rfl (S.e 0 rfl) (rfl : _ = nv .u64 32) (by decide) (wr_u64 (by omega)) MT.self) rfl fun a w G S=>?_
  refine S.m rfl (S.g 9 rfl) rfl fun a w G S=>?_
  refine S.m rfl (S.g 4 rfl) rfl fun a w G S=>?_
  refine S.s (τ:=PE (none) (MT.ex (nv .u32 (dig (words (x)) (k - 1))))) (OpR.ixL (i:=k - 1) S.ok rfl Tryz.underlying55 tS_99 (SN.toSL (S.g 1 rfl)) (S.e 0 rfl) (by omega) (dig_get (by first | omega | (simp;omega)))) rfl fun a w G S=>?_
  refine S.s (OpR.ldE S.ok rfl tS_99 (S.g 0 rfl)) rfl fun a w G S=>?_
  refine S.s (OpR.nconv S.ok rfl (S.e 0 rfl) it_99 it_139 (wr_u64 (by omega)) MT.self) rfl fun a w G S=>?_
  refine S.s (τ:=MT.ex (nv .u64 (c * 4294967296 + dig (words x) (k - 1)))) (OpR.nor S.ok rfl (S.e 5 rfl) (S.e 0 rfl) (by omega) (by omega) (nv_eq (shl_or hdx))) rfl fun a w G S=>?_
  replace S:=S.d10
  refine S.q rfl (S.g 0 rfl) rfl fun a w G S=>?_
  refine wn hK ?_;clear hK K
  replace S:=S.d8.d7.d6.d5.d4.d3.d2.d1
  refine wp_reg fun K hK=>?_
  refine S.m rfl (S.g 3 rfl) rfl fun a w G S=>?_
  refine S.m rfl (S.g 3 rfl) rfl fun a w G S=>?_
  refine S.m rfl (S.g 2 rfl) rfl fun a w G S=>?_
  refine S.m rfl (S.g 9 rfl) rfl fun a w G S=>?_
  refine S.s (OpR.nconv S.ok rfl (S.e 0 rfl) it_99 it_139 (wr_u64 (by omega)) MT.self) rfl fun a w G S=>?_
  refine S.s (OpR.nquo S.ok rfl (S.e 2 rfl) (S.e 0 rfl) (by omega) (wr_u64 (Nat.lt_of_le_of_lt (Nat.div_le_self _ _) (by omega))) MT.self) rfl fun a w G S=>?_
  refine S.s (OpR.nconv32 S.ok rfl (S.e 0 rfl) it_139 it_99 MT.self) rfl fun a w G S=>?_
  refine S.s (τ:=MT.ex (Value.pointer (some ⟨b11,k - 1,none⟩))) (OpR.ixA (i:=k - 1) S.ok rfl Tryz.underlying55 tS_99 (S.e 6 rfl) (S.e 5 rfl) (by omega) (by first | omega | (simp;omega)) (ptr_eq (by simp only [Option.getD_none] <;> omega))) rfl fun a w G S=>?_
  refine S.setElem 0 (z:=((c * 4294967296 + dig (words x) (k - 1)) / d) % 4294967296) rfl rfl rfl rfl (S.e 0 rfl) tS_99 (S.e 1 rfl) rfl (by first | omega | (simp;omega)) fun w S=>?_
  replace S:=S.n0
  refine wn hK ?_;clear hK K
  replace S:=S.d7.d6.d5.d4.d3.d2.d1.d0
  refine wp_region_lit ?_
  refine S.m rfl (S.g 0 rfl) rfl fun a w G S=>?_
  refine S.m rfl (S.g 7 rfl) rfl fun a w G S=>?_
  refine S.s (OpR.nconv S.ok rfl (S.e 0 rfl) it_99 it_139 (wr_u64 (by omega)) MT.self) rfl fun a w G S=>?_
  refine S.s (OpR.nrem S.ok rfl (S.e 2 rfl) (S.e 0 rfl) (by omega) MT.self) rfl fun a w G S=>?_
  replace S:=S.d4
  refine S.q rfl (S.g 0 rfl) rfl fun a w G S=>?_
  refine wpList_nil ?_
  replace S:=S.d4.d3.d2.d1
  refine hK _ _ ?_;clear hK K
  refine wp_region_lit ?_
  refine S.m rfl (S.g 2 rfl) rfl fun a w G S=>?_
  refine S.s (τ:=IT ((((k : Nat) : Int) - ((1 : Nat) : Int)) - 1)) (OpR.isub S.ok rfl (S.e 0 rfl) (rfl : _ = nv .i64 1) (iw_i64 (by omega) (by omega))) rfl fun a w G S=>?_
  replace S:=S.d4
  refine S.q rfl (S.g 0 rfl) rfl fun a w G S=>?_
  refine wpList_nil ?_
  replace S:=S.d2.d1
  replace S:=S.also (t:=8) (τ:=IT ((((k - 1) : Nat) : Int) - ((1 : Nat) : Int))) ((S.e 0 rfl).trans (iv_eq (by first | rfl | omega | (simp only [Nat.zero_add,Nat.add_zero];done) | (simp;done) | (push_cast;omega))))
  replace S:=S.also (t:=7) (τ:=MT.ex (nv .u64 (((c * 4294967296 + dig (words x) (k - 1)) % d)))) ((S.e 2 rfl).trans (nv_eq (by first | rfl | omega | (simp only [Nat.zero_add,Nat.add_zero];done) | (simp;done) | (push_cast;omega))))
  replace S:=S.castBox (τ':=MT.ex (Value.agg (ucells ((q.set (k - 1) (((c * 4294967296 + dig (words x) (k - 1)) / d) % 4294967296)))).toArray)) 0 rfl fun _ h _=>Eq.trans h (congrArg (fun l=>Value.agg (ucells l).toArray) (by simp))
  replace S:=S.n0
  exact ⟨(k - 1),(by omega),(k - 1),(c * 4294967296 + dig (words x) (k - 1)) % d,q.set (k - 1) (((c * 4294967296 + dig (words x) (k - 1)) / d) % 4294967296),_,rfl,(by omega),(Nat.mod_lt _ hd),(by simpa using hq),(hw.set (Nat.mod_lt _ (by omega))),(short_step (by omega) (by omega) hd hc hd2 hdx hv).1,(S.keep [1,0,5,6,7,8,9]).keepB [0] (by decide)⟩
 ·
  have hp3:=of_decide_eq_false hc1
  refine wp_exit (then_exit (then_exit (exit_same ?_)))
  clear hK K
  refine hK _ _ ?_;clear hK K
  refine wp_reg fun K hK=>?_
  obtain ⟨vz4,Gz4,hz4,hs4,hg4,hle4,S⟩:=S.freeze 0 rfl
  have hsl4 : (SL (q)).t (Value.slice (some ⟨b11,0,none⟩) ((words (x)).length) ((words (x)).length)) Gz4:=SL_frozen hz4 hg4 ⟨hq.symm,Nat.le_refl _⟩ (by simp only [LIM];omega) (by assumption)
  replace S:=S.also (t:=6) (τ:=SL (q)) ((S.e 3 rfl).symm ▸ hsl4)
  replace S : St W0 G0 43 [(6,SL q),(16,BT (decide ((((k : Nat) : Int) - ((1 : Nat) : Int)) ≥ 0))),(8,IT (((k : Nat) : Int) - ((1 : Nat) : Int))),(7,MT.ex (nv .u64 (c))),(5,MT.ex (nv .u32 (0))),(4,MT.ex (Value.slice none 0 0)),(1,MT.ex (nv .u32 (d))),(0,SN na x)] [] a _ _:=S.keep [0,1,2,3,5,6,7,8]
  refine S.m rfl (S.g 0 rfl) rfl fun a w G S=>?_
  refine S.s (τ:=SN na (x / d)) (OpR.call1 rfl c_163 (trim_ok S.ok (SL.asSV (S.g 0 rfl) ⟨(short_fin (by omega) hc hv).1,div_lt_pow hx⟩))) rfl fun a w G S=>?_
  refine S.m rfl (S.g 5 rfl) rfl fun a w G S=>?_
  refine S.s (OpR.nconv32 S.ok rfl (S.e 0 rfl) it_139 it_99 MT.self) rfl fun a w G S=>?_
  replace S:=S.d9
  refine S.q rfl (S.g 2 rfl) rfl fun a w G S=>?_
  replace S:=S.d9
  refine S.q rfl (S.g 1 rfl) rfl fun a w G S=>?_
  refine wn hK ?_;clear hK K
  replace S:=S.d5.d4.d3.d2
  exact wp_ret (S.retTmp2 rfl (S.g 1 rfl) ((S.e 0 rfl).trans (nv_eq (by rw [Nat.mod_eq_of_lt (by omega)];exact (short_fin (by omega) hc hv).2))))
end Go.Proofs.YtboicjlbbbodgaaGreatDoor
namespace Go.Proofs.YtboicjlbbbodgaaGreatDoor
set_option maxHeartbeats 1000000
set_option maxRecDepth 100000
open Go.RowKit (Below)
theorem up_ok {na x s : Nat} {v1 v2 : Value} {W0 : World} {G0 : Gh} (hok : Gok W0 G0) (h1 : (SN na x).t v1 G0) (h2 : (NT s).t v2 G0) (hs : s < 32) : Calls Tryz.prog 181 #[v1,v2] W0 (RetB W0 G0 (mkS ((words x).length + 1)) 99 (some ((words x).length + 1)) (ARR ((words x).length + 1) (fun l=>wfl l ∧ val l = x * 2 ^ s))):=by
 have hlim:=SL.lim (SN.toSL h1)
 simp only [LIM] at hlim
 refine St.enter (N:=41) (L:=[(1,NT s),(0,SN na x)]) (args:=[v1,v2]) Tryz.func181 rfl rfl rfl hok (enter2 h1 h2) fun a S=>?_
 refine wp_reg fun K hK=>?_
 refine S.s (τ:=MT.ex (Value.slice none 0 0)) (OpR.asn S.ok rfl rfl) rfl fun a w G S=>?_
 refine wn hK ?_;clear hK K
 refine wp_reg fun K hK=>?_
 refine S.m rfl (S.g 2 rfl) rfl fun a w G S=>?_
 refine S.s (OpR.lenL S.ok rfl Tryz.underlying55 (SN.toSL (S.g 0 rfl)) MT.self) rfl fun a w G S=>?_
 refine S.s (OpR.nadd S.ok rfl (S.e 0 rfl) (rfl : _ = nv .i64 1) (wr_i64 (by omega)) MT.self) rfl fun a w G S=>?_
 refine S.mkSlice (n:=((words (x)).length) + 1) rfl rfl rfl Tryz.underlying55 el_99 (S.e 0 rfl) (S.e 0 rfl) rfl rfl (by omega) (by omega) rfl rfl fun b12 a w G S=>?_
 refine S.q rfl (S.g 0 rfl) rfl fun a w G S=>?_
 refine wn hK ?_;clear hK K
 replace S:=S.d4.d3.d2.d1
 refine wp_seq_k fun K hK=>?_
 refine wp_reg fun K hK=>?_
 refine S.m rfl (S.g 3 rfl) rfl fun a w G S=>?_
 refine S.s (OpR.lenL S.ok rfl Tryz.underlying55 (SN.toSL (S.g 0 rfl)) MT.self) rfl fun a w G S=>?_
 refine S.s (τ:=NT 0) (OpR.mv S.ok rfl (rfl : _ = nv .i64 0)) rfl fun a w G S=>?_
 refine wn hK ?_;clear hK K
 refine wp_block ?_
 replace S:=S.castBox (τ':=MT.ex (Value.agg (ucells ((List.replicate (((words (x)).length) + 1) 0))).toArray)) 0 rfl fun _ h _=>Eq.trans h (congrArg (fun l=>Value.agg (ucells l).toArray) (by simp))
 replace S:=S.n0
 refine wp_loopJ (fun μ a w=>∃ (k : Nat) (q : List Nat) (G : Gh),μ = (words x).length - k ∧ (k ≤ (words x).length) ∧ (q.length = (words x).length + 1) ∧ (wfl q) ∧ (dig q k < 2 ^ s) ∧ (val (q.take k) + 4294967296 ^ k * dig q k = val ((words x).take k) * 2 ^ s) ∧  St W0 G0 41 [(15,NT k),(14,NT ((words (x)).length)),(13,SN na x),(5,MT.ex (Value.slice (some ⟨b12,0,none⟩) (((words (x)).length) + 1) (((words (x)).length) + 1))),(4,MT.ex (Value.slice none 0 0)),(1,NT s),(0,SN na x)] [⟨b12,99,some (((words (x)).length) + 1),MT.ex (Value.agg (ucells (q)).toArray)⟩] a w G) ((words x).length - 0) ⟨0,List.replicate (((words (x)).length) + 1) 0,_,rfl,(by omega),(by simp),(wfl_replicate _),(by rw [dig_replicate];exact Nat.pow_pos (by omega)),(by rw [dig_replicate];simp [val]),(S.keep [0,1,2,3,4,5,6]).keepB [0] (by decide)⟩ ?_
 clear S
 intro μ a w ⟨k,q,G,hm,hk,hq,hw,hd,hv,S⟩
 have hdx:=dig_lt (wfl_words x) k
 have hdq:=dig_lt hw k
 have hus:=fun hk=>up_step (q:=q) (lx:=words x) (k:=k) hk hs hd hdx hv
 refine wp_reg fun K hK=>?_
 refine S.s (OpR.nlss S.ok rfl (S.e 0 rfl) (S.e 1 rfl) MT.self) rfl fun a w G S=>?_
 refine wn hK ?_;clear hK K
 refine wp_seq_k fun K hK=>?_
 refine S.cond 0 rfl (fun hc1=>?_) (fun hc1=>?_)
 ·
  have hp2:=of_decide_eq_true hc1
  refine wp_skip ?_
  refine hK _ _ ?_;clear hK K
  refine wp_seq_k fun K hK=>?_
  refine wp_block ?_
  refine wp_reg fun K hK=>?_
  refine S.m rfl (S.g 1 rfl) rfl fun a w G S=>?_
  refine S.s (τ:=PE (none) (MT.ex (nv .u32 (dig (words (x)) (k))))) (OpR.ixL (i:=k) S.ok rfl Tryz.underlying55 tS_99 (SN.toSL (S.g 4 rfl)) (S.e 2 rfl) rfl (dig_get (by first | omega | (simp;omega)))) rfl fun a w G S=>?_
  refine S.s (OpR.ldE S.ok rfl tS_99 (S.g 0 rfl)) rfl fun a w G S=>?_
  refine S.q rfl (S.g 2 rfl) rfl fun a w G S=>?_
  refine S.q rfl (S.g 1 rfl) rfl fun a w G S=>?_
  refine wn hK ?_;clear hK K
  replace S:=S.d4.d3.d2
  refine wp_reg fun K hK=>?_
  refine S.m rfl (S.g 0 rfl) rfl fun a w G S=>?_
  refine S.s (OpR.nconv S.ok rfl (S.e 0 rfl) it_99 it_139 (wr_u64 (by omega)) MT.self) rfl fun a w G S=>?_
  refine S.m rfl (S.g 10 rfl) rfl fun a w G S=>?_
  refine S.s (OpR.nshl S.ok rfl (S.e 1 rfl) (S.e 0 rfl) (by simp only [IntKind.bits];omega) (wr_u64 (shl_bound hdx hs)) MT.self) rfl fun a w G S=>?_
  refine S.q rfl (S.g 0 rfl) rfl fun a w G S=>?_
  refine wn hK ?_;clear hK K
  replace S:=S.d5.d4.d3.d2.d1
  refine wp_reg fun K hK=>?_
  refine S.m rfl (S.g 6 rfl) rfl fun a w G S=>?_
  refine S.m rfl (S.g 2 rfl) rfl fun a w G S=>?_
  refine S.s (τ:=MT.ex (Value.pointer (some ⟨b12,k,none⟩))) (OpR.ixA (i:=k) S.ok rfl Tryz.underlying55 tS_99 (S.e 1 rfl) (S.e 0 rfl) rfl (by first | omega | (simp;omega)) (ptr_eq (by simp only [Option.getD_none] <;> omega))) rfl fun a w G S=>?_
  refine S.s (OpR.ldElem S.ok rfl (S.e 0 rfl) (S.box 0 rfl) tS_99 (dig_get (by first | omega | (simp;omega)))) rfl fun a w G S=>?_
  refine S.m rfl (S.g 4 rfl) rfl fun a w G S=>?_
  refine S.s (OpR.nconv32 S.ok rfl (S.e 0 rfl) it_139 it_99 MT.self) rfl fun a w G S=>?_
  refine S.s (τ:=MT.ex (nv .u32 (dig q k + dig (words x) k * 2 ^ s % 4294967296))) (OpR.nor32 S.ok rfl (S.e 2 rfl) (S.e 0 rfl) (by omega) (Nat.mod_lt _ (by decide)) (nv_eq (up_or hd hs))) rfl fun a w G S=>?_
  refine S.s (τ:=MT.ex (Value.pointer (some ⟨b12,k,none⟩))) (OpR.ixA (i:=k) S.ok rfl Tryz.underlying55 tS_99 (S.e 6 rfl) (S.e 5 rfl) rfl (by first | omega | (simp;omega)) (ptr_eq (by simp only [Option.getD_none] <;> omega))) rfl fun a w G S=>?_
  refine S.setElem 0 (z:=dig q k + dig (words x) k * 2 ^ s % 4294967296) rfl rfl rfl rfl (S.e 0 rfl) tS_99 (S.e 1 rfl) rfl (by first | omega | (simp;omega)) fun w S=>?_
  replace S:=S.n0
  refine wn hK ?_;clear hK K
  replace S:=S.d7.d6.d5.d4.d3.d2.d1.d0
  refine wp_region_lit ?_
  refine S.m rfl (S.g 6 rfl) rfl fun a w G S=>?_
  refine S.m rfl (S.g 2 rfl) rfl fun a w G S=>?_
  refine S.s (OpR.nadd S.ok rfl (S.e 0 rfl) (rfl : _ = nv .i64 1) (wr_i64 (by omega)) MT.self) rfl fun a w G S=>?_
  refine S.m rfl (S.g 3 rfl) rfl fun a w G S=>?_
  refine S.s (OpR.nshr S.ok rfl (S.e 0 rfl) (rfl : _ = nv .u64 32) (by decide) MT.self) rfl fun a w G S=>?_
  refine S.s (OpR.nconv32 S.ok rfl (S.e 0 rfl) it_139 it_99 MT.self) rfl fun a w G S=>?_
  refine S.s (τ:=MT.ex (Value.pointer (some ⟨b12,k + 1,none⟩))) (OpR.ixA (i:=k + 1) S.ok rfl Tryz.underlying55 tS_99 (S.e 5 rfl) (S.e 3 rfl) rfl (by first | omega | (simp;omega)) (ptr_eq (by simp only [Option.getD_none] <;> omega))) rfl fun a w G S=>?_
  refine S.setElem 0 (z:=(((dig (words (x)) (k)) * 2 ^ s) / 2 ^ 32) % 4294967296) rfl rfl rfl rfl (S.e 0 rfl) tS_99 (S.e 1 rfl) rfl (by first | omega | (simp;omega)) fun w S=>?_
  replace S:=S.n0
  refine wpList_nil ?_
  replace S:=S.d6.d5.d4.d3.d2.d1.d0
  refine hK _ _ ?_;clear hK K
  refine wp_region_lit ?_
  refine S.s (OpR.nadd S.ok rfl (S.e 3 rfl) (rfl : _ = nv .i64 1) (wr_i64 (by omega)) MT.self) rfl fun a w G S=>?_
  replace S:=S.d4
  refine S.m rfl (S.g 0 rfl) rfl fun a w G S=>?_
  refine wpList_nil ?_
  replace S:=S.d1
  replace S:=S.castBox (τ':=MT.ex (Value.agg (ucells (((q.set (k) (dig q k + dig (words x) k * 2 ^ s % 4294967296)).set (k + 1) ((((dig (words (x)) (k)) * 2 ^ s) / 2 ^ 32) % 4294967296)))).toArray)) 0 rfl fun _ h _=>Eq.trans h (congrArg (fun l=>Value.agg (ucells l).toArray) (by simp))
  replace S:=S.n0
  exact ⟨(words x).length - (k + 1),(by omega),k + 1,(q.set (k) (dig q k + dig (words x) k * 2 ^ s % 4294967296)).set (k + 1) ((((dig (words (x)) (k)) * 2 ^ s) / 2 ^ 32) % 4294967296),_,rfl,(by omega),(by simpa using hq),((hw.set (hus (by omega)).2.2).set (Nat.mod_lt _ (by decide))),(hus (by omega)).2.1,(hus (by omega)).1,(S.keep [0,4,5,6,7,8,9]).keepB [0] (by decide)⟩
 ·
  have hp3:=of_decide_eq_false hc1
  refine wp_exit (then_exit (then_exit (exit_same ?_)))
  clear hK K
  refine hK _ _ ?_;clear hK K
  refine wp_reg fun K hK=>?_
  refine S.m rfl (S.g 4 rfl) rfl fun a w G S=>?_
  replace S:=S.d6
  refine S.q rfl (S.g 0 rfl) rfl fun a w G S=>?_
  refine wn hK ?_;clear hK K
  replace S:=S.d1
  exact wp_ret (S.retArr 0 rfl (S.e 0 rfl) rfl hq ⟨hw,(up_fin ‹_› hk hq hv).trans (by rw [val_words])⟩)
theorem down_ok {na x s : Nat} {v1 v2 : Value} {W0 : World} {G0 : Gh} (hok : Gok W0 G0) (h1 : (SV na x).t v1 G0) (h2 : (NT s).t v2 G0) (hs : s < 32) : Calls Tryz.prog 184 #[v1,v2] W0 (Ret W0 G0 (SN na (x / 2 ^ s))):=by
 obtain ⟨hlt,l,hl,h1⟩:=h1
 have hlim:=SL.lim h1
 have hwf:=SL.wf h1
 simp only [LIM] at hlim
 refine St.enter (N:=35) (L:=[(1,NT s),(0,SL l)]) (args:=[v1,v2]) Tryz.func184 rfl rfl rfl hok (enter2 h1 h2) fun a S=>?_
 refine wp_reg fun K hK=>?_
 refine S.s (τ:=MT.ex (Value.slice none 0 0)) (OpR.asn S.ok rfl rfl) rfl fun a w G S=>?_
 refine wn hK ?_;clear hK K
 refine wp_reg fun K hK=>?_
 refine S.m rfl (S.g 2 rfl) rfl fun a w G S=>?_
 refine S.s (OpR.lenL S.ok rfl Tryz.underlying55 (S.g 0 rfl) MT.self) rfl fun a w G S=>?_
 refine S.mkSlice (n:=l.length) rfl rfl rfl Tryz.underlying55 el_99 (S.e 0 rfl) (S.e 0 rfl) rfl rfl (by omega) (by omega) rfl rfl fun b9 a w G S=>?_
 refine S.q rfl (S.g 0 rfl) rfl fun a w G S=>?_
 refine wn hK ?_;clear hK K
 replace S:=S.d3.d2.d1
 refine wp_seq_k fun K hK=>?_
 refine wp_reg fun K hK=>?_
 refine S.m rfl (S.g 3 rfl) rfl fun a w G S=>?_
 refine S.s (OpR.lenL S.ok rfl Tryz.underlying55 (S.g 0 rfl) MT.self) rfl fun a w G S=>?_
 refine S.s (τ:=NT 0) (OpR.mv S.ok rfl (rfl : _ = nv .i64 0)) rfl fun a w G S=>?_
 refine wn hK ?_;clear hK K
 replace S:=S.d2
 refine wp_block ?_
 replace S:=S.castBox (τ':=MT.ex (Value.agg (ucells ((List.replicate (l.length) 0))).toArray)) 0 rfl fun _ h _=>Eq.trans h (congrArg (fun l=>Value.agg (ucells l).toArray) (by simp))
 replace S:=S.n0
 refine wp_loopJ (fun μ a w=>∃ (k : Nat) (q : List Nat) (G : Gh),μ = l.length - k ∧ (k ≤ l.length) ∧ (q.length = l.length) ∧ (wfl q) ∧ (val (q.take k) + 4294967296 ^ k * (val (l.drop k) / 2 ^ s) = val l / 2 ^ s) ∧  St W0 G0 35 [(12,NT k),(11,NT l.length),(5,MT.ex (Value.slice (some ⟨b9,0,none⟩) (l.length) (l.length))),(4,MT.ex (Value.slice none 0 0)),(1,NT s),(0,SL l)] [⟨b9,99,some (l.length),MT.ex (Value.agg (ucells (q)).toArray)⟩] a w G) (l.length - 0) ⟨0,List.replicate (l.length) 0,_,rfl,(by omega),(by simp),(wfl_replicate _),(by simp [val]),(S.keep [0,1,2,3,4,5]).keepB [0] (by decide)⟩ ?_
 clear S
 intro μ a w ⟨k,q,G,hm,hk,hq,hw,hv,S⟩
 have hd0:=dig_lt hwf k
 have hd1:=dig_lt hwf (k + 1)
 refine wp_reg fun K hK=>?_
 refine S.s (OpR.nlss S.ok rfl (S.e 0 rfl) (S.e 1 rfl) MT.self) rfl fun a w G S=>?_
 refine wn hK ?_;clear hK K
 refine wp_seq_k fun K hK=>?_
 refine S.cond 0 rfl (fun hc1=>?_) (fun hc1=>?_)
 ·
  have hp2:=of_decide_eq_true hc1
  refine wp_skip ?_
  refine hK _ _ ?_;clear hK K
  refine wp_seq_k fun K hK=>?_
  refine wp_block ?_
  refine wp_reg fun K hK=>?_
  refine S.m rfl (S.g 1 rfl) rfl fun a w G S=>?_
  refine S.q rfl (S.g 0 rfl) rfl fun a w G S=>?_
  refine wn hK ?_;clear hK K
  replace S:=S.d1
  refine S.drawn [⟨15,.g (MT.ex (Value.slice (some ⟨b9,0,none⟩) (l.length) (l.length))),[]⟩,⟨16,.g (NT k),[]⟩,⟨17,.g (SL l),[]⟩,⟨18,.g (NT k),[]⟩,⟨19,.g (PE (none) (MT.ex (nv .u32 (dig (l) (k))))),[2,3]⟩,⟨20,.g (MT.ex (nv .u32 (dig (l) (k)))),[4]⟩,⟨21,.g (MT.ex (nv .u64 (dig (l) (k)))),[5]⟩,⟨22,.g (SL l),[]⟩,⟨23,.g (NT k),[]⟩,⟨24,.g (NT (k + 1)),[8]⟩,⟨25,.g (MT.ex (nv .u64 (dig l (k + 1)))),[7,9]⟩,⟨26,.g (MT.ex (nv .u64 ((dig l (k + 1)) * 2 ^ 32))),[10]⟩,⟨27,.g (MT.ex (nv .u64 (dig l k + dig l (k + 1) * 4294967296))),[6,11]⟩,⟨28,.g (NT s),[]⟩,⟨29,.g (MT.ex (nv .u64 ((dig l k + dig l (k + 1) * 4294967296) / 2 ^ s))),[12,13]⟩,⟨30,.g (MT.ex (nv .u32 (((dig l k + dig l (k + 1) * 4294967296) / 2 ^ s) % 4294967296))),[14]⟩,⟨31,.g (MT.ex (Value.pointer (some ⟨b9,k,none⟩))),[0,1]⟩] mixedOrders (by kernel_rfl)
   ⟨fun a w G S=>.of rfl (OpR.mv S.ok rfl (S.g 4 rfl)),
    fun a w G S=>.of rfl (OpR.mv S.ok rfl (S.g 0 rfl)),
    fun a w G S=>.of rfl (OpR.mv S.ok rfl (S.g 7 rfl)),
    fun a w G S=>.of rfl (OpR.mv S.ok rfl (S.g 0 rfl)),
    fun a w G S=>.of rfl (OpR.ixL (i:=k) S.ok rfl Tryz.underlying55 tS_99 (S.g 0 rfl) (S.e 1 rfl) rfl (dig_get (by first | omega | (simp;omega)))),
    fun a w G S=>.of rfl (OpR.ldE S.ok rfl tS_99 (S.g 0 rfl)),
    fun a w G S=>.of rfl (OpR.nconv S.ok rfl (S.e 0 rfl) it_99 it_139 (wr_u64 (by omega)) MT.self),
    fun a w G S=>.of rfl (OpR.mv S.ok rfl (S.g 7 rfl)),
    fun a w G S=>.of rfl (OpR.mv S.ok rfl (S.g 0 rfl)),
    fun a w G S=>.of rfl (OpR.nadd S.ok rfl (S.e 0 rfl) (rfl : _ = nv .i64 1) (wr_i64 (by omega)) MT.self),
    fun a w G S=>.of rfl (OpR.call2 rfl c_164 (word_ok S.ok (S.g 0 rfl) (S.g 1 rfl))),
    fun a w G S=>.of rfl (OpR.nshl S.ok rfl (S.e 0 rfl) (rfl : _ = nv .u64 32) (by decide) (wr_u64 (by omega)) MT.self),
    fun a w G S=>.of rfl (OpR.nor S.ok rfl (S.e 0 rfl) (S.e 1 rfl) (by omega) (by omega) (nv_eq (down_or hd0))),
    fun a w G S=>.of rfl (OpR.mv S.ok rfl (S.g 6 rfl)),
    fun a w G S=>.of rfl (OpR.nshr S.ok rfl (S.e 0 rfl) (S.e 1 rfl) (by simp only [IntKind.bits];omega) MT.self),
    fun a w G S=>.of rfl (OpR.nconv32 S.ok rfl (S.e 0 rfl) it_139 it_99 MT.self),
    fun a w G S=>.of rfl (OpR.ixA (i:=k) S.ok rfl Tryz.underlying55 tS_99 (S.e 0 rfl) (S.e 1 rfl) rfl (by first | omega | (simp;omega)) (ptr_eq (by simp only [Option.getD_none] <;> omega))),trivial⟩ fun β a w G S=>?_
  replace S : St W0 G0 35 [(31,MT.ex (Value.pointer (some ⟨b9,k,none⟩))),(30,MT.ex (nv .u32 (((dig l k + dig l (k + 1) * 4294967296) / 2 ^ s) % 4294967296))),(13,BT (decide (k < l.length))),(12,NT k),(11,NT l.length),(5,MT.ex (Value.slice (some ⟨b9,0,none⟩) (l.length) (l.length))),(4,MT.ex (Value.slice none 0 0)),(1,NT s),(0,SL l)] [⟨b9,99,some (l.length),MT.ex (Value.agg (ucells (q)).toArray)⟩] a _ _:=S.keep [0,1,18,19,20,21,22,23,24]
  refine S.setElem 0 (z:=((dig l k + dig l (k + 1) * 4294967296) / 2 ^ s) % 4294967296) rfl rfl rfl rfl (S.e 0 rfl) tS_99 (S.e 1 rfl) rfl (by first | omega | (simp;omega)) fun w S=>?_
  replace S:=S.n0
  refine wpList_nil ?_
  replace S:=S.d1.d0
  refine hK _ _ ?_;clear hK K
  refine wp_region_lit ?_
  refine S.s (OpR.nadd S.ok rfl (S.e 1 rfl) (rfl : _ = nv .i64 1) (wr_i64 (by omega)) MT.self) rfl fun a w G S=>?_
  replace S:=S.d2
  refine S.m rfl (S.g 0 rfl) rfl fun a w G S=>?_
  refine wpList_nil ?_
  replace S:=S.d1
  replace S:=S.castBox (τ':=MT.ex (Value.agg (ucells ((q.set (k) (((dig l k + dig l (k + 1) * 4294967296) / 2 ^ s) % 4294967296)))).toArray)) 0 rfl fun _ h _=>Eq.trans h (congrArg (fun l=>Value.agg (ucells l).toArray) (by simp))
  replace S:=S.n0
  exact ⟨l.length - (k + 1),(by omega),k + 1,q.set (k) (((dig l k + dig l (k + 1) * 4294967296) / 2 ^ s) % 4294967296),_,rfl,(by omega),(by simpa using hq),(hw.set (Nat.mod_lt _ (by decide))),(down_step (by omega) hs hd0 hv),(S.keep [0,2,3,4,5,6]).keepB [0] (by decide)⟩
 ·
  have hp3:=of_decide_eq_false hc1
  refine wp_exit (then_exit (then_exit (exit_same ?_)))
  clear hK K
  refine hK _ _ ?_;clear hK K
  refine wp_reg fun K hK=>?_
  obtain ⟨vz4,Gz4,hz4,hs4,hg4,hle4,S⟩:=S.freeze 0 rfl
  have hsl4 : (SL (q)).t (Value.slice (some ⟨b9,0,none⟩) (l.length) (l.length)) Gz4:=SL_frozen hz4 hg4 ⟨hq.symm,Nat.le_refl _⟩ (by simp only [LIM];omega) (by assumption)
  replace S:=S.also (t:=5) (τ:=SL (q)) ((S.e 3 rfl).symm ▸ hsl4)
  replace S : St W0 G0 35 [(5,SL q),(13,BT (decide (k < l.length))),(12,NT k),(11,NT l.length),(4,MT.ex (Value.slice none 0 0)),(1,NT s),(0,SL l)] [] a _ _:=S.keep [0,1,2,3,5,6,7]
  refine S.m rfl (S.g 0 rfl) rfl fun a w G S=>?_
  refine S.s (τ:=SN na (x / 2 ^ s)) (OpR.call1 rfl c_163 (trim_ok S.ok (SL.asSV (S.g 0 rfl) ⟨(down_fin ‹_› hk hq hv).trans (by rw [hl]),div_lt_pow hlt⟩))) rfl fun a w G S=>?_
  replace S:=S.d6
  refine S.q rfl (S.g 0 rfl) rfl fun a w G S=>?_
  refine wn hK ?_;clear hK K
  replace S:=S.d2.d1
  exact wp_ret (S.retTmp rfl (S.g 0 rfl))
theorem remove_ok {nu off len cap q : Nat} {us vs : List Nat} {v1 v2 v3 : Value} {ws : World} {Gs : Gh} {W0 : World} {G0 : Gh} {bu : Nat} {Br : List BX} (S0 : St W0 G0 0 [] (⟨bu,99,some (nu),MT.ex (Value.agg (ucells us).toArray)⟩ :: Br) ⟨#[],[]⟩ ws Gs) (h1 : (MT.ex (Value.slice (some ⟨bu,off,none⟩) (len) (cap))).t v1 Gs) (h2 : (SL vs).t v2 Gs) (h3 : (MT.ex (nv .u64 (q))).t v3 Gs) (hq : q < 4294967296) (husl : us.length = nu) (husw : wfl us) (hol : off + len ≤ nu) (hnu : nu ≤ LIM) : Calls Tryz.prog 182 #[v1,v2,v3] ws (RetM W0 G0 Gs (⟨bu,99,some (nu),MT.ex (Value.agg (ucells us).toArray)⟩ :: Br) 0 bu 99 (nu) (fun v l=>wfl l ∧ l.take off = us.take off ∧ l.drop (off + len) = us.drop (off + len) ∧ ∃ C c,c ≤ 1 ∧ v = .bool (decide (c = 1)) ∧ val ((l.drop off).take len) + q * val (vs.take len) = val ((us.drop off).take len) + 4294967296 ^ len * (C + c) ∧ (vs.length < len → C = 0))):=by
 have hwf:=SL.wf h2
 simp only [LIM] at hnu
 refine St.enterM (N:=46) (L:=[(2,MT.ex (nv .u64 (q))),(1,SL vs),(0,MT.ex (Value.slice (some ⟨bu,off,none⟩) (len) (cap)))]) (args:=[v1,v2,v3]) S0 Tryz.func182 rfl rfl rfl (enter3 h1 h2 h3) fun a S=>?_
 replace S:=S.also (t:=9999) (τ:=GLE Gs) (Gle.refl Gs)
 refine wp_reg fun K hK=>?_
 refine S.s (τ:=BT false) (OpR.asn S.ok rfl rfl) rfl fun a w G S=>?_
 refine wn hK ?_;clear hK K
 refine wp_reg fun K hK=>?_
 refine S.s (τ:=MT.ex (nv .u64 (0))) (OpR.asn S.ok rfl (rfl : _ = nv .u64 0)) rfl fun a w G S=>?_
 refine S.s (τ:=MT.ex (nv .u64 (0))) (OpR.asn S.ok rfl (rfl : _ = nv .u64 0)) rfl fun a w G S=>?_
 refine wn hK ?_;clear hK K
 refine wp_seq_k fun K hK=>?_
 refine wp_reg fun K hK=>?_
 refine S.m rfl (S.g 6 rfl) rfl fun a w G S=>?_
 refine S.s (OpR.lenA S.ok rfl Tryz.underlying55 (S.e 0 rfl) MT.self) rfl fun a w G S=>?_
 refine S.s (τ:=NT 0) (OpR.mv S.ok rfl (rfl : _ = nv .i64 0)) rfl fun a w G S=>?_
 refine wn hK ?_;clear hK K
 replace S:=S.d2
 refine wp_block ?_
 refine wp_loopJ (fun μ a w=>∃ (k : Nat) (C : Nat) (c : Nat) (l : List Nat) (G : Gh),μ = len - k ∧ (k ≤ len) ∧ (C < 4294967296) ∧ (c ≤ 1) ∧ (l.length = nu) ∧ (wfl l) ∧ (l.take off = us.take off) ∧ (l.drop (off + k) = us.drop (off + k)) ∧ (val ((l.drop off).take k) + q * val (vs.take k) = val ((us.drop off).take k) + 4294967296 ^ k * (C + c)) ∧ (vs.length < k → C = 0) ∧  St W0 G0 46 [(13,NT k),(12,NT len),(8,MT.ex (nv .u64 (c))),(7,MT.ex (nv .u64 (C))),(6,BT false),(9999,GLE Gs),(2,MT.ex (nv .u64 (q))),(1,SL vs),(0,MT.ex (Value.slice (some ⟨bu,off,none⟩) (len) (cap)))] (⟨bu,99,some (nu),MT.ex (Value.agg (ucells (l)).toArray)⟩ :: Br) a w G) (len - 0) ⟨0,0,0,us,_,rfl,(by omega),(by omega),(by omega),husl,husw,rfl,rfl,(by simp [val]),(fun h=>by omega),S.keep [0,1,2,3,4,5,6,7,8]⟩ ?_
 clear S
 intro μ a w ⟨k,C,c,l,G,hm,hk,hC,hc,hl,hw,hA,hB,hv,hz,S⟩
 have hdv:=dig_lt hwf k
 have hdl:=dig_lt hw (off + k)
 have hcb:=carry_bound hC hq hdv
 have hdu:=dig_lt husw (off + k)
 refine wp_reg fun K hK=>?_
 refine S.s (OpR.nlss S.ok rfl (S.e 0 rfl) (S.e 1 rfl) MT.self) rfl fun a w G S=>?_
 refine wn hK ?_;clear hK K
 refine wp_seq_k fun K hK=>?_
 refine S.cond 0 rfl (fun hc1=>?_) (fun hc1=>?_)
 ·
  have hp2:=of_decide_eq_true hc1
  refine wp_skip ?_
  refine hK _ _ ?_;clear hK K
  refine wp_seq_k fun K hK=>?_
  refine wp_block ?_
  refine wp_reg fun K hK=>?_
  refine S.m rfl (S.g 1 rfl) rfl fun a w G S=>?_
  refine S.q rfl (S.g 0 rfl) rfl fun a w G S=>?_
  refine wn hK ?_;clear hK K
  replace S:=S.d1
  refine wp_reg fun K hK=>?_
  refine S.m rfl (S.g 5 rfl) rfl fun a w G S=>?_
  refine S.m rfl (S.g 9 rfl) rfl fun a w G S=>?_
  refine S.m rfl (S.g 11 rfl) rfl fun a w G S=>?_
  refine S.m rfl (S.g 3 rfl) rfl fun a w G S=>?_
  refine S.s (τ:=MT.ex (nv .u64 (dig vs k))) (OpR.call2 rfl c_164 (word_ok S.ok (S.g 1 rfl) (S.g 0 rfl))) rfl fun a w G S=>?_
  refine S.s (OpR.nmul S.ok rfl (S.e 3 rfl) (S.e 0 rfl) (wr_u64 (by have:=hcb.1;omega)) MT.self) rfl fun a w G S=>?_
  refine S.s (OpR.nadd S.ok rfl (S.e 5 rfl) (S.e 0 rfl) (wr_u64 hcb.1) MT.self) rfl fun a w G S=>?_
  replace S:=S.d12
  refine S.q rfl (S.g 0 rfl) rfl fun a w G S=>?_
  refine wn hK ?_;clear hK K
  replace S:=S.d7.d6.d5.d4.d3.d2.d1
  refine wp_reg fun K hK=>?_
  refine S.m rfl (S.g 10 rfl) rfl fun a w G S=>?_
  refine S.m rfl (S.g 2 rfl) rfl fun a w G S=>?_
  refine S.s (τ:=MT.ex (Value.pointer (some ⟨bu,off + k,none⟩))) (OpR.ixA (i:=k) S.ok rfl Tryz.underlying55 tS_99 (S.e 1 rfl) (S.e 0 rfl) rfl (by first | omega | (simp;omega)) (ptr_eq (by simp only [Option.getD_none] <;> omega))) rfl fun a w G S=>?_
  refine S.s (OpR.ldElem S.ok rfl (S.e 0 rfl) (S.box 0 rfl) tS_99 (dig_get (by first | omega | (simp;omega)))) rfl fun a w G S=>?_
  refine S.s (OpR.nconv S.ok rfl (S.e 0 rfl) it_99 it_139 (wr_u64 (by omega)) MT.self) rfl fun a w G S=>?_
  refine S.m rfl (S.g 5 rfl) rfl fun a w G S=>?_
  refine S.s (OpR.nconv32 S.ok rfl (S.e 0 rfl) it_139 it_99 MT.self) rfl fun a w G S=>?_
  refine S.s (OpR.nconv S.ok rfl (S.e 0 rfl) it_99 it_139 (wr_u64 (by omega)) MT.self) rfl fun a w G S=>?_
  refine S.s (OpR.nsubw S.ok rfl (S.e 3 rfl) (S.e 0 rfl) (by omega) MT.self) rfl fun a w G S=>?_
  refine S.m rfl (S.g 14 rfl) rfl fun a w G S=>?_
  refine S.s (OpR.nsubw S.ok rfl (S.e 1 rfl) (S.e 0 rfl) (by omega) MT.self) rfl fun a w G S=>?_
  refine S.q rfl (S.g 0 rfl) rfl fun a w G S=>?_
  refine wn hK ?_;clear hK K
  replace S:=S.d11.d10.d9.d8.d7.d6.d5.d4.d3.d2.d1
  refine wp_reg fun K hK=>?_
  refine S.m rfl (S.g 11 rfl) rfl fun a w G S=>?_
  refine S.m rfl (S.g 3 rfl) rfl fun a w G S=>?_
  refine S.m rfl (S.g 2 rfl) rfl fun a w G S=>?_
  refine S.s (OpR.nconv32 S.ok rfl (S.e 0 rfl) it_139 it_99 MT.self) rfl fun a w G S=>?_
  refine S.s (τ:=MT.ex (Value.pointer (some ⟨bu,off + k,none⟩))) (OpR.ixA (i:=k) S.ok rfl Tryz.underlying55 tS_99 (S.e 3 rfl) (S.e 2 rfl) rfl (by first | omega | (simp;omega)) (ptr_eq (by simp only [Option.getD_none] <;> omega))) rfl fun a w G S=>?_
  refine S.setElem 0 (z:=(((((dig (l) (off + k)) + 18446744073709551616 - ((C + (q * (dig vs k))) % 4294967296)) % 18446744073709551616) + 18446744073709551616 - c) % 18446744073709551616) % 4294967296) rfl rfl rfl rfl (S.e 0 rfl) tS_99 (S.e 1 rfl) rfl (by first | omega | (simp;omega)) fun w S=>?_
  replace S:=S.n0
  refine wn hK ?_;clear hK K
  replace S:=S.d4.d3.d2.d1.d0
  refine wp_reg fun K hK=>?_
  refine S.m rfl (S.g 0 rfl) rfl fun a w G S=>?_
  refine S.s (OpR.nshr S.ok rfl (S.e 0 rfl) (rfl : _ = nv .u64 63) (by decide) MT.self) rfl fun a w G S=>?_
  replace S:=S.d8
  refine S.q rfl (S.g 0 rfl) rfl fun a w G S=>?_
  refine wn hK ?_;clear hK K
  replace S:=S.d2.d1
  refine wp_region_lit ?_
  refine S.m rfl (S.g 2 rfl) rfl fun a w G S=>?_
  refine S.s (OpR.nshr S.ok rfl (S.e 0 rfl) (rfl : _ = nv .u64 32) (by decide) MT.self) rfl fun a w G S=>?_
  replace S:=S.d4
  refine S.q rfl (S.g 0 rfl) rfl fun a w G S=>?_
  refine wpList_nil ?_
  replace S:=S.d2.d1
  refine hK _ _ ?_;clear hK K
  refine wp_region_lit ?_
  refine S.s (OpR.nadd S.ok rfl (S.e 5 rfl) (rfl : _ = nv .i64 1) (wr_i64 (by omega)) MT.self) rfl fun a w G S=>?_
  replace S:=S.d6
  refine S.m rfl (S.g 0 rfl) rfl fun a w G S=>?_
  refine wpList_nil ?_
  replace S:=S.d1
  replace S:=S.also (t:=8) (τ:=MT.ex (nv .u64 (((((((dig (l) (off + k)) + 18446744073709551616 - ((C + (q * (dig vs k))) % 4294967296)) % 18446744073709551616) + 18446744073709551616 - c) % 18446744073709551616) / 2 ^ 63)))) ((S.e 2 rfl).trans (nv_eq (by first | rfl | omega | (simp only [Nat.zero_add,Nat.add_zero];done) | (simp;done) | (push_cast;omega))))
  replace S:=S.also (t:=7) (τ:=MT.ex (nv .u64 (((C + (q * (dig vs k))) / 2 ^ 32)))) ((S.e 2 rfl).trans (nv_eq (by first | rfl | omega | (simp only [Nat.zero_add,Nat.add_zero];done) | (simp;done) | (push_cast;omega))))
  replace S:=S.castBox (τ':=MT.ex (Value.agg (ucells ((l.set (off + k) ((((((dig (l) (off + k)) + 18446744073709551616 - ((C + (q * (dig vs k))) % 4294967296)) % 18446744073709551616) + 18446744073709551616 - c) % 18446744073709551616) % 4294967296)))).toArray)) 0 rfl fun _ h _=>Eq.trans h (congrArg (fun l=>Value.agg (ucells l).toArray) (by simp))
  replace S:=S.n0
  exact ⟨len - (k + 1),(by omega),k + 1,(C + (q * (dig vs k))) / 2 ^ 32,(((((dig (l) (off + k)) + 18446744073709551616 - ((C + (q * (dig vs k))) % 4294967296)) % 18446744073709551616) + 18446744073709551616 - c) % 18446744073709551616) / 2 ^ 63,l.set (off + k) ((((((dig (l) (off + k)) + 18446744073709551616 - ((C + (q * (dig vs k))) % 4294967296)) % 18446744073709551616) + 18446744073709551616 - c) % 18446744073709551616) % 4294967296),_,rfl,(by omega),hcb.2,(sub_digit hdl (Nat.mod_lt _ (by decide)) hc).2,(by simpa using hl),(hw.set (Nat.mod_lt _ (by decide))),(by rw [take_set_far (by omega)];exact hA),(by rw [← Nat.add_assoc,drop_set_far (by omega)];exact drop_eq_succ hB),(rem_step (by omega) hdu hc (dig_of_drop hB) hv),(fun h=>by rw [dig_out (l:=vs) (by omega),Nat.mul_zero,Nat.add_zero];omega),S.keep [2,8,1,0,9,10,11,12,13]⟩
 ·
  have hp3:=of_decide_eq_false hc1
  refine wp_exit (then_exit (then_exit (exit_same ?_)))
  clear hK K
  refine hK _ _ ?_;clear hK K
  refine wp_reg fun K hK=>?_
  refine S.m rfl (S.g 3 rfl) rfl fun a w G S=>?_
  refine S.s (OpR.neql S.ok rfl (S.e 0 rfl) (rfl : _ = nv .u64 1) MT.self) rfl fun a w G S=>?_
  replace S:=S.d7
  refine S.q rfl (S.g 0 rfl) rfl fun a w G S=>?_
  refine wn hK ?_;clear hK K
  replace S:=S.d2.d1
  exact wp_ret (S.retM rfl (S.e 0 rfl) ⟨hw,hA,by rw [show off + len = off + k from by omega];exact hB,C,c,hc,rfl,by rw [show len = k from by omega];exact hv,fun h=>hz (by omega)⟩ hl (S.g 6 rfl))
theorem back_ok {nu off len cap : Nat} {us vs : List Nat} {v1 v2 : Value} {ws : World} {Gs : Gh} {W0 : World} {G0 : Gh} {bu : Nat} {Br : List BX} (S0 : St W0 G0 0 [] (⟨bu,99,some (nu),MT.ex (Value.agg (ucells us).toArray)⟩ :: Br) ⟨#[],[]⟩ ws Gs) (h1 : (MT.ex (Value.slice (some ⟨bu,off,none⟩) (len) (cap))).t v1 Gs) (h2 : (SL vs).t v2 Gs) (husl : us.length = nu) (husw : wfl us) (hol : off + len ≤ nu) (hnu : nu ≤ LIM) : Calls Tryz.prog 183 #[v1,v2] ws (RetM W0 G0 Gs (⟨bu,99,some (nu),MT.ex (Value.agg (ucells us).toArray)⟩ :: Br) 0 bu 99 (nu) (fun v l=>wfl l ∧ l.take off = us.take off ∧ l.drop (off + len) = us.drop (off + len) ∧ ∃ c,c ≤ 1 ∧ val ((l.drop off).take len) + 4294967296 ^ len * c = val ((us.drop off).take len) + val (vs.take len))):=by
 have hwf:=SL.wf h2
 simp only [LIM] at hnu
 refine St.enterM (N:=30) (L:=[(1,SL vs),(0,MT.ex (Value.slice (some ⟨bu,off,none⟩) (len) (cap)))]) (args:=[v1,v2]) S0 Tryz.func183 rfl rfl rfl (enter2 h1 h2) fun a S=>?_
 replace S:=S.also (t:=9999) (τ:=GLE Gs) (Gle.refl Gs)
 refine wp_reg fun K hK=>?_
 refine S.s (τ:=MT.ex (nv .u64 (0))) (OpR.asn S.ok rfl (rfl : _ = nv .u64 0)) rfl fun a w G S=>?_
 refine wn hK ?_;clear hK K
 refine wp_reg fun K hK=>?_
 refine S.m rfl (S.g 3 rfl) rfl fun a w G S=>?_
 refine S.s (OpR.lenA S.ok rfl Tryz.underlying55 (S.e 0 rfl) MT.self) rfl fun a w G S=>?_
 refine S.s (τ:=NT 0) (OpR.mv S.ok rfl (rfl : _ = nv .i64 0)) rfl fun a w G S=>?_
 refine wn hK ?_;clear hK K
 replace S:=S.d2
 refine wp_block ?_
 refine wp_loopJ (fun μ a w=>∃ (k : Nat) (c : Nat) (l : List Nat) (G : Gh),μ = len - k ∧ (k ≤ len) ∧ (c ≤ 1) ∧ (l.length = nu) ∧ (wfl l) ∧ (l.take off = us.take off) ∧ (l.drop (off + k) = us.drop (off + k)) ∧ (val ((l.drop off).take k) + 4294967296 ^ k * c = val ((us.drop off).take k) + val (vs.take k)) ∧  St W0 G0 30 [(8,NT k),(7,NT len),(4,MT.ex (nv .u64 (c))),(9999,GLE Gs),(1,SL vs),(0,MT.ex (Value.slice (some ⟨bu,off,none⟩) (len) (cap)))] (⟨bu,99,some (nu),MT.ex (Value.agg (ucells (l)).toArray)⟩ :: Br) a w G) (len - 0) ⟨0,0,us,_,rfl,(by omega),(by omega),husl,husw,rfl,rfl,(by simp [val]),S.keep [0,1,2,3,4,5]⟩ ?_
 clear S
 intro μ a w ⟨k,c,l,G,hm,hk,hc,hl,hw,hA,hB,hv,S⟩
 have hdv:=dig_lt hwf k
 have hdl:=dig_lt hw (off + k)
 refine wp_reg fun K hK=>?_
 refine S.s (OpR.nlss S.ok rfl (S.e 0 rfl) (S.e 1 rfl) MT.self) rfl fun a w G S=>?_
 refine wn hK ?_;clear hK K
 refine wp_seq_k fun K hK=>?_
 refine S.cond 0 rfl (fun hc1=>?_) (fun hc1=>?_)
 ·
  have hp2:=of_decide_eq_true hc1
  refine wp_skip ?_
  refine hK _ _ ?_;clear hK K
  refine wp_seq_k fun K hK=>?_
  refine wp_block ?_
  refine wp_reg fun K hK=>?_
  refine S.m rfl (S.g 1 rfl) rfl fun a w G S=>?_
  refine S.q rfl (S.g 0 rfl) rfl fun a w G S=>?_
  refine wn hK ?_;clear hK K
  replace S:=S.d1
  refine wp_seq_k fun K hK=>?_
  refine S.drawn [⟨11,.g (MT.ex (nv .u64 (c))),[]⟩,⟨12,.g (MT.ex (Value.slice (some ⟨bu,off,none⟩) (len) (cap))),[]⟩,⟨13,.g (NT k),[]⟩,⟨14,.g (MT.ex (Value.pointer (some ⟨bu,off + k,none⟩))),[1,2]⟩,⟨15,.g (MT.ex (nv .u32 (dig (l) (off + k)))),[3]⟩,⟨16,.g (MT.ex (nv .u64 (dig (l) (off + k)))),[4]⟩,⟨17,.g (SL vs),[]⟩,⟨18,.g (NT k),[]⟩,⟨19,.g (MT.ex (nv .u64 (dig vs k))),[6,7]⟩,⟨20,.g (MT.ex (nv .u64 ((dig (l) (off + k)) + (dig vs k)))),[5,8]⟩,⟨21,.g (MT.ex (nv .u64 (c + ((dig (l) (off + k)) + (dig vs k))))),[0,9]⟩] mixedOrders (by kernel_rfl)
   ⟨fun a w G S=>.of rfl (OpR.mv S.ok rfl (S.g 4 rfl)),
    fun a w G S=>.of rfl (OpR.mv S.ok rfl (S.g 7 rfl)),
    fun a w G S=>.of rfl (OpR.mv S.ok rfl (S.g 0 rfl)),
    fun a w G S=>.of rfl (OpR.ixA (i:=k) S.ok rfl Tryz.underlying55 tS_99 (S.e 0 rfl) (S.e 1 rfl) rfl (by first | omega | (simp;omega)) (ptr_eq (by simp only [Option.getD_none] <;> omega))),
    fun a w G S=>.of rfl (OpR.ldElem S.ok rfl (S.e 0 rfl) (S.box 0 rfl) tS_99 (dig_get (by first | omega | (simp;omega)))),
    fun a w G S=>.of rfl (OpR.nconv S.ok rfl (S.e 0 rfl) it_99 it_139 (wr_u64 (by omega)) MT.self),
    fun a w G S=>.of rfl (OpR.mv S.ok rfl (S.g 6 rfl)),
    fun a w G S=>.of rfl (OpR.mv S.ok rfl (S.g 0 rfl)),
    fun a w G S=>.of rfl (OpR.call2 rfl c_164 (word_ok S.ok (S.g 0 rfl) (S.g 1 rfl))),
    fun a w G S=>.of rfl (OpR.nadd S.ok rfl (S.e 0 rfl) (S.e 1 rfl) (wr_u64 (by omega)) MT.self),
    fun a w G S=>.of rfl (OpR.nadd S.ok rfl (S.e 0 rfl) (S.e 1 rfl) (wr_u64 (by omega)) MT.self),trivial⟩ fun β a w G S=>?_
  replace S : St W0 G0 30 [(21,MT.ex (nv .u64 (c + ((dig (l) (off + k)) + (dig vs k))))),(5,NT k),(9,BT (decide (k < len))),(8,NT k),(7,NT len),(4,MT.ex (nv .u64 (c))),(9999,GLE Gs),(1,SL vs),(0,MT.ex (Value.slice (some ⟨bu,off,none⟩) (len) (cap)))] (⟨bu,99,some (nu),MT.ex (Value.agg (ucells (l)).toArray)⟩ :: Br) a _ _:=S.keep [0,11,12,13,14,15,16,17,18]
  replace S:=S.d5
  refine S.q rfl (S.g 0 rfl) rfl fun a w G S=>?_
  refine wn hK ?_;clear hK K
  replace S:=S.d1
  refine wp_reg fun K hK=>?_
  refine S.m rfl (S.g 7 rfl) rfl fun a w G S=>?_
  refine S.m rfl (S.g 2 rfl) rfl fun a w G S=>?_
  refine S.m rfl (S.g 2 rfl) rfl fun a w G S=>?_
  refine S.s (OpR.nconv32 S.ok rfl (S.e 0 rfl) it_139 it_99 MT.self) rfl fun a w G S=>?_
  refine S.s (τ:=MT.ex (Value.pointer (some ⟨bu,off + k,none⟩))) (OpR.ixA (i:=k) S.ok rfl Tryz.underlying55 tS_99 (S.e 3 rfl) (S.e 2 rfl) rfl (by first | omega | (simp;omega)) (ptr_eq (by simp only [Option.getD_none] <;> omega))) rfl fun a w G S=>?_
  refine S.setElem 0 (z:=(c + ((dig (l) (off + k)) + (dig vs k))) % 4294967296) rfl rfl rfl rfl (S.e 0 rfl) tS_99 (S.e 1 rfl) rfl (by first | omega | (simp;omega)) fun w S=>?_
  replace S:=S.n0
  refine wn hK ?_;clear hK K
  replace S:=S.d4.d3.d2.d1.d0
  refine wp_region_lit ?_
  refine S.m rfl (S.g 0 rfl) rfl fun a w G S=>?_
  refine S.s (OpR.nshr S.ok rfl (S.e 0 rfl) (rfl : _ = nv .u64 32) (by decide) MT.self) rfl fun a w G S=>?_
  replace S:=S.d2
  refine S.q rfl (S.g 0 rfl) rfl fun a w G S=>?_
  refine wpList_nil ?_
  replace S:=S.d2.d1
  refine hK _ _ ?_;clear hK K
  refine wp_region_lit ?_
  refine S.s (OpR.nadd S.ok rfl (S.e 3 rfl) (rfl : _ = nv .i64 1) (wr_i64 (by omega)) MT.self) rfl fun a w G S=>?_
  replace S:=S.d4
  refine S.m rfl (S.g 0 rfl) rfl fun a w G S=>?_
  refine wpList_nil ?_
  replace S:=S.d1
  replace S:=S.also (t:=4) (τ:=MT.ex (nv .u64 (((c + ((dig (l) (off + k)) + (dig vs k))) / 2 ^ 32)))) ((S.e 1 rfl).trans (nv_eq (by first | rfl | omega | (simp only [Nat.zero_add,Nat.add_zero];done) | (simp;done) | (push_cast;omega))))
  replace S:=S.castBox (τ':=MT.ex (Value.agg (ucells ((l.set (off + k) ((c + ((dig (l) (off + k)) + (dig vs k))) % 4294967296)))).toArray)) 0 rfl fun _ h _=>Eq.trans h (congrArg (fun l=>Value.agg (ucells l).toArray) (by simp))
  replace S:=S.n0
  exact ⟨len - (k + 1),(by omega),k + 1,(c + ((dig (l) (off + k)) + (dig vs k))) / 2 ^ 32,l.set (off + k) ((c + ((dig (l) (off + k)) + (dig vs k))) % 4294967296),_,rfl,(by omega),(by omega),(by simpa using hl),(hw.set (Nat.mod_lt _ (by decide))),(by rw [take_set_far (by omega)];exact hA),(by rw [← Nat.add_assoc,drop_set_far (by omega)];exact drop_eq_succ hB),(back_step (by omega) (dig_of_drop hB) hv),S.keep [1,5,0,6,7,8]⟩
 ·
  have hp3:=of_decide_eq_false hc1
  refine wp_exit (then_exit (then_exit (exit_same ?_)))
  clear hK K
  exact ret_of_normal (S.retM0 rfl ⟨hw,hA,by rw [show off + len = off + k from by omega];exact hB,c,hc,by rw [show len = k from by omega];exact hv⟩ hl (S.g 4 rfl))
end Go.Proofs.YtboicjlbbbodgaaGreatDoor
namespace Go.Proofs.YtboicjlbbbodgaaGreatDoor
open Go.RowKit (Below)
section
variable {P : Program} {W0 : World} {G0 : Gh} {N : Nat} {L : List (Nat × MT)} {B : List BX} {a : Act} {w : World} {G : Gh} {o : Oper}
theorem wanted_ofU {ops : Array Oper} {j dj : Nat} {b : Bool} (S : St W0 G0 N L B a w G) (k : Nat) (hg : o.guard = some (j, b)) (hj : (ops[j]?).bind (·.dst) = some dj) (hk : L[k]? = some (dj, .ex undef)) :
    Region.wanted o (yielded ops a.tmps) = false:=by
  have he:=S.e k hk
  simp only [Region.wanted,hg,yielded,hj]
  by_cases hlt : dj < a.tmps.size
  · have hx : a.tmps[dj] = undef:=by simpa [tm,hlt] using he
    simp [hlt,hx,undef]
  · simp [hlt]
theorem St.skipU {ops : Array Oper} {rest : List Oper} {Q : Exit → Act → World → Prop} (S : St W0 G0 N L B a w G) {d j dj : Nat} {b : Bool} (k : Nat) (hd : o.dst = some d) (hg : o.guard = some (j, b)) (hj : (ops[j]?).bind (·.dst) = some dj)
    (hk : L[k]? = some (dj,.ex undef)) (hdN : (decide (d < N)) = true) (hf : fresh d L = true)
    (K : ∀ a' w' G',St W0 G0 N ((d,.ex undef) :: L) B a' w' G' → wpList P ops Q rest a' w') : wpList P ops Q (o :: rest) a w:=by
  refine wpList_step fun K' hK=>?_
  rw [if_neg (by rw [wanted_ofU S k hg hj hk];simp),hd]
  exact hK _ _ (K _ _ _ (S.put (of_decide_eq_true hdN) hf rfl (Nxt.refl S.ok)))
end
theorem up_im {na x s : Nat} {v1 v2 : Value} {W0 : World} {G0 : Gh} (hok : Gok W0 G0) (h1 : (SN na x).t v1 G0) (h2 : (MT.ex (nv .i64 s)).t v2 G0) (hs : s < 32) (hna : na ≤ BIG) :
    Calls Tryz.prog 181 #[v1,v2] W0 (Ret W0 G0 (ARS ((words x).length + 1) (fun l=>wfl l ∧ val l = x * 2 ^ s) ((words x).length + 1))) :=
  Calls.mono (up_ok hok h1 h2 hs) fun _ _ h=>RetB.toRet (by have:=words_length_bits (SN.lt h1);simp only [BIG] at hna;simp only [LIM];omega) (fun _ h=>h.1) h
theorem fill1 {a : Act} {x : Operand} {z : Nat} (h : a.eval x = nv .u32 z) : Instr.fill (fun i=>some (i,1)) (List.replicate 1 (u32 0)).toArray ((#[(0,x)].map fun (i,x)=>(i,a.eval x)).toList) = some (ucells [z]).toArray:=by
  have e : (#[(0,x)].map fun (i,x)=>(i,a.eval x)).toList = [(0,nv .u32 z)]:=by simp [h]
  rw [e];rfl
theorem DG.init {b v1 v2 vr u0 u1 u2 ur D V U : Nat} (h : DG b v1 v2 vr u0 u1 u2 ur D V U) : U / V ≤ (u0 * b + u1) / v1:=by
  have hb : 0 < b:=by have:=h.h1b;omega
  have hD:=h.D_pos
  have h1 : v1 * (b * D) ≤ V:=by
    rw [h.hV]
    have : v1 * (b * D) = v1 * b * D:=by rw [Nat.mul_assoc]
    rw [this,Nat.add_mul];omega
  have h2 : U / (b * D) = u0 * b + u1:=by
    have h3 : U / D = (u0 * b + u1) * b + u2:=by
      rw [h.hU,Nat.mul_comm,Nat.mul_add_div hD,Nat.div_eq_of_lt h.hur,Nat.add_zero]
    rw [Nat.mul_comm b D,← Nat.div_div_eq_div_mul,h3,Nat.mul_comm _ b,Nat.mul_add_div hb,Nat.div_eq_of_lt h.hu2,Nat.add_zero]
  have h4 : U / V ≤ U / (v1 * (b * D)):=Nat.div_le_div_left h1 (Nat.mul_pos h.h1 (Nat.mul_pos hb hD))
  rw [Nat.mul_comm v1,← Nat.div_div_eq_div_mul,h2] at h4
  exact h4
theorem dg_next {g v r h : Nat} (hg : 0 < g) (e : g * v + r = h) : (g - 1) * v + (r + v) = h:=by
  obtain ⟨g,rfl⟩ : ∃ j,g = j + 1:=⟨g - 1,by omega⟩
  rw [← e,Nat.add_mul,Nat.add_sub_cancel];omega
theorem dg_bound {g v r u0 u1 : Nat} (e : g * v + r = u0 * 4294967296 + u1) (hv : 0 < v) (h0 : u0 < 4294967296) (h1 : u1 < 4294967296) : g < 18446744073709551616:=by
  have:=Nat.le_mul_of_pos_right g hv
  omega
theorem mul32_lt {m n : Nat} (hm : m < 4294967296) (hn : n < 4294967296) : m * n < 18446744073709551616:=Nat.mul_lt_mul'' hm hn
theorem digit_pos {x g Y U R C c : Nat} (hc : c = 1) (h : x + g * Y = U + R * (C + c)) (hx : x < R) : 0 < g:=by
  rcases Nat.eq_zero_or_pos g with e | e
  · subst e;subst hc
    rw [Nat.zero_mul,Nat.mul_add,Nat.mul_one] at h
    omega
  · exact e
theorem seg_lt {l : List Nat} {i n : Nat} (h : wfl l) : val ((l.drop i).take n) < 4294967296 ^ n :=
  Nat.lt_of_lt_of_le (val_lt ((h.drop i).take n)) (Nat.pow_le_pow_right (by decide) (by rw [List.length_take];omega))
theorem div_ub {l vs : List Nat} {k y s nb : Nat} (hk : k = 0) (hvs : val vs = y * 2 ^ s) (hlt : val l < val vs * 4294967296 ^ k) (hs : s < 32) (hy : y < 2 ^ nb) : val l < 2 ^ (nb + 32):=by
  subst hk
  rw [Nat.pow_zero,Nat.mul_one,hvs] at hlt
  exact Nat.lt_trans hlt (mul_lt_pow hy (Nat.pow_lt_pow_right (by decide) hs))
theorem lt_step {m V k : Nat} (hk : 1 ≤ k) (h : m < V * 4294967296 ^ k) : m < V * 4294967296 ^ (k - 1 + 1):=by rw [Nat.sub_add_cancel hk];exact h
theorem inv_step {m V k X : Nat} {qq : List Nat} (hk : 1 ≤ k) (h : m + V * (4294967296 ^ k * val (qq.drop k)) = X) : m + V * (4294967296 ^ (k - 1 + 1) * val (qq.drop (k - 1 + 1))) = X:=by rw [Nat.sub_add_cancel hk];exact h
end Go.Proofs.YtboicjlbbbodgaaGreatDoor
namespace Go.Proofs.YtboicjlbbbodgaaGreatDoor
set_option maxHeartbeats 1000000
set_option maxRecDepth 100000
open Go.RowKit (Below)
private theorem c_191 : callable Tryz.prog 191 = true:=by kernel_rfl
private theorem it_3 : intTy Tryz.prog 3 .i64 = true:=by kernel_rfl
private theorem it_5 : intTy Tryz.prog 5 .u8 = true:=by kernel_rfl
theorem len32_ok {t : Nat} {v1 : Value} {W0 : World} {G0 : Gh} (hok : Gok W0 G0) (h1 : (MT.ex (nv .u32 (t))).t v1 G0) (ht : t < 4294967296) : Calls Tryz.prog 191 #[v1] W0 (Ret W0 G0 (NT (blen t))):=by
 refine St.enter (N:=19) (L:=[(0,MT.ex (nv .u32 (t)))]) (args:=[v1]) Tryz.func191 rfl rfl rfl hok (enter1 h1) fun a S=>?_
 refine wp_reg fun K hK=>?_
 refine S.s (τ:=NT 0) (OpR.asn S.ok rfl (rfl : _ = nv .i64 0)) rfl fun a w G S=>?_
 refine wn hK ?_;clear hK K
 refine wp_seq_k fun K hK=>?_
 refine wp_reg fun K hK=>?_
 refine S.m rfl (S.g 1 rfl) rfl fun a w G S=>?_
 refine S.s (OpR.ngeq S.ok rfl (S.e 0 rfl) (rfl : _ = nv .u32 65536) MT.self) rfl fun a w G S=>?_
 refine wn hK ?_;clear hK K
 replace S:=S.d1
 refine S.cond 0 rfl (fun hc1=>?_) (fun hc1=>?_)
 ·
  have hp2:=of_decide_eq_true hc1
  refine wp_reg fun K hK=>?_
  refine S.m rfl (S.g 2 rfl) rfl fun a w G S=>?_
  refine S.s (OpR.nshr S.ok rfl (S.e 0 rfl) (rfl : _ = nv .u64 16) (by decide) MT.self) rfl fun a w G S=>?_
  replace S:=S.d4
  refine S.q rfl (S.g 0 rfl) rfl fun a w G S=>?_
  refine wn hK ?_;clear hK K
  replace S:=S.d2.d1
  refine wp_region_lit ?_
  replace S:=S.d2
  refine S.s (τ:=NT 16) (OpR.asn S.ok rfl (rfl : _ = nv .i64 16)) rfl fun a w G S=>?_
  refine wpList_nil ?_
  refine hK _ _ ?_;clear hK K
  refine wp_seq_k fun K hK=>?_
  refine wp_reg fun K hK=>?_
  refine S.m rfl (S.g 1 rfl) rfl fun a w G S=>?_
  refine S.s (OpR.ngeq S.ok rfl (S.e 0 rfl) (rfl : _ = nv .u32 256) MT.self) rfl fun a w G S=>?_
  refine wn hK ?_;clear hK K
  replace S:=S.d1
  refine S.cond 0 rfl (fun hc3=>?_) (fun hc3=>?_)
  ·
   have hp4:=of_decide_eq_true hc3
   refine wp_reg fun K hK=>?_
   refine S.m rfl (S.g 2 rfl) rfl fun a w G S=>?_
   refine S.s (OpR.nshr S.ok rfl (S.e 0 rfl) (rfl : _ = nv .u64 8) (by decide) MT.self) rfl fun a w G S=>?_
   replace S:=S.d4
   refine S.q rfl (S.g 0 rfl) rfl fun a w G S=>?_
   refine wn hK ?_;clear hK K
   replace S:=S.d2.d1
   refine wp_region_lit ?_
   refine S.m rfl (S.g 2 rfl) rfl fun a w G S=>?_
   refine S.s (OpR.nadd S.ok rfl (S.e 0 rfl) (rfl : _ = nv .i64 8) (wr_i64 (by omega)) MT.self) rfl fun a w G S=>?_
   replace S:=S.d4
   refine S.q rfl (S.g 0 rfl) rfl fun a w G S=>?_
   refine wpList_nil ?_
   replace S:=S.d2.d1
   refine hK _ _ ?_;clear hK K
   refine wp_reg fun K hK=>?_
   refine S.m rfl (S.g 0 rfl) rfl fun a w G S=>?_
   refine S.m rfl (S.g 2 rfl) rfl fun a w G S=>?_
   refine S.s (OpR.nconv S.ok rfl (S.e 0 rfl) it_99 it_5 (wr_u8 (by omega)) MT.self) rfl fun a w G S=>?_
   refine S.s (τ:=MT.ex (nv .u8 (blen ((t / 2 ^ 16) / 2 ^ 8)))) (OpR.idxTab (f:=blen) S.ok rfl Tryz.underlying9 rfl (S.e 0 rfl) (by omega) (by kernel_rfl) rfl) rfl fun a w G S=>?_
   refine S.s (OpR.nconv S.ok rfl (S.e 0 rfl) it_5 it_3 (wr_i64 (Nat.lt_of_le_of_lt (blen_le (k:=8) (by omega)) (by decide))) MT.self) rfl fun a w G S=>?_
   refine S.s (OpR.nadd S.ok rfl (S.e 4 rfl) (S.e 0 rfl) (wr_i64 (Nat.lt_of_le_of_lt (Nat.add_le_add_left (blen_le (k:=8) (by omega)) _) (by decide))) MT.self) rfl fun a w G S=>?_
   replace S:=S.d6
   refine S.q rfl (S.g 0 rfl) rfl fun a w G S=>?_
   refine wn hK ?_;clear hK K
   replace S:=S.d6.d5.d4.d3.d2.d1
   exact wp_ret (S.retTmp rfl ((S.e 0 rfl).trans (nv_eq (len32_d ‹_› ‹_›))))
  ·
   have hp5:=of_decide_eq_false hc3
   refine wp_skip ?_
   refine hK _ _ ?_;clear hK K
   refine wp_reg fun K hK=>?_
   refine S.m rfl (S.g 1 rfl) rfl fun a w G S=>?_
   refine S.m rfl (S.g 3 rfl) rfl fun a w G S=>?_
   refine S.s (OpR.nconv S.ok rfl (S.e 0 rfl) it_99 it_5 (wr_u8 (by omega)) MT.self) rfl fun a w G S=>?_
   refine S.s (τ:=MT.ex (nv .u8 (blen (t / 2 ^ 16)))) (OpR.idxTab (f:=blen) S.ok rfl Tryz.underlying9 rfl (S.e 0 rfl) (by omega) (by kernel_rfl) rfl) rfl fun a w G S=>?_
   refine S.s (OpR.nconv S.ok rfl (S.e 0 rfl) it_5 it_3 (wr_i64 (Nat.lt_of_le_of_lt (blen_le (k:=8) (by omega)) (by decide))) MT.self) rfl fun a w G S=>?_
   refine S.s (OpR.nadd S.ok rfl (S.e 4 rfl) (S.e 0 rfl) (wr_i64 (Nat.lt_of_le_of_lt (Nat.add_le_add_left (blen_le (k:=8) (by omega)) _) (by decide))) MT.self) rfl fun a w G S=>?_
   replace S:=S.d7
   refine S.q rfl (S.g 0 rfl) rfl fun a w G S=>?_
   refine wn hK ?_;clear hK K
   replace S:=S.d6.d5.d4.d3.d2.d1
   exact wp_ret (S.retTmp rfl ((S.e 0 rfl).trans (nv_eq (len32_c ‹_›))))
 ·
  have hp6:=of_decide_eq_false hc1
  refine wp_skip ?_
  refine hK _ _ ?_;clear hK K
  refine wp_seq_k fun K hK=>?_
  refine wp_reg fun K hK=>?_
  refine S.m rfl (S.g 2 rfl) rfl fun a w G S=>?_
  refine S.s (OpR.ngeq S.ok rfl (S.e 0 rfl) (rfl : _ = nv .u32 256) MT.self) rfl fun a w G S=>?_
  refine wn hK ?_;clear hK K
  replace S:=S.d1
  refine S.cond 0 rfl (fun hc7=>?_) (fun hc7=>?_)
  ·
   have hp8:=of_decide_eq_true hc7
   refine wp_reg fun K hK=>?_
   refine S.m rfl (S.g 3 rfl) rfl fun a w G S=>?_
   refine S.s (OpR.nshr S.ok rfl (S.e 0 rfl) (rfl : _ = nv .u64 8) (by decide) MT.self) rfl fun a w G S=>?_
   replace S:=S.d5
   refine S.q rfl (S.g 0 rfl) rfl fun a w G S=>?_
   refine wn hK ?_;clear hK K
   replace S:=S.d2.d1
   refine wp_region_lit ?_
   refine S.m rfl (S.g 3 rfl) rfl fun a w G S=>?_
   refine S.s (OpR.nadd S.ok rfl (S.e 0 rfl) (rfl : _ = nv .i64 8) (wr_i64 (by omega)) MT.self) rfl fun a w G S=>?_
   replace S:=S.d5
   refine S.q rfl (S.g 0 rfl) rfl fun a w G S=>?_
   refine wpList_nil ?_
   replace S:=S.d2.d1
   refine hK _ _ ?_;clear hK K
   refine wp_reg fun K hK=>?_
   refine S.m rfl (S.g 0 rfl) rfl fun a w G S=>?_
   refine S.m rfl (S.g 2 rfl) rfl fun a w G S=>?_
   refine S.s (OpR.nconv S.ok rfl (S.e 0 rfl) it_99 it_5 (wr_u8 (by omega)) MT.self) rfl fun a w G S=>?_
   refine S.s (τ:=MT.ex (nv .u8 (blen (t / 2 ^ 8)))) (OpR.idxTab (f:=blen) S.ok rfl Tryz.underlying9 rfl (S.e 0 rfl) (by omega) (by kernel_rfl) rfl) rfl fun a w G S=>?_
   refine S.s (OpR.nconv S.ok rfl (S.e 0 rfl) it_5 it_3 (wr_i64 (Nat.lt_of_le_of_lt (blen_le (k:=8) (by omega)) (by decide))) MT.self) rfl fun a w G S=>?_
   refine S.s (OpR.nadd S.ok rfl (S.e 4 rfl) (S.e 0 rfl) (wr_i64 (Nat.lt_of_le_of_lt (Nat.add_le_add_left (blen_le (k:=8) (by omega)) _) (by decide))) MT.self) rfl fun a w G S=>?_
   replace S:=S.d6
   refine S.q rfl (S.g 0 rfl) rfl fun a w G S=>?_
   refine wn hK ?_;clear hK K
   replace S:=S.d6.d5.d4.d3.d2.d1
   exact wp_ret (S.retTmp rfl ((S.e 0 rfl).trans (nv_eq (len32_b ‹_›))))
  ·
   have hp9:=of_decide_eq_false hc7
   refine wp_skip ?_
   refine hK _ _ ?_;clear hK K
   refine wp_reg fun K hK=>?_
   refine S.m rfl (S.g 2 rfl) rfl fun a w G S=>?_
   refine S.m rfl (S.g 4 rfl) rfl fun a w G S=>?_
   refine S.s (OpR.nconv S.ok rfl (S.e 0 rfl) it_99 it_5 (wr_u8 (by omega)) MT.self) rfl fun a w G S=>?_
   refine S.s (τ:=MT.ex (nv .u8 (blen (t)))) (OpR.idxTab (f:=blen) S.ok rfl Tryz.underlying9 rfl (S.e 0 rfl) (by omega) (by kernel_rfl) rfl) rfl fun a w G S=>?_
   refine S.s (OpR.nconv S.ok rfl (S.e 0 rfl) it_5 it_3 (wr_i64 (Nat.lt_of_le_of_lt (blen_le (k:=8) (by omega)) (by decide))) MT.self) rfl fun a w G S=>?_
   refine S.s (OpR.nadd S.ok rfl (S.e 4 rfl) (S.e 0 rfl) (wr_i64 (Nat.lt_of_le_of_lt (Nat.add_le_add_left (blen_le (k:=8) (by omega)) _) (by decide))) MT.self) rfl fun a w G S=>?_
   replace S:=S.d8
   refine S.q rfl (S.g 0 rfl) rfl fun a w G S=>?_
   refine wn hK ?_;clear hK K
   replace S:=S.d6.d5.d4.d3.d2.d1
   exact wp_ret (S.retTmp rfl ((S.e 0 rfl).trans (nv_eq len32_a)))
theorem lz32_ok {t : Nat} {v1 : Value} {W0 : World} {G0 : Gh} (hok : Gok W0 G0) (h1 : (MT.ex (nv .u32 (t))).t v1 G0) (ht : t < 4294967296) : Calls Tryz.prog 180 #[v1] W0 (Ret W0 G0 (NT (32 - blen t))):=by
 have hb:=blen_le (n:=t) (k:=32) (by omega)
 refine St.enter (N:=6) (L:=[(0,MT.ex (nv .u32 (t)))]) (args:=[v1]) Tryz.func180 rfl rfl rfl hok (enter1 h1) fun a S=>?_
 refine wp_reg fun K hK=>?_
 refine S.s (τ:=NT 0) (OpR.asn S.ok rfl (rfl : _ = nv .i64 0)) rfl fun a w G S=>?_
 refine wn hK ?_;clear hK K
 refine wp_reg fun K hK=>?_
 refine S.m rfl (S.g 1 rfl) rfl fun a w G S=>?_
 refine S.s (τ:=NT (blen t)) (OpR.call1 rfl c_191 (len32_ok S.ok (S.g 0 rfl) (by omega))) rfl fun a w G S=>?_
 refine S.s (OpR.nsub S.ok rfl (rfl : _ = nv .i64 32) (S.e 0 rfl) (by omega) (wr_i64 (by omega)) MT.self) rfl fun a w G S=>?_
 replace S:=S.d3
 refine S.q rfl (S.g 0 rfl) rfl fun a w G S=>?_
 refine wn hK ?_;clear hK K
 replace S:=S.d4.d3.d2.d1
 exact wp_ret (S.retTmp rfl ((S.e 0 rfl).trans (nv_eq (by first | rfl | omega | (simp only [Nat.zero_add,Nat.add_zero];done) | (simp;done) | (push_cast;omega)))))
end Go.Proofs.YtboicjlbbbodgaaGreatDoor
namespace Go.Proofs.YtboicjlbbbodgaaGreatDoor
set_option maxHeartbeats 1000000
set_option maxRecDepth 100000
open Go.RowKit (Below)
private theorem c_141 : callable Tryz.prog 141 = true:=by kernel_rfl
private theorem c_153 : callable Tryz.prog 153 = true:=by kernel_rfl
private theorem c_180 : callable Tryz.prog 180 = true:=by kernel_rfl
private theorem c_181 : callable Tryz.prog 181 = true:=by kernel_rfl
private theorem c_182 : callable Tryz.prog 182 = true:=by kernel_rfl
private theorem c_183 : callable Tryz.prog 183 = true:=by kernel_rfl
private theorem c_184 : callable Tryz.prog 184 = true:=by kernel_rfl
theorem divide_ok {na nb x y : Nat} {v1 v2 : Value} {W0 : World} {G0 : Gh} (hok : Gok W0 G0) (h1 : (SN na x).t v1 G0) (h2 : (SN nb y).t v2 G0) (hy : y ≠ 0) (hna : na ≤ BIG) (hnb : nb ≤ BIG) : Calls Tryz.prog 165 #[v1,v2] W0 (Ret W0 G0 (MT.tup2 (SN na (x / y)) (SN nb (x % y)))):=by
 have hla:=words_length_bits (SN.lt h1)
 have hlb:=words_length_bits (SN.lt h2)
 simp only [BIG] at hna hnb
 have hdb : x / y < 2 ^ na:=div_lt_pow (SN.lt h1)
 have hmb : x % y < 2 ^ nb:=Nat.lt_trans (Nat.mod_lt _ (Nat.pos_of_ne_zero hy)) (SN.lt h2)
 have hLp:=len_pos hy
 have hyb:=SN.lt h2
 have hdt:=dig_lt (wfl_words y) ((words y).length - 1)
 refine St.enter (N:=158) (L:=[(1,SN nb y),(0,SN na x)]) (args:=[v1,v2]) Tryz.func165 rfl rfl rfl hok (enter2 h1 h2) fun a S=>?_
 refine wp_reg fun K hK=>?_
 refine S.s (τ:=MT.ex (Value.slice none 0 0)) (OpR.asn S.ok rfl rfl) rfl fun a w G S=>?_
 refine S.s (τ:=MT.ex (Value.slice none 0 0)) (OpR.asn S.ok rfl rfl) rfl fun a w G S=>?_
 refine wn hK ?_;clear hK K
 refine wp_seq_k fun K hK=>?_
 refine wp_reg fun K hK=>?_
 refine S.m rfl (S.g 3 rfl) rfl fun a w G S=>?_
 refine S.m rfl (S.g 3 rfl) rfl fun a w G S=>?_
 refine S.s (τ:=IT (cmpN x y)) (OpR.call2 rfl c_141 (compare_ok S.ok (S.g 1 rfl) (S.g 0 rfl))) rfl fun a w G S=>?_
 refine S.s (OpR.ilss S.ok rfl (S.e 0 rfl) (rfl : _ = nv .i64 0) MT.self) rfl fun a w G S=>?_
 refine wn hK ?_;clear hK K
 replace S:=S.d3.d2.d1
 refine S.cond 0 rfl (fun hc1=>?_) (fun hc1=>?_)
 ·
  have hp2:=of_decide_eq_true hc1
  refine wp_reg fun K hK=>?_
  refine S.m rfl (S.g 4 rfl) rfl fun a w G S=>?_
  refine S.s (τ:=SN na x) (OpR.call1 rfl c_163 (trim_ok S.ok (SN.toSV (S.g 0 rfl)))) rfl fun a w G S=>?_
  replace S:=S.d4
  refine S.s (τ:=MT.ex (Value.slice none 0 0)) (OpR.asn S.ok rfl rfl) rfl fun a w G S=>?_
  replace S:=S.d4
  refine S.q rfl (S.g 1 rfl) rfl fun a w G S=>?_
  refine wn hK ?_;clear hK K
  replace S:=S.d3.d2
  exact wp_ret (then_ret (S.retTmp2 rfl (SN_nil_of (S.e 1 rfl) (Nat.div_eq_of_lt (cmpN_neg.1 ‹_›))) (SN.cast (S.g 0 rfl) (Nat.mod_eq_of_lt (cmpN_neg.1 ‹_›)).symm hmb)))
 ·
  have hp3:=of_decide_eq_false hc1
  have hxy : y ≤ x:=Nat.not_lt.1 fun h=>hp3 (cmpN_neg.2 h)
  have hll : (words y).length ≤ (words x).length:=Nat.not_lt.1 fun h=>absurd (lt_of_len h) (by omega)
  refine wp_skip ?_
  refine hK _ _ ?_;clear hK K
  refine wp_seq_k fun K hK=>?_
  refine wp_reg fun K hK=>?_
  refine S.m rfl (S.g 3 rfl) rfl fun a w G S=>?_
  refine S.s (OpR.lenL S.ok rfl Tryz.underlying55 (SN.toSL (S.g 0 rfl)) MT.self) rfl fun a w G S=>?_
  refine S.s (OpR.neql S.ok rfl (S.e 0 rfl) (rfl : _ = nv .i64 1) MT.self) rfl fun a w G S=>?_
  refine wn hK ?_;clear hK K
  replace S:=S.d2.d1
  refine S.cond 0 rfl (fun hc4=>?_) (fun hc4=>?_)
  ·
   have hp5:=of_decide_eq_true hc4
   have hd0:=dig_zero_one hp5
   have hdl:=dig_lt (wfl_words y) 0
   have hm:=Nat.mod_lt x (show 0 < dig (words y) 0 by omega)
   refine wp_reg fun K hK=>?_
   refine S.m rfl (S.g 5 rfl) rfl fun a w G S=>?_
   refine S.m rfl (S.g 5 rfl) rfl fun a w G S=>?_
   refine S.s (τ:=PE (none) (MT.ex (nv .u32 (dig (words (y)) (0))))) (OpR.ixL (i:=0) S.ok rfl Tryz.underlying55 tS_99 (SN.toSL (S.g 0 rfl)) (rfl : _ = nv .i64 0) rfl (dig_get (by first | omega | (simp;omega)))) rfl fun a w G S=>?_
   refine S.s (OpR.ldE S.ok rfl tS_99 (S.g 0 rfl)) rfl fun a w G S=>?_
   refine S.s (τ:=MT.tup2 (SN na (x / (dig (words (y)) (0)))) (MT.ex (nv .u32 (x % (dig (words (y)) (0)))))) (OpR.call2 rfl c_153 (short_ok S.ok (S.g 3 rfl) ((S.e 0 rfl).trans (nv_eq (by first | rfl | omega | (simp only [Nat.zero_add,Nat.add_zero];done) | (simp;done) | (push_cast;omega)))) (by omega) (by omega))) rfl fun a w G S=>?_
   refine S.m rfl (S.g 0 rfl) rfl fun a w G S=>?_
   refine S.s (OpR.ext2a S.ok rfl (S.g 0 rfl)) rfl fun a w G S=>?_
   refine S.s (OpR.ext2b S.ok rfl (S.g 1 rfl)) rfl fun a w G S=>?_
   refine S.q rfl (S.g 1 rfl) rfl fun a w G S=>?_
   refine S.q rfl (S.g 1 rfl) rfl fun a w G S=>?_
   refine wn hK ?_;clear hK K
   replace S:=S.d9.d8.d7.d6.d5.d4.d3.d2
   refine wp_reg fun K hK=>?_
   refine S.m rfl (S.g 1 rfl) rfl fun a w G S=>?_
   refine S.m rfl (S.g 1 rfl) rfl fun a w G S=>?_
   refine S.s (τ:=SL ([x % (dig (words (y)) (0))])) (OpR.build32 S.ok rfl Tryz.underlying55 el_99 (by omega) rfl (by simp [wfl] <;> omega) (fill1 (S.e 0 rfl))) rfl fun a w G S=>?_
   refine S.s (τ:=SN nb (x % dig (words y) 0)) (OpR.call1 rfl c_163 (trim_ok S.ok (SL.asSV (S.g 0 rfl) ⟨by simp [val],by rw [hd0];exact hmb⟩))) rfl fun a w G S=>?_
   replace S:=S.d9
   refine S.q rfl (S.g 3 rfl) rfl fun a w G S=>?_
   replace S:=S.d9
   refine S.q rfl (S.g 1 rfl) rfl fun a w G S=>?_
   refine wn hK ?_;clear hK K
   replace S:=S.d7.d6.d5.d4.d3.d2
   exact wp_ret (then_ret (S.retTmp2 rfl (SN.eq (S.g 1 rfl) (by rw [hd0])) (SN.eq (S.g 0 rfl) (by rw [hd0]))))
  ·
   have hp6:=of_decide_eq_false hc4
   have hL2 : 2 ≤ (words y).length:=by omega
   refine wp_skip ?_
   refine hK _ _ ?_;clear hK K
   refine wp_reg fun K hK=>?_
   refine S.m rfl (S.g 4 rfl) rfl fun a w G S=>?_
   refine S.m rfl (S.g 5 rfl) rfl fun a w G S=>?_
   refine S.s (OpR.lenL S.ok rfl Tryz.underlying55 (SN.toSL (S.g 0 rfl)) MT.self) rfl fun a w G S=>?_
   refine S.s (τ:=IT ((((words (y)).length : Nat) : Int) - ((1 : Nat) : Int))) (OpR.isub S.ok rfl (S.e 0 rfl) (rfl : _ = nv .i64 1) (iw_i64 (by omega) (by omega))) rfl fun a w G S=>?_
   refine S.s (τ:=PE (none) (MT.ex (nv .u32 (dig (words (y)) ((words y).length - 1))))) (OpR.ixL (i:=(words y).length - 1) S.ok rfl Tryz.underlying55 tS_99 (SN.toSL (S.g 3 rfl)) (S.e 0 rfl) (by omega) (dig_get (by first | omega | (simp;omega)))) rfl fun a w G S=>?_
   refine S.s (OpR.ldE S.ok rfl tS_99 (S.g 0 rfl)) rfl fun a w G S=>?_
   refine S.s (τ:=NT (32 - blen (dig (words (y)) ((words y).length - 1)))) (OpR.call1 rfl c_180 (lz32_ok S.ok ((S.e 0 rfl).trans (nv_eq (by first | rfl | omega | (simp only [Nat.zero_add,Nat.add_zero];done) | (simp;done) | (push_cast;omega)))) (by omega))) rfl fun a w G S=>?_
   refine S.q rfl (S.g 0 rfl) rfl fun a w G S=>?_
   refine wn hK ?_;clear hK K
   replace S:=S.d7.d6.d5.d4.d3.d2.d1
   obtain ⟨s,hs⟩ : ∃ s,s = 32 - blen (dig (words (y)) ((words y).length - 1)):=⟨_,rfl⟩
   obtain ⟨hs32,hys⟩:=shift_ok hy hs
   replace S:=S.also (t:=8) (τ:=MT.ex (nv .i64 s)) ((S.e 0 rfl).trans (nv_eq hs.symm))
   replace S:=S.d1
   refine wp_seq_k fun K hK=>?_
   refine S.drawn [⟨47,.g (SN nb y),[]⟩,⟨48,.g (NT s),[]⟩,⟨49,.g (ARS ((words y).length + 1) (fun l=>wfl l ∧ val l = y * 2 ^ s) ((words y).length + 1)),[0,1]⟩,⟨50,.g (SN nb y),[]⟩,⟨51,.g (NT ((words (y)).length)),[3]⟩,⟨52,.g (ARS ((words y).length + 1) (fun l=>wfl l ∧ val l = y * 2 ^ s) ((words (y)).length)),[2,4]⟩,⟨53,.g (SN na x),[]⟩,⟨54,.g (NT s),[]⟩,⟨55,.al (mkS ((words x).length + 1)) 99 (some ((words x).length + 1)) (ARR ((words x).length + 1) (fun l=>wfl l ∧ val l = x * 2 ^ s)),[6,7]⟩] mixedOrders (by kernel_rfl)
    ⟨fun a w G S=>.of rfl (OpR.mv S.ok rfl (S.g 5 rfl)),
     fun a w G S=>.of rfl (OpR.mv S.ok rfl (S.g 0 rfl)),
     fun a w G S=>.of rfl (OpR.call2 rfl c_181 (up_im S.ok (S.g 0 rfl) (S.g 1 rfl) (by omega) (by first | omega | assumption))),
     fun a w G S=>.of rfl (OpR.mv S.ok rfl (S.g 5 rfl)),
     fun a w G S=>.of rfl (OpR.lenL S.ok rfl Tryz.underlying55 (SN.toSL (S.g 0 rfl)) MT.self),
     fun a w G S=>.of rfl (OpR.cutAR S.ok rfl Tryz.underlying55 tS_99 (S.g 0 rfl) (S.e 1 rfl) (by omega)),
     fun a w G S=>.of rfl (OpR.mv S.ok rfl (S.g 6 rfl)),
     fun a w G S=>.of rfl (OpR.mv S.ok rfl (S.g 0 rfl)),
     ⟨fun _=>rfl,rfl,fun a w G S=>OpB.call2 rfl c_181 (up_ok S.ok (S.g 0 rfl) (S.g 1 rfl) (by omega))⟩,trivial⟩ fun β a w G S=>?_
   replace S : St W0 G0 158 [(55,MT.ex (Value.slice (some ⟨(β 8),0,none⟩) ((words x).length + 1) ((words x).length + 1))),(52,ARS ((words y).length + 1) (fun l=>wfl l ∧ val l = y * 2 ^ s) ((words (y)).length)),(8,NT s),(27,BT (decide (((words (y)).length) = 1))),(22,BT (decide ((cmpN x y) < 0))),(5,MT.ex (Value.slice none 0 0)),(4,MT.ex (Value.slice none 0 0)),(1,SN nb y),(0,SN na x)] [⟨(β 8),99,some ((words x).length + 1),ARR ((words x).length + 1) (fun l=>wfl l ∧ val l = x * 2 ^ s)⟩] a _ _:=S.keep [0,3,9,10,11,12,13,14,15]
   generalize β 8 = b55 at S
   refine S.q rfl (S.g 1 rfl) rfl fun a w G S=>?_
   refine S.q rfl (S.g 1 rfl) rfl fun a w G S=>?_
   refine wn hK ?_;clear hK K
   replace S:=S.d3.d2
   obtain ⟨vl,hvl,hvp,hv9⟩:=S.g 1 rfl
   obtain ⟨hvL,hvw,hvv,hvt⟩:=v_facts hy hL2 hys hvl hvp
   generalize vl.take (words y).length = vs at hv9 hvL hvw hvv hvt
   replace S:=S.also (t:=9) (τ:=SL vs) hv9
   obtain ⟨us,hul,⟨huw,huv⟩,S⟩:=S.openArr 0 rfl
   replace S : St W0 G0 158 [(9,SL vs),(10,MT.ex (Value.slice (some ⟨b55,0,none⟩) ((words x).length + 1) ((words x).length + 1))),(9,ARS ((words y).length + 1) (fun l=>wfl l ∧ val l = y * 2 ^ s) ((words (y)).length)),(8,NT s),(27,BT (decide (((words (y)).length) = 1))),(22,BT (decide ((cmpN x y) < 0))),(5,MT.ex (Value.slice none 0 0)),(4,MT.ex (Value.slice none 0 0)),(1,SN nb y),(0,SN na x)] [⟨b55,99,some ((words x).length + 1),MT.ex (Value.agg (ucells (us)).toArray)⟩] a _ _:=S
   have hd0:=dig_lt hvw (vs.length - 1)
   have hd1:=dig_lt hvw (vs.length - 2)
   replace S:=S.d2
   refine wp_reg fun K hK=>?_
   refine S.m rfl (S.g 1 rfl) rfl fun a w G S=>?_
   refine S.s (OpR.lenA S.ok rfl Tryz.underlying55 (S.e 0 rfl) MT.self) rfl fun a w G S=>?_
   refine S.m rfl (S.g 2 rfl) rfl fun a w G S=>?_
   refine S.s (OpR.lenL S.ok rfl Tryz.underlying55 (S.g 0 rfl) MT.self) rfl fun a w G S=>?_
   refine S.s (OpR.nsub S.ok rfl (S.e 2 rfl) (S.e 0 rfl) (by omega) (wr_i64 (by omega)) MT.self) rfl fun a w G S=>?_
   refine S.mkSlice (n:=((words x).length + 1) - vs.length) rfl rfl rfl Tryz.underlying55 el_99 (S.e 0 rfl) (S.e 0 rfl) rfl rfl (by omega) (by omega) rfl rfl fun b61 a w G S=>?_
   refine S.q rfl (S.g 0 rfl) rfl fun a w G S=>?_
   refine wn hK ?_;clear hK K
   replace S:=S.d6.d5.d4.d3.d2.d1
   refine wp_seq_k fun K hK=>?_
   refine S.drawn [⟨62,.g (SL vs),[]⟩,⟨63,.g (SL vs),[]⟩,⟨64,.g (NT vs.length),[1]⟩,⟨65,.g (IT (((vs.length : Nat) : Int) - ((1 : Nat) : Int))),[2]⟩,⟨66,.g (PE (none) (MT.ex (nv .u32 (dig (vs) (vs.length - 1))))),[0,3]⟩,⟨67,.g (MT.ex (nv .u32 (dig (vs) (vs.length - 1)))),[4]⟩,⟨68,.g (MT.ex (nv .u64 (dig (vs) (vs.length - 1)))),[5]⟩,⟨69,.g (SL vs),[]⟩,⟨70,.g (SL vs),[]⟩,⟨71,.g (NT vs.length),[8]⟩,⟨72,.g (IT (((vs.length : Nat) : Int) - ((2 : Nat) : Int))),[9]⟩,⟨73,.g (PE (none) (MT.ex (nv .u32 (dig (vs) (vs.length - 2))))),[7,10]⟩,⟨74,.g (MT.ex (nv .u32 (dig (vs) (vs.length - 2)))),[11]⟩,⟨75,.g (MT.ex (nv .u64 (dig (vs) (vs.length - 2)))),[12]⟩,⟨12,.g (MT.ex (nv .u64 (dig (vs) (vs.length - 1)))),[6]⟩,⟨13,.g (MT.ex (nv .u64 (dig (vs) (vs.length - 2)))),[13]⟩] mixedOrders (by kernel_rfl)
    ⟨fun a w G S=>.of rfl (OpR.mv S.ok rfl (S.g 1 rfl)),
     fun a w G S=>.of rfl (OpR.mv S.ok rfl (S.g 1 rfl)),
     fun a w G S=>.of rfl (OpR.lenL S.ok rfl Tryz.underlying55 (S.g 0 rfl) MT.self),
     fun a w G S=>.of rfl (OpR.isub S.ok rfl (S.e 0 rfl) (rfl : _ = nv .i64 1) (iw_i64 (by omega) (by omega))),
     fun a w G S=>.of rfl (OpR.ixL (i:=vs.length - 1) S.ok rfl Tryz.underlying55 tS_99 (S.g 0 rfl) (S.e 1 rfl) (by omega) (dig_get (by first | omega | (simp;omega)))),
     fun a w G S=>.of rfl (OpR.ldE S.ok rfl tS_99 (S.g 0 rfl)),
     fun a w G S=>.of rfl (OpR.nconv S.ok rfl (S.e 0 rfl) it_99 it_139 (wr_u64 (by omega)) MT.self),
     fun a w G S=>.of rfl (OpR.mv S.ok rfl (S.g 1 rfl)),
     fun a w G S=>.of rfl (OpR.mv S.ok rfl (S.g 1 rfl)),
     fun a w G S=>.of rfl (OpR.lenL S.ok rfl Tryz.underlying55 (S.g 0 rfl) MT.self),
     fun a w G S=>.of rfl (OpR.isub S.ok rfl (S.e 0 rfl) (rfl : _ = nv .i64 2) (iw_i64 (by omega) (by omega))),
     fun a w G S=>.of rfl (OpR.ixL (i:=vs.length - 2) S.ok rfl Tryz.underlying55 tS_99 (S.g 0 rfl) (S.e 1 rfl) (by omega) (dig_get (by first | omega | (simp;omega)))),
     fun a w G S=>.of rfl (OpR.ldE S.ok rfl tS_99 (S.g 0 rfl)),
     fun a w G S=>.of rfl (OpR.nconv S.ok rfl (S.e 0 rfl) it_99 it_139 (wr_u64 (by omega)) MT.self),
     fun a w G S=>.of rfl (OpR.asn S.ok rfl (S.g 0 rfl)),
     fun a w G S=>.of rfl (OpR.asn S.ok rfl (S.g 0 rfl)),trivial⟩ fun β a w G S=>?_
   replace S : St W0 G0 158 [(13,MT.ex (nv .u64 (dig (vs) (vs.length - 2)))),(12,MT.ex (nv .u64 (dig (vs) (vs.length - 1)))),(11,MT.ex (Value.slice (some ⟨b61,0,none⟩) (((words x).length + 1) - vs.length) (((words x).length + 1) - vs.length))),(9,SL vs),(10,MT.ex (Value.slice (some ⟨b55,0,none⟩) ((words x).length + 1) ((words x).length + 1))),(8,NT s),(27,BT (decide (((words (y)).length) = 1))),(22,BT (decide ((cmpN x y) < 0))),(5,MT.ex (Value.slice none 0 0)),(4,MT.ex (Value.slice none 0 0)),(1,SN nb y),(0,SN na x)] [⟨b61,99,some (((words x).length + 1) - vs.length),MT.ex (Value.agg (ucells (List.replicate (((words x).length + 1) - vs.length) 0)).toArray)⟩,⟨b55,99,some ((words x).length + 1),MT.ex (Value.agg (ucells (us)).toArray)⟩] a _ _:=S.keep [0,1,16,17,18,19,20,21,22,23,24,25]
   refine wn hK ?_;clear hK K
   refine wp_seq_k fun K hK=>?_
   refine wp_reg fun K hK=>?_
   refine S.m rfl (S.g 2 rfl) rfl fun a w G S=>?_
   refine S.s (OpR.lenA S.ok rfl Tryz.underlying55 (S.e 0 rfl) MT.self) rfl fun a w G S=>?_
   refine S.s (τ:=IT (((((words x).length + 1) - vs.length : Nat) : Int) - ((1 : Nat) : Int))) (OpR.isub S.ok rfl (S.e 0 rfl) (rfl : _ = nv .i64 1) (iw_i64 (by omega) (by omega))) rfl fun a w G S=>?_
   refine S.q rfl (S.g 0 rfl) rfl fun a w G S=>?_
   refine wn hK ?_;clear hK K
   replace S:=S.d3.d2.d1
   refine wp_block ?_
   replace S:=S.also (t:=14) (τ:=IT (((((words x).length + 1 - vs.length) : Nat) : Int) - ((1 : Nat) : Int))) ((S.e 0 rfl).trans (iv_eq (by first | rfl | omega | (simp only [Nat.zero_add,Nat.add_zero];done) | (simp;done) | (push_cast;omega))))
   replace S:=S.castBox (τ':=MT.ex (Value.agg (ucells ((List.replicate (((words x).length + 1) - vs.length) 0))).toArray)) 0 rfl fun _ h _=>Eq.trans h (congrArg (fun l=>Value.agg (ucells l).toArray) (by simp))
   replace S:=S.n0
   have hV0 : 0 < val vs:=by rw [hvv];exact Nat.mul_pos (Nat.pos_of_ne_zero hy) (Nat.pow_pos (by decide))
   refine wp_loopJ (fun μ a w=>∃ (k : Nat) (l : List Nat) (qq : List Nat) (G : Gh),μ = k ∧ (k ≤ (words x).length + 1 - vs.length) ∧ (l.length = (words x).length + 1) ∧ (wfl l) ∧ (qq.length = (words x).length + 1 - vs.length) ∧ (wfl qq) ∧ (val l < val vs * 4294967296 ^ k) ∧ (val l + val vs * (4294967296 ^ k * val (qq.drop k)) = x * 2 ^ s) ∧  St W0 G0 158 [(14,IT (((k : Nat) : Int) - ((1 : Nat) : Int))),(13,MT.ex (nv .u64 (dig (vs) (vs.length - 2)))),(12,MT.ex (nv .u64 (dig (vs) (vs.length - 1)))),(11,MT.ex (Value.slice (some ⟨b61,0,none⟩) (((words x).length + 1) - vs.length) (((words x).length + 1) - vs.length))),(9,SL vs),(10,MT.ex (Value.slice (some ⟨b55,0,none⟩) ((words x).length + 1) ((words x).length + 1))),(8,NT s),(27,BT (decide (((words (y)).length) = 1))),(22,BT (decide ((cmpN x y) < 0))),(5,MT.ex (Value.slice none 0 0)),(4,MT.ex (Value.slice none 0 0)),(1,SN nb y),(0,SN na x)] [⟨b61,99,some (((words x).length + 1) - vs.length),MT.ex (Value.agg (ucells (qq)).toArray)⟩,⟨b55,99,some ((words x).length + 1),MT.ex (Value.agg (ucells (l)).toArray)⟩] a w G) (((words x).length + 1 - vs.length)) ⟨((words x).length + 1 - vs.length),us,List.replicate (((words x).length + 1) - vs.length) 0,_,rfl,(Nat.le_refl _),hul,huw,(by simp),(wfl_replicate _),(div_start hs32 huv hvv hy hll hvL),(by rw [List.drop_of_length_le (by simp)];simpa [val] using huv),(S.keep [0,2,3,4,5,6,7,8,9,10,11,12,13]).keepB [0,1] (by decide)⟩ ?_
   clear S
   intro μ a w ⟨k,l,qq,G,hm,hk,hl,hlw,hqq,hqw,hlt,hinv,S⟩
   refine wp_seq_k fun K hK=>?_
   refine wp_reg fun K hK=>?_
   refine S.m rfl (S.g 0 rfl) rfl fun a w G S=>?_
   refine S.s (OpR.igeq S.ok rfl (S.e 0 rfl) (rfl : _ = nv .i64 0) MT.self) rfl fun a w G S=>?_
   refine wn hK ?_;clear hK K
   replace S:=S.d1
   refine S.cond 0 rfl (fun hc7=>?_) (fun hc7=>?_)
   ·
    have hp8:=of_decide_eq_true hc7
    have hk1 : 1 ≤ k:=by omega
    have hlt2:=lt_step hk1 hlt
    have hinv2:=inv_step hk1 hinv
    have hDG:=mkDG (j:=k - 1) (by omega) hvw hvt hlw hlt2
    have hu0:=dig_lt hlw (k - 1 + vs.length)
    have hu1:=dig_lt hlw (k - 1 + (vs.length - 1))
    have hu2:=dig_lt hlw (k - 1 + (vs.length - 2))
    refine wp_skip ?_
    refine hK _ _ ?_;clear hK K
    refine wp_seq_k fun K hK=>?_
    refine wp_block ?_
    refine wp_reg fun K hK=>?_
    refine S.m rfl (S.g 6 rfl) rfl fun a w G S=>?_
    refine S.m rfl (S.g 2 rfl) rfl fun a w G S=>?_
    refine S.m rfl (S.g 3 rfl) rfl fun a w G S=>?_
    refine S.m rfl (S.g 8 rfl) rfl fun a w G S=>?_
    refine S.s (OpR.lenL S.ok rfl Tryz.underlying55 (S.g 0 rfl) MT.self) rfl fun a w G S=>?_
    refine S.s (τ:=IT ((((k : Nat) : Int) - ((1 : Nat) : Int)) + ((vs.length : Nat) : Int))) (OpR.iadd S.ok rfl (S.e 2 rfl) (S.e 0 rfl) (iw_i64 (by omega) (by omega))) rfl fun a w G S=>?_
    refine S.s (τ:=IT (((((k : Nat) : Int) - ((1 : Nat) : Int)) + ((vs.length : Nat) : Int)) + 1)) (OpR.iadd S.ok rfl (S.e 0 rfl) (rfl : _ = nv .i64 1) (iw_i64 (by omega) (by omega))) rfl fun a w G S=>?_
    refine S.s (τ:=MT.ex (Value.slice (some ⟨b55,k - 1,none⟩) (vs.length + 1) ((words x).length + 1 - (k - 1)))) (OpR.cutX (lo:=k - 1) (hi:=k - 1 + (vs.length + 1)) S.ok rfl Tryz.underlying55 tS_99 (S.e 6 rfl) (S.e 5 rfl) (S.e 0 rfl) (by omega) (by omega) (by omega) (by omega) (by omega) (xsl_eq rfl (by omega) rfl)) rfl fun a w G S=>?_
    refine S.q rfl (S.g 0 rfl) rfl fun a w G S=>?_
    refine wn hK ?_;clear hK K
    replace S:=S.d8.d7.d6.d5.d4.d3.d2.d1
    refine wp_seq_k fun K hK=>?_
    refine S.drawn [⟨91,.g (MT.ex (Value.slice (some ⟨b55,k - 1,none⟩) (vs.length + 1) ((words x).length + 1 - (k - 1)))),[]⟩,⟨92,.g (SL vs),[]⟩,⟨93,.g (NT vs.length),[1]⟩,⟨94,.g (MT.ex (Value.pointer (some ⟨b55,k - 1 + vs.length,none⟩))),[0,2]⟩,⟨95,.g (MT.ex (nv .u32 (dig (l) (k - 1 + vs.length)))),[3]⟩,⟨96,.g (MT.ex (nv .u64 (dig (l) (k - 1 + vs.length)))),[4]⟩,⟨97,.g (MT.ex (nv .u64 ((dig (l) (k - 1 + vs.length)) * 2 ^ 32))),[5]⟩,⟨98,.g (MT.ex (Value.slice (some ⟨b55,k - 1,none⟩) (vs.length + 1) ((words x).length + 1 - (k - 1)))),[]⟩,⟨99,.g (SL vs),[]⟩,⟨100,.g (NT vs.length),[8]⟩,⟨101,.g (IT (((vs.length : Nat) : Int) - ((1 : Nat) : Int))),[9]⟩,⟨102,.g (MT.ex (Value.pointer (some ⟨b55,k - 1 + (vs.length - 1),none⟩))),[7,10]⟩,⟨103,.g (MT.ex (nv .u32 (dig (l) (k - 1 + (vs.length - 1))))),[11]⟩,⟨104,.g (MT.ex (nv .u64 (dig (l) (k - 1 + (vs.length - 1))))),[12]⟩,⟨105,.g (MT.ex (nv .u64 (dig l (k - 1 + vs.length) * 4294967296 + dig l (k - 1 + (vs.length - 1))))),[6,13]⟩,⟨16,.g (MT.ex (nv .u64 (dig l (k - 1 + vs.length) * 4294967296 + dig l (k - 1 + (vs.length - 1))))),[14]⟩] mixedOrders (by kernel_rfl)
     ⟨fun a w G S=>.of rfl (OpR.mv S.ok rfl (S.g 0 rfl)),
      fun a w G S=>.of rfl (OpR.mv S.ok rfl (S.g 6 rfl)),
      fun a w G S=>.of rfl (OpR.lenL S.ok rfl Tryz.underlying55 (S.g 0 rfl) MT.self),
      fun a w G S=>.of rfl (OpR.ixA (i:=vs.length) S.ok rfl Tryz.underlying55 tS_99 (S.e 0 rfl) (S.e 1 rfl) rfl (by first | omega | (simp;omega)) (ptr_eq (by simp only [Option.getD_none] <;> omega))),
      fun a w G S=>.of rfl (OpR.ldElem S.ok rfl (S.e 0 rfl) (S.box 1 rfl) tS_99 (dig_get (by first | omega | (simp;omega)))),
      fun a w G S=>.of rfl (OpR.nconv S.ok rfl (S.e 0 rfl) it_99 it_139 (wr_u64 (by omega)) MT.self),
      fun a w G S=>.of rfl (OpR.nshl S.ok rfl (S.e 0 rfl) (rfl : _ = nv .u64 32) (by decide) (wr_u64 (by omega)) MT.self),
      fun a w G S=>.of rfl (OpR.mv S.ok rfl (S.g 0 rfl)),
      fun a w G S=>.of rfl (OpR.mv S.ok rfl (S.g 6 rfl)),
      fun a w G S=>.of rfl (OpR.lenL S.ok rfl Tryz.underlying55 (S.g 0 rfl) MT.self),
      fun a w G S=>.of rfl (OpR.isub S.ok rfl (S.e 0 rfl) (rfl : _ = nv .i64 1) (iw_i64 (by omega) (by omega))),
      fun a w G S=>.of rfl (OpR.ixA (i:=vs.length - 1) S.ok rfl Tryz.underlying55 tS_99 (S.e 0 rfl) (S.e 1 rfl) (by omega) (by first | omega | (simp;omega)) (ptr_eq (by simp only [Option.getD_none] <;> omega))),
      fun a w G S=>.of rfl (OpR.ldElem S.ok rfl (S.e 0 rfl) (S.box 1 rfl) tS_99 (dig_get (by first | omega | (simp;omega)))),
      fun a w G S=>.of rfl (OpR.nconv S.ok rfl (S.e 0 rfl) it_99 it_139 (wr_u64 (by omega)) MT.self),
      fun a w G S=>.of rfl (OpR.nor S.ok rfl (S.e 0 rfl) (S.e 1 rfl) (by omega) (by omega) (nv_eq (shl_or hu1))),
      fun a w G S=>.of rfl (OpR.asn S.ok rfl (S.g 0 rfl)),trivial⟩ fun β a w G S=>?_
    replace S : St W0 G0 158 [(16,MT.ex (nv .u64 (dig l (k - 1 + vs.length) * 4294967296 + dig l (k - 1 + (vs.length - 1))))),(15,MT.ex (Value.slice (some ⟨b55,k - 1,none⟩) (vs.length + 1) ((words x).length + 1 - (k - 1)))),(80,BT (decide ((((k : Nat) : Int) - ((1 : Nat) : Int)) ≥ 0))),(14,IT (((k : Nat) : Int) - ((1 : Nat) : Int))),(13,MT.ex (nv .u64 (dig (vs) (vs.length - 2)))),(12,MT.ex (nv .u64 (dig (vs) (vs.length - 1)))),(11,MT.ex (Value.slice (some ⟨b61,0,none⟩) (((words x).length + 1) - vs.length) (((words x).length + 1) - vs.length))),(9,SL vs),(10,MT.ex (Value.slice (some ⟨b55,0,none⟩) ((words x).length + 1) ((words x).length + 1))),(8,NT s),(27,BT (decide (((words (y)).length) = 1))),(22,BT (decide ((cmpN x y) < 0))),(5,MT.ex (Value.slice none 0 0)),(4,MT.ex (Value.slice none 0 0)),(1,SN nb y),(0,SN na x)] [⟨b61,99,some (((words x).length + 1) - vs.length),MT.ex (Value.agg (ucells (qq)).toArray)⟩,⟨b55,99,some ((words x).length + 1),MT.ex (Value.agg (ucells (l)).toArray)⟩] a _ _:=S.keep [0,16,17,18,19,20,21,22,23,24,25,26,27,28,29,30]
    refine wn hK ?_;clear hK K
    refine wp_seq_k fun K hK=>?_
    refine S.drawn [⟨106,.g (MT.ex (nv .u64 (dig l (k - 1 + vs.length) * 4294967296 + dig l (k - 1 + (vs.length - 1))))),[]⟩,⟨107,.g (MT.ex (nv .u64 (dig (vs) (vs.length - 1)))),[]⟩,⟨108,.g (MT.ex (nv .u64 ((dig l (k - 1 + vs.length) * 4294967296 + dig l (k - 1 + (vs.length - 1))) / (dig (vs) (vs.length - 1))))),[0,1]⟩,⟨109,.g (MT.ex (nv .u64 (dig l (k - 1 + vs.length) * 4294967296 + dig l (k - 1 + (vs.length - 1))))),[]⟩,⟨110,.g (MT.ex (nv .u64 (dig (vs) (vs.length - 1)))),[]⟩,⟨111,.g (MT.ex (nv .u64 ((dig l (k - 1 + vs.length) * 4294967296 + dig l (k - 1 + (vs.length - 1))) % (dig (vs) (vs.length - 1))))),[3,4]⟩,⟨17,.g (MT.ex (nv .u64 ((dig l (k - 1 + vs.length) * 4294967296 + dig l (k - 1 + (vs.length - 1))) / (dig (vs) (vs.length - 1))))),[2]⟩,⟨18,.g (MT.ex (nv .u64 ((dig l (k - 1 + vs.length) * 4294967296 + dig l (k - 1 + (vs.length - 1))) % (dig (vs) (vs.length - 1))))),[5]⟩] mixedOrders (by kernel_rfl)
     ⟨fun a w G S=>.of rfl (OpR.mv S.ok rfl (S.g 0 rfl)),
      fun a w G S=>.of rfl (OpR.mv S.ok rfl (S.g 5 rfl)),
      fun a w G S=>.of rfl (OpR.nquo S.ok rfl (S.e 0 rfl) (S.e 1 rfl) (by omega) (wr_u64 (Nat.lt_of_le_of_lt (Nat.div_le_self _ _) (by omega))) MT.self),
      fun a w G S=>.of rfl (OpR.mv S.ok rfl (S.g 0 rfl)),
      fun a w G S=>.of rfl (OpR.mv S.ok rfl (S.g 5 rfl)),
      fun a w G S=>.of rfl (OpR.nrem S.ok rfl (S.e 0 rfl) (S.e 1 rfl) (by omega) MT.self),
      fun a w G S=>.of rfl (OpR.asn S.ok rfl (S.g 0 rfl)),
      fun a w G S=>.of rfl (OpR.asn S.ok rfl (S.g 0 rfl)),trivial⟩ fun β a w G S=>?_
    replace S : St W0 G0 158 [(18,MT.ex (nv .u64 ((dig l (k - 1 + vs.length) * 4294967296 + dig l (k - 1 + (vs.length - 1))) % (dig (vs) (vs.length - 1))))),(17,MT.ex (nv .u64 ((dig l (k - 1 + vs.length) * 4294967296 + dig l (k - 1 + (vs.length - 1))) / (dig (vs) (vs.length - 1))))),(15,MT.ex (Value.slice (some ⟨b55,k - 1,none⟩) (vs.length + 1) ((words x).length + 1 - (k - 1)))),(80,BT (decide ((((k : Nat) : Int) - ((1 : Nat) : Int)) ≥ 0))),(14,IT (((k : Nat) : Int) - ((1 : Nat) : Int))),(13,MT.ex (nv .u64 (dig (vs) (vs.length - 2)))),(12,MT.ex (nv .u64 (dig (vs) (vs.length - 1)))),(11,MT.ex (Value.slice (some ⟨b61,0,none⟩) (((words x).length + 1) - vs.length) (((words x).length + 1) - vs.length))),(9,SL vs),(10,MT.ex (Value.slice (some ⟨b55,0,none⟩) ((words x).length + 1) ((words x).length + 1))),(8,NT s),(27,BT (decide (((words (y)).length) = 1))),(22,BT (decide ((cmpN x y) < 0))),(5,MT.ex (Value.slice none 0 0)),(4,MT.ex (Value.slice none 0 0)),(1,SN nb y),(0,SN na x)] [⟨b61,99,some (((words x).length + 1) - vs.length),MT.ex (Value.agg (ucells (qq)).toArray)⟩,⟨b55,99,some ((words x).length + 1),MT.ex (Value.agg (ucells (l)).toArray)⟩] a _ _:=S.keep [0,1,9,10,11,12,13,14,15,16,17,18,19,20,21,22,23]
    refine wn hK ?_;clear hK K
    refine wp_seq_k fun K hK=>?_
    refine wp_block ?_
    replace S:=S.also (t:=18) (τ:=MT.ex (nv .u64 (((dig l (k - 1 + vs.length) * 4294967296 + dig l (k - 1 + (vs.length - 1))) % (dig (vs) (vs.length - 1)))))) ((S.e 0 rfl).trans (nv_eq (by first | rfl | omega | (simp only [Nat.zero_add,Nat.add_zero];done) | (simp;done) | (push_cast;omega))))
    replace S:=S.also (t:=17) (τ:=MT.ex (nv .u64 (((dig l (k - 1 + vs.length) * 4294967296 + dig l (k - 1 + (vs.length - 1))) / (dig (vs) (vs.length - 1)))))) ((S.e 2 rfl).trans (nv_eq (by first | rfl | omega | (simp only [Nat.zero_add,Nat.add_zero];done) | (simp;done) | (push_cast;omega))))
    refine wp_loopJ (fun μ a w=>∃ (g : Nat) (r : Nat) (G : Gh),μ = g ∧ (g * dig vs (vs.length - 1) + r = dig l (k - 1 + vs.length) * 4294967296 + dig l (k - 1 + (vs.length - 1))) ∧ (val ((l.drop (k - 1)).take (vs.length + 1)) / val vs ≤ g) ∧  St W0 G0 158 [(18,MT.ex (nv .u64 (r))),(17,MT.ex (nv .u64 (g))),(15,MT.ex (Value.slice (some ⟨b55,k - 1,none⟩) (vs.length + 1) ((words x).length + 1 - (k - 1)))),(80,BT (decide ((((k : Nat) : Int) - ((1 : Nat) : Int)) ≥ 0))),(14,IT (((k : Nat) : Int) - ((1 : Nat) : Int))),(13,MT.ex (nv .u64 (dig (vs) (vs.length - 2)))),(12,MT.ex (nv .u64 (dig (vs) (vs.length - 1)))),(11,MT.ex (Value.slice (some ⟨b61,0,none⟩) (((words x).length + 1) - vs.length) (((words x).length + 1) - vs.length))),(9,SL vs),(10,MT.ex (Value.slice (some ⟨b55,0,none⟩) ((words x).length + 1) ((words x).length + 1))),(8,NT s),(27,BT (decide (((words (y)).length) = 1))),(22,BT (decide ((cmpN x y) < 0))),(5,MT.ex (Value.slice none 0 0)),(4,MT.ex (Value.slice none 0 0)),(1,SN nb y),(0,SN na x)] [⟨b61,99,some (((words x).length + 1) - vs.length),MT.ex (Value.agg (ucells (qq)).toArray)⟩,⟨b55,99,some ((words x).length + 1),MT.ex (Value.agg (ucells (l)).toArray)⟩] a w G) (((dig l (k - 1 + vs.length) * 4294967296 + dig l (k - 1 + (vs.length - 1))) / (dig (vs) (vs.length - 1)))) ⟨(dig l (k - 1 + vs.length) * 4294967296 + dig l (k - 1 + (vs.length - 1))) / (dig (vs) (vs.length - 1)),(dig l (k - 1 + vs.length) * 4294967296 + dig l (k - 1 + (vs.length - 1))) % (dig (vs) (vs.length - 1)),_,rfl,(Nat.div_add_mod' _ _),hDG.init,(S.keep [1,0,4,5,6,7,8,9,10,11,12,13,14,15,16,17,18]).keepB [0,1] (by decide)⟩ ?_
    clear S
    intro μ a w ⟨g,r,G,hm,hgr,hgU,S⟩
    have hgb:=dg_bound hgr (by omega) hu0 hu1
    refine wp_seq_k fun K hK=>?_
    refine wp_reg fun K hK=>?_
    refine S.m rfl (S.g 0 rfl) rfl fun a w G S=>?_
    refine S.s (OpR.nlss S.ok rfl (S.e 0 rfl) (rfl : _ = nv .u64 4294967296) MT.self) rfl fun a w G S=>?_
    refine S.m rfl (S.g 0 rfl) rfl fun a w G S=>?_
    rcases Bool.eq_false_or_eq_true (decide (r < 4294967296)) with hc9 | hc9
    ·
     have hp10:=of_decide_eq_true hc9
     replace S:=S.boolIs 0 rfl hc9
     refine S.stepG 0 (OpR.mv S.ok rfl (S.g 5 rfl)) rfl rfl rfl rfl rfl rfl fun a w G S=>?_
     refine S.stepG 1 (OpR.ngeq S.ok rfl (S.e 0 rfl) (rfl : _ = nv .u64 4294967296) MT.self) rfl rfl rfl rfl rfl rfl fun a w G S=>?_
     refine S.stepG 2 (OpR.mv S.ok rfl (S.g 0 rfl)) rfl rfl rfl rfl rfl rfl fun a w G S=>?_
     rcases Bool.eq_false_or_eq_true (decide (4294967296 ≤ g)) with hc11 | hc11
     ·
      have hp12:=of_decide_eq_true hc11
      replace S:=S.boolIs 0 rfl hc11
      refine S.skipG 0 rfl rfl rfl rfl rfl rfl fun a w G S=>?_
      refine S.skipG 1 rfl rfl rfl rfl rfl rfl fun a w G S=>?_
      refine S.skipG 2 rfl rfl rfl rfl rfl rfl fun a w G S=>?_
      refine S.skipG 3 rfl rfl rfl rfl rfl rfl fun a w G S=>?_
      refine S.skipG 4 rfl rfl rfl rfl rfl rfl fun a w G S=>?_
      refine S.skipG 5 rfl rfl rfl rfl rfl rfl fun a w G S=>?_
      refine S.skipG 6 rfl rfl rfl rfl rfl rfl fun a w G S=>?_
      refine S.skipG 7 rfl rfl rfl rfl rfl rfl fun a w G S=>?_
      refine S.skipG 8 rfl rfl rfl rfl rfl rfl fun a w G S=>?_
      refine S.skipG 9 rfl rfl rfl rfl rfl rfl fun a w G S=>?_
      refine S.skipG 10 rfl rfl rfl rfl rfl rfl fun a w G S=>?_
      refine S.skipG 11 rfl rfl rfl rfl rfl rfl fun a w G S=>?_
      refine S.skipG 12 rfl rfl rfl rfl rfl rfl fun a w G S=>?_
      refine S.skipG 13 rfl rfl rfl rfl rfl rfl fun a w G S=>?_
      refine S.stepG (τ:=BT true) 18 (OpR.pick S.ok rfl (S.e 14 rfl) rfl) rfl rfl rfl rfl rfl rfl fun a w G S=>?_
      refine S.s (τ:=BT true) (OpR.pick S.ok rfl (S.e 19 rfl) (S.g 0 rfl)) rfl fun a w G S=>?_
      refine wn hK ?_;clear hK K
      replace S:=S.d23.d22.d21.d20.d19.d18.d17.d16.d15.d14.d13.d12.d11.d10.d9.d8.d7.d6.d5.d4.d3.d2.d1
      refine wp_cond_true (S.e 0 rfl) ?_
      refine wp_skip ?_
      refine hK _ _ ?_;clear hK K
      refine wp_block ?_
      refine wp_reg fun K hK=>?_
      have hst:=DG.step hDG hgr (by omega) hgU
      refine S.m rfl (S.g 2 rfl) rfl fun a w G S=>?_
      refine S.s (OpR.nsub S.ok rfl (S.e 0 rfl) (rfl : _ = nv .u64 1) (by omega) (wr_u64 (by omega)) MT.self) rfl fun a w G S=>?_
      replace S:=S.d4
      refine S.q rfl (S.g 0 rfl) rfl fun a w G S=>?_
      refine wn hK ?_;clear hK K
      replace S:=S.d2.d1
      refine wp_region_lit ?_
      refine S.m rfl (S.g 2 rfl) rfl fun a w G S=>?_
      refine S.m rfl (S.g 8 rfl) rfl fun a w G S=>?_
      refine S.s (OpR.nadd S.ok rfl (S.e 1 rfl) (S.e 0 rfl) (wr_u64 (by omega)) MT.self) rfl fun a w G S=>?_
      replace S:=S.d5
      refine S.q rfl (S.g 0 rfl) rfl fun a w G S=>?_
      refine wpList_nil ?_
      replace S:=S.d3.d2.d1
      replace S:=S.also (t:=18) (τ:=MT.ex (nv .u64 ((r + (dig (vs) (vs.length - 1)))))) ((S.e 0 rfl).trans (nv_eq (by first | rfl | omega | (simp only [Nat.zero_add,Nat.add_zero];done) | (simp;done) | (push_cast;omega))))
      replace S:=S.also (t:=17) (τ:=MT.ex (nv .u64 ((g - 1)))) ((S.e 2 rfl).trans (nv_eq (by first | rfl | omega | (simp only [Nat.zero_add,Nat.add_zero];done) | (simp;done) | (push_cast;omega))))
      exact ⟨(g - 1),(by have:=hst.2;omega),g - 1,r + (dig (vs) (vs.length - 1)),_,rfl,(dg_next hst.2 hgr),hst.1,(S.keep [1,0,5,6,7,8,9,10,11,12,13,14,15,16,17,18,19]).keepB [0,1] (by decide)⟩
     ·
      have hp13:=of_decide_eq_false hc11
      replace S:=S.boolIs 0 rfl hc11
      refine S.stepG 0 (OpR.mv S.ok rfl (S.g 9 rfl)) rfl rfl rfl rfl rfl rfl fun a w G S=>?_
      refine S.stepG 1 (OpR.mv S.ok rfl (S.g 14 rfl)) rfl rfl rfl rfl rfl rfl fun a w G S=>?_
      refine S.stepG 2 (OpR.nmul S.ok rfl (S.e 1 rfl) (S.e 0 rfl) (wr_u64 (mul32_lt (by omega) hd1)) MT.self) rfl rfl rfl rfl rfl rfl fun a w G S=>?_
      refine S.stepG 3 (OpR.mv S.ok rfl (S.g 11 rfl)) rfl rfl rfl rfl rfl rfl fun a w G S=>?_
      refine S.stepG 4 (OpR.nshl S.ok rfl (S.e 0 rfl) (rfl : _ = nv .u64 32) (by decide) (wr_u64 (by omega)) MT.self) rfl rfl rfl rfl rfl rfl fun a w G S=>?_
      refine S.stepG 5 (OpR.mv S.ok rfl (S.g 15 rfl)) rfl rfl rfl rfl rfl rfl fun a w G S=>?_
      refine S.stepG 6 (OpR.mv S.ok rfl (S.g 22 rfl)) rfl rfl rfl rfl rfl rfl fun a w G S=>?_
      refine S.stepG 7 (OpR.lenL S.ok rfl Tryz.underlying55 (S.g 0 rfl) MT.self) rfl rfl rfl rfl rfl rfl fun a w G S=>?_
      refine S.stepG (τ:=IT (((vs.length : Nat) : Int) - ((2 : Nat) : Int))) 8 (OpR.isub S.ok rfl (S.e 0 rfl) (rfl : _ = nv .i64 2) (iw_i64 (by omega) (by omega))) rfl rfl rfl rfl rfl rfl fun a w G S=>?_
      refine S.stepG (τ:=MT.ex (Value.pointer (some ⟨b55,k - 1 + (vs.length - 2),none⟩))) 9 (OpR.ixA (i:=vs.length - 2) S.ok rfl Tryz.underlying55 tS_99 (S.e 3 rfl) (S.e 0 rfl) (by omega) (by first | omega | (simp;omega)) (ptr_eq (by simp only [Option.getD_none] <;> omega))) rfl rfl rfl rfl rfl rfl fun a w G S=>?_
      refine S.stepG 10 (OpR.ldElem S.ok rfl (S.e 0 rfl) (S.box 1 rfl) tS_99 (dig_get (by first | omega | (simp;omega)))) rfl rfl rfl rfl rfl rfl fun a w G S=>?_
      refine S.stepG 11 (OpR.nconv S.ok rfl (S.e 0 rfl) it_99 it_139 (wr_u64 (by omega)) MT.self) rfl rfl rfl rfl rfl rfl fun a w G S=>?_
      refine S.stepG (τ:=MT.ex (nv .u64 (r * 4294967296 + dig l (k - 1 + (vs.length - 2))))) 12 (OpR.nor S.ok rfl (S.e 7 rfl) (S.e 0 rfl) (by omega) (by omega) (nv_eq (shl_or hu2))) rfl rfl rfl rfl rfl rfl fun a w G S=>?_
      refine S.stepG 13 (OpR.ngtr S.ok rfl (S.e 10 rfl) (S.e 0 rfl) MT.self) rfl rfl rfl rfl rfl rfl fun a w G S=>?_
      refine S.stepG (τ:=BT (decide ((r * 4294967296 + dig l (k - 1 + (vs.length - 2))) < (g * (dig (vs) (vs.length - 2)))))) 18 (OpR.pick S.ok rfl (S.e 14 rfl) (S.g 0 rfl)) rfl rfl rfl rfl rfl rfl fun a w G S=>?_
      refine S.s (τ:=BT (decide ((r * 4294967296 + dig l (k - 1 + (vs.length - 2))) < (g * (dig (vs) (vs.length - 2)))))) (OpR.pick S.ok rfl (S.e 19 rfl) (S.g 0 rfl)) rfl fun a w G S=>?_
      refine wn hK ?_;clear hK K
      replace S:=S.d23.d22.d21.d20.d19.d18.d17.d16.d15.d14.d13.d12.d11.d10.d9.d8.d7.d6.d5.d4.d3.d2.d1
      refine S.cond 0 rfl (fun hc14=>?_) (fun hc14=>?_)
      ·
       have hp15:=of_decide_eq_true hc14
       refine wp_skip ?_
       refine hK _ _ ?_;clear hK K
       refine wp_block ?_
       refine wp_reg fun K hK=>?_
       have hst:=DG.step hDG hgr (by omega) hgU
       refine S.m rfl (S.g 2 rfl) rfl fun a w G S=>?_
       refine S.s (OpR.nsub S.ok rfl (S.e 0 rfl) (rfl : _ = nv .u64 1) (by omega) (wr_u64 (by omega)) MT.self) rfl fun a w G S=>?_
       replace S:=S.d4
       refine S.q rfl (S.g 0 rfl) rfl fun a w G S=>?_
       refine wn hK ?_;clear hK K
       replace S:=S.d2.d1
       refine wp_region_lit ?_
       refine S.m rfl (S.g 2 rfl) rfl fun a w G S=>?_
       refine S.m rfl (S.g 8 rfl) rfl fun a w G S=>?_
       refine S.s (OpR.nadd S.ok rfl (S.e 1 rfl) (S.e 0 rfl) (wr_u64 (by omega)) MT.self) rfl fun a w G S=>?_
       replace S:=S.d5
       refine S.q rfl (S.g 0 rfl) rfl fun a w G S=>?_
       refine wpList_nil ?_
       replace S:=S.d3.d2.d1
       replace S:=S.also (t:=18) (τ:=MT.ex (nv .u64 ((r + (dig (vs) (vs.length - 1)))))) ((S.e 0 rfl).trans (nv_eq (by first | rfl | omega | (simp only [Nat.zero_add,Nat.add_zero];done) | (simp;done) | (push_cast;omega))))
       replace S:=S.also (t:=17) (τ:=MT.ex (nv .u64 ((g - 1)))) ((S.e 2 rfl).trans (nv_eq (by first | rfl | omega | (simp only [Nat.zero_add,Nat.add_zero];done) | (simp;done) | (push_cast;omega))))
       exact ⟨(g - 1),(by have:=hst.2;omega),g - 1,r + (dig (vs) (vs.length - 1)),_,rfl,(dg_next hst.2 hgr),hst.1,(S.keep [1,0,5,6,7,8,9,10,11,12,13,14,15,16,17,18,19]).keepB [0,1] (by decide)⟩
      ·
       have hp16:=of_decide_eq_false hc14
       refine wp_exit (then_exit (then_exit (exit_same ?_)))
       clear hK K
       refine hK _ _ ?_;clear hK K
       refine wp_seq_k fun K hK=>?_
       refine wp_reg fun K hK=>?_
       have hfin:=DG.fin hDG hgr (by omega)
       refine S.m rfl (S.g 3 rfl) rfl fun a w G S=>?_
       refine S.m rfl (S.g 10 rfl) rfl fun a w G S=>?_
       refine S.m rfl (S.g 4 rfl) rfl fun a w G S=>?_
       replace S : St W0 G0 158 [(141,MT.ex (nv .u64 (g))),(140,SL vs),(139,MT.ex (Value.slice (some ⟨b55,k - 1,none⟩) (vs.length + 1) ((words x).length + 1 - (k - 1)))),(133,BT (decide ((r * 4294967296 + dig l (k - 1 + (vs.length - 2))) < (g * (dig (vs) (vs.length - 2)))))),(18,MT.ex (nv .u64 (r))),(17,MT.ex (nv .u64 (g))),(15,MT.ex (Value.slice (some ⟨b55,k - 1,none⟩) (vs.length + 1) ((words x).length + 1 - (k - 1)))),(80,BT (decide ((((k : Nat) : Int) - ((1 : Nat) : Int)) ≥ 0))),(14,IT (((k : Nat) : Int) - ((1 : Nat) : Int))),(13,MT.ex (nv .u64 (dig (vs) (vs.length - 2)))),(12,MT.ex (nv .u64 (dig (vs) (vs.length - 1)))),(11,MT.ex (Value.slice (some ⟨b61,0,none⟩) (((words x).length + 1) - vs.length) (((words x).length + 1) - vs.length))),(9,SL vs),(10,MT.ex (Value.slice (some ⟨b55,0,none⟩) ((words x).length + 1) ((words x).length + 1))),(8,NT s),(27,BT (decide (((words (y)).length) = 1))),(22,BT (decide ((cmpN x y) < 0))),(5,MT.ex (Value.slice none 0 0)),(4,MT.ex (Value.slice none 0 0)),(1,SN nb y),(0,SN na x)] [⟨b55,99,some ((words x).length + 1),MT.ex (Value.agg (ucells (l)).toArray)⟩,⟨b61,99,some (((words x).length + 1) - vs.length),MT.ex (Value.agg (ucells (qq)).toArray)⟩] a _ _:=S.keepB [1,0] (by decide)
       refine S.stepM3 0 rfl rfl rfl c_182 (remove_ok S.world (S.g 2 rfl) (S.g 1 rfl) (S.g 0 rfl) (by omega) (by omega) hlw (by omega) (by simp only [LIM];omega)) rfl rfl fun vR l1 a w G hR hl1 S=>?_
       obtain ⟨hw1,hA1,hB1,C1,c1,hcc,rfl,hv1,hz1⟩:=hR
       have hx1:=seg_lt (i:=k - 1) (n:=vs.length + 1) hw1
       refine wn hK ?_;clear hK K
       replace S:=S.d3.d2.d1
       refine S.cond 0 rfl (fun hc17=>?_) (fun hc17=>?_)
       ·
        have hp18:=of_decide_eq_true hc17
        have hc1:=hp18
        have hgp:=digit_pos hc1 hv1 hx1
        refine wp_reg fun K hK=>?_
        refine S.m rfl (S.g 3 rfl) rfl fun a w G S=>?_
        refine S.s (OpR.nsub S.ok rfl (S.e 0 rfl) (rfl : _ = nv .u64 1) (by omega) (wr_u64 (by omega)) MT.self) rfl fun a w G S=>?_
        replace S:=S.d5
        refine S.q rfl (S.g 0 rfl) rfl fun a w G S=>?_
        refine wn hK ?_;clear hK K
        replace S:=S.d2.d1
        refine wp_region_lit ?_
        refine S.m rfl (S.g 4 rfl) rfl fun a w G S=>?_
        refine S.m rfl (S.g 11 rfl) rfl fun a w G S=>?_
        refine S.stepM2 0 rfl rfl rfl c_183 (back_ok S.world (S.g 1 rfl) (S.g 0 rfl) (by omega) hw1 (by omega) (by simp only [LIM];omega)) rfl rfl fun vR2 l2 a w G hR hl2 S=>?_
        obtain ⟨hw2,hA2,hB2,c2,hcc2,hv2⟩:=hR
        have hx2:=seg_lt (i:=k - 1) (n:=vs.length + 1) hw2
        have hqd:=digit_back rfl hV0 hvw rfl hc1 hz1 hv1 hx1 hx2 hfin.2 hv2 hcc2
        have hds:=div_step hvw hlw hw2 hlt2 hinv2 hV0 (by omega) (hA2.trans hA1) (hB2.trans hB1) hqd.1 (by omega) hqd.2.2
        have hlo:=hl2
        have hwo:=hw2
        refine wpList_nil ?_
        replace S:=S.d2.d1.d0
        refine hK _ _ ?_;clear hK K
        refine wp_region_lit ?_
        refine S.m rfl (S.g 9 rfl) rfl fun a w G S=>?_
        refine S.m rfl (S.g 7 rfl) rfl fun a w G S=>?_
        refine S.m rfl (S.g 2 rfl) rfl fun a w G S=>?_
        refine S.s (OpR.nconv32 S.ok rfl (S.e 0 rfl) it_139 it_99 MT.self) rfl fun a w G S=>?_
        refine S.s (τ:=MT.ex (Value.pointer (some ⟨b61,k - 1,none⟩))) (OpR.ixA (i:=k - 1) S.ok rfl Tryz.underlying55 tS_99 (S.e 3 rfl) (S.e 2 rfl) (by omega) (by first | omega | (simp;omega)) (ptr_eq (by simp only [Option.getD_none] <;> omega))) rfl fun a w G S=>?_
        refine S.setElem 1 (z:=(g - 1) % 4294967296) rfl rfl rfl rfl (S.e 0 rfl) tS_99 (S.e 1 rfl) rfl (by first | omega | (simp;omega)) fun w S=>?_
        replace S:=S.n1
        refine wpList_nil ?_
        replace S:=S.d4.d3.d2.d1.d0
        refine hK _ _ ?_;clear hK K
        refine wp_region_lit ?_
        refine S.m rfl (S.g 6 rfl) rfl fun a w G S=>?_
        refine S.s (τ:=IT ((((k : Nat) : Int) - ((1 : Nat) : Int)) - 1)) (OpR.isub S.ok rfl (S.e 0 rfl) (rfl : _ = nv .i64 1) (iw_i64 (by omega) (by omega))) rfl fun a w G S=>?_
        replace S:=S.d8
        refine S.q rfl (S.g 0 rfl) rfl fun a w G S=>?_
        refine wpList_nil ?_
        replace S:=S.d2.d1
        replace S:=S.also (t:=14) (τ:=IT ((((k - 1) : Nat) : Int) - ((1 : Nat) : Int))) ((S.e 0 rfl).trans (iv_eq (by first | rfl | omega | (simp only [Nat.zero_add,Nat.add_zero];done) | (simp;done) | (push_cast;omega))))
        replace S:=S.castBox (τ':=MT.ex (Value.agg (ucells ((qq.set (k - 1) ((g - 1) % 4294967296)))).toArray)) 1 rfl fun _ h _=>Eq.trans h (congrArg (fun l=>Value.agg (ucells l).toArray) (by simp))
        replace S:=S.n1
        exact ⟨(k - 1),(by omega),(k - 1),l2,qq.set (k - 1) ((g - 1) % 4294967296),_,rfl,(by omega),(by omega),hwo,(by simpa using hqq),(hqw.set (Nat.mod_lt _ (by decide))),hds.2,hds.1,(S.keep [0,8,9,10,11,12,13,14,15,16,17,18,19]).keepB [1,0] (by decide)⟩
       ·
        have hp19:=of_decide_eq_false hc17
        have hqd:=digit_hit rfl hV0 rfl (by omega) hz1 hv1 hgU
        have hds:=div_step hvw hlw hw1 hlt2 hinv2 hV0 (by omega) hA1 hB1 hqd.1 hfin.1 hqd.2
        have hlo:=hl1
        have hwo:=hw1
        refine wp_skip ?_
        refine hK _ _ ?_;clear hK K
        refine wp_region_lit ?_
        refine S.m rfl (S.g 9 rfl) rfl fun a w G S=>?_
        refine S.m rfl (S.g 7 rfl) rfl fun a w G S=>?_
        refine S.m rfl (S.g 5 rfl) rfl fun a w G S=>?_
        refine S.s (OpR.nconv32 S.ok rfl (S.e 0 rfl) it_139 it_99 MT.self) rfl fun a w G S=>?_
        refine S.s (τ:=MT.ex (Value.pointer (some ⟨b61,k - 1,none⟩))) (OpR.ixA (i:=k - 1) S.ok rfl Tryz.underlying55 tS_99 (S.e 3 rfl) (S.e 2 rfl) (by omega) (by first | omega | (simp;omega)) (ptr_eq (by simp only [Option.getD_none] <;> omega))) rfl fun a w G S=>?_
        refine S.setElem 1 (z:=g % 4294967296) rfl rfl rfl rfl (S.e 0 rfl) tS_99 (S.e 1 rfl) rfl (by first | omega | (simp;omega)) fun w S=>?_
        replace S:=S.n1
        refine wpList_nil ?_
        replace S:=S.d4.d3.d2.d1.d0
        refine hK _ _ ?_;clear hK K
        refine wp_region_lit ?_
        refine S.m rfl (S.g 6 rfl) rfl fun a w G S=>?_
        refine S.s (τ:=IT ((((k : Nat) : Int) - ((1 : Nat) : Int)) - 1)) (OpR.isub S.ok rfl (S.e 0 rfl) (rfl : _ = nv .i64 1) (iw_i64 (by omega) (by omega))) rfl fun a w G S=>?_
        replace S:=S.d8
        refine S.q rfl (S.g 0 rfl) rfl fun a w G S=>?_
        refine wpList_nil ?_
        replace S:=S.d2.d1
        replace S:=S.also (t:=14) (τ:=IT ((((k - 1) : Nat) : Int) - ((1 : Nat) : Int))) ((S.e 0 rfl).trans (iv_eq (by first | rfl | omega | (simp only [Nat.zero_add,Nat.add_zero];done) | (simp;done) | (push_cast;omega))))
        replace S:=S.castBox (τ':=MT.ex (Value.agg (ucells ((qq.set (k - 1) (g % 4294967296)))).toArray)) 1 rfl fun _ h _=>Eq.trans h (congrArg (fun l=>Value.agg (ucells l).toArray) (by simp))
        replace S:=S.n1
        exact ⟨(k - 1),(by omega),(k - 1),l1,qq.set (k - 1) (g % 4294967296),_,rfl,(by omega),(by omega),hwo,(by simpa using hqq),(hqw.set (Nat.mod_lt _ (by decide))),hds.2,hds.1,(S.keep [0,8,9,10,11,12,13,14,15,16,17,18,19]).keepB [1,0] (by decide)⟩
    ·
     have hp20:=of_decide_eq_false hc9
     replace S:=S.boolIs 0 rfl hc9
     refine S.skipG 0 rfl rfl rfl rfl rfl rfl fun a w G S=>?_
     refine S.skipG 1 rfl rfl rfl rfl rfl rfl fun a w G S=>?_
     refine S.skipG 2 rfl rfl rfl rfl rfl rfl fun a w G S=>?_
     refine S.skipU 0 rfl rfl rfl rfl rfl rfl fun a w G S=>?_
     refine S.skipU 1 rfl rfl rfl rfl rfl rfl fun a w G S=>?_
     refine S.skipU 2 rfl rfl rfl rfl rfl rfl fun a w G S=>?_
     refine S.skipU 3 rfl rfl rfl rfl rfl rfl fun a w G S=>?_
     refine S.skipU 4 rfl rfl rfl rfl rfl rfl fun a w G S=>?_
     refine S.skipU 5 rfl rfl rfl rfl rfl rfl fun a w G S=>?_
     refine S.skipU 6 rfl rfl rfl rfl rfl rfl fun a w G S=>?_
     refine S.skipU 7 rfl rfl rfl rfl rfl rfl fun a w G S=>?_
     refine S.skipU 8 rfl rfl rfl rfl rfl rfl fun a w G S=>?_
     refine S.skipU 9 rfl rfl rfl rfl rfl rfl fun a w G S=>?_
     refine S.skipU 10 rfl rfl rfl rfl rfl rfl fun a w G S=>?_
     refine S.skipU 11 rfl rfl rfl rfl rfl rfl fun a w G S=>?_
     refine S.skipU 12 rfl rfl rfl rfl rfl rfl fun a w G S=>?_
     refine S.skipU 13 rfl rfl rfl rfl rfl rfl fun a w G S=>?_
     refine S.skipG 17 rfl rfl rfl rfl rfl rfl fun a w G S=>?_
     refine S.s (τ:=BT false) (OpR.pick S.ok rfl (S.e 18 rfl) rfl) rfl fun a w G S=>?_
     refine wn hK ?_;clear hK K
     replace S:=S.d22.d21.d20.d19.d18.d17.d16.d15.d14.d13.d12.d11.d10.d9.d8.d7.d6.d5.d4.d3.d2.d1
     refine wp_cond_false (S.e 0 rfl) ?_
     refine wp_exit (then_exit (then_exit (exit_same ?_)))
     clear hK K
     refine hK _ _ ?_;clear hK K
     refine wp_seq_k fun K hK=>?_
     refine wp_reg fun K hK=>?_
     have hfin:=DG.fin hDG hgr (by omega)
     refine S.m rfl (S.g 3 rfl) rfl fun a w G S=>?_
     refine S.m rfl (S.g 10 rfl) rfl fun a w G S=>?_
     refine S.m rfl (S.g 4 rfl) rfl fun a w G S=>?_
     replace S : St W0 G0 158 [(141,MT.ex (nv .u64 (g))),(140,SL vs),(139,MT.ex (Value.slice (some ⟨b55,k - 1,none⟩) (vs.length + 1) ((words x).length + 1 - (k - 1)))),(133,BT false),(18,MT.ex (nv .u64 (r))),(17,MT.ex (nv .u64 (g))),(15,MT.ex (Value.slice (some ⟨b55,k - 1,none⟩) (vs.length + 1) ((words x).length + 1 - (k - 1)))),(80,BT (decide ((((k : Nat) : Int) - ((1 : Nat) : Int)) ≥ 0))),(14,IT (((k : Nat) : Int) - ((1 : Nat) : Int))),(13,MT.ex (nv .u64 (dig (vs) (vs.length - 2)))),(12,MT.ex (nv .u64 (dig (vs) (vs.length - 1)))),(11,MT.ex (Value.slice (some ⟨b61,0,none⟩) (((words x).length + 1) - vs.length) (((words x).length + 1) - vs.length))),(9,SL vs),(10,MT.ex (Value.slice (some ⟨b55,0,none⟩) ((words x).length + 1) ((words x).length + 1))),(8,NT s),(27,BT (decide (((words (y)).length) = 1))),(22,BT (decide ((cmpN x y) < 0))),(5,MT.ex (Value.slice none 0 0)),(4,MT.ex (Value.slice none 0 0)),(1,SN nb y),(0,SN na x)] [⟨b55,99,some ((words x).length + 1),MT.ex (Value.agg (ucells (l)).toArray)⟩,⟨b61,99,some (((words x).length + 1) - vs.length),MT.ex (Value.agg (ucells (qq)).toArray)⟩] a _ _:=S.keepB [1,0] (by decide)
     refine S.stepM3 0 rfl rfl rfl c_182 (remove_ok S.world (S.g 2 rfl) (S.g 1 rfl) (S.g 0 rfl) (by omega) (by omega) hlw (by omega) (by simp only [LIM];omega)) rfl rfl fun vR l1 a w G hR hl1 S=>?_
     obtain ⟨hw1,hA1,hB1,C1,c1,hcc,rfl,hv1,hz1⟩:=hR
     have hx1:=seg_lt (i:=k - 1) (n:=vs.length + 1) hw1
     refine wn hK ?_;clear hK K
     replace S:=S.d3.d2.d1
     refine S.cond 0 rfl (fun hc21=>?_) (fun hc21=>?_)
     ·
      have hp22:=of_decide_eq_true hc21
      have hc1:=hp22
      have hgp:=digit_pos hc1 hv1 hx1
      refine wp_reg fun K hK=>?_
      refine S.m rfl (S.g 3 rfl) rfl fun a w G S=>?_
      refine S.s (OpR.nsub S.ok rfl (S.e 0 rfl) (rfl : _ = nv .u64 1) (by omega) (wr_u64 (by omega)) MT.self) rfl fun a w G S=>?_
      replace S:=S.d5
      refine S.q rfl (S.g 0 rfl) rfl fun a w G S=>?_
      refine wn hK ?_;clear hK K
      replace S:=S.d2.d1
      refine wp_region_lit ?_
      refine S.m rfl (S.g 4 rfl) rfl fun a w G S=>?_
      refine S.m rfl (S.g 11 rfl) rfl fun a w G S=>?_
      refine S.stepM2 0 rfl rfl rfl c_183 (back_ok S.world (S.g 1 rfl) (S.g 0 rfl) (by omega) hw1 (by omega) (by simp only [LIM];omega)) rfl rfl fun vR2 l2 a w G hR hl2 S=>?_
      obtain ⟨hw2,hA2,hB2,c2,hcc2,hv2⟩:=hR
      have hx2:=seg_lt (i:=k - 1) (n:=vs.length + 1) hw2
      have hqd:=digit_back rfl hV0 hvw rfl hc1 hz1 hv1 hx1 hx2 hfin.2 hv2 hcc2
      have hds:=div_step hvw hlw hw2 hlt2 hinv2 hV0 (by omega) (hA2.trans hA1) (hB2.trans hB1) hqd.1 (by omega) hqd.2.2
      have hlo:=hl2
      have hwo:=hw2
      refine wpList_nil ?_
      replace S:=S.d2.d1.d0
      refine hK _ _ ?_;clear hK K
      refine wp_region_lit ?_
      refine S.m rfl (S.g 9 rfl) rfl fun a w G S=>?_
      refine S.m rfl (S.g 7 rfl) rfl fun a w G S=>?_
      refine S.m rfl (S.g 2 rfl) rfl fun a w G S=>?_
      refine S.s (OpR.nconv32 S.ok rfl (S.e 0 rfl) it_139 it_99 MT.self) rfl fun a w G S=>?_
      refine S.s (τ:=MT.ex (Value.pointer (some ⟨b61,k - 1,none⟩))) (OpR.ixA (i:=k - 1) S.ok rfl Tryz.underlying55 tS_99 (S.e 3 rfl) (S.e 2 rfl) (by omega) (by first | omega | (simp;omega)) (ptr_eq (by simp only [Option.getD_none] <;> omega))) rfl fun a w G S=>?_
      refine S.setElem 1 (z:=(g - 1) % 4294967296) rfl rfl rfl rfl (S.e 0 rfl) tS_99 (S.e 1 rfl) rfl (by first | omega | (simp;omega)) fun w S=>?_
      replace S:=S.n1
      refine wpList_nil ?_
      replace S:=S.d4.d3.d2.d1.d0
      refine hK _ _ ?_;clear hK K
      refine wp_region_lit ?_
      refine S.m rfl (S.g 6 rfl) rfl fun a w G S=>?_
      refine S.s (τ:=IT ((((k : Nat) : Int) - ((1 : Nat) : Int)) - 1)) (OpR.isub S.ok rfl (S.e 0 rfl) (rfl : _ = nv .i64 1) (iw_i64 (by omega) (by omega))) rfl fun a w G S=>?_
      replace S:=S.d8
      refine S.q rfl (S.g 0 rfl) rfl fun a w G S=>?_
      refine wpList_nil ?_
      replace S:=S.d2.d1
      replace S:=S.also (t:=14) (τ:=IT ((((k - 1) : Nat) : Int) - ((1 : Nat) : Int))) ((S.e 0 rfl).trans (iv_eq (by first | rfl | omega | (simp only [Nat.zero_add,Nat.add_zero];done) | (simp;done) | (push_cast;omega))))
      replace S:=S.castBox (τ':=MT.ex (Value.agg (ucells ((qq.set (k - 1) ((g - 1) % 4294967296)))).toArray)) 1 rfl fun _ h _=>Eq.trans h (congrArg (fun l=>Value.agg (ucells l).toArray) (by simp))
      replace S:=S.n1
      exact ⟨(k - 1),(by omega),(k - 1),l2,qq.set (k - 1) ((g - 1) % 4294967296),_,rfl,(by omega),(by omega),hwo,(by simpa using hqq),(hqw.set (Nat.mod_lt _ (by decide))),hds.2,hds.1,(S.keep [0,8,9,10,11,12,13,14,15,16,17,18,19]).keepB [1,0] (by decide)⟩
     ·
      have hp23:=of_decide_eq_false hc21
      have hqd:=digit_hit rfl hV0 rfl (by omega) hz1 hv1 hgU
      have hds:=div_step hvw hlw hw1 hlt2 hinv2 hV0 (by omega) hA1 hB1 hqd.1 hfin.1 hqd.2
      have hlo:=hl1
      have hwo:=hw1
      refine wp_skip ?_
      refine hK _ _ ?_;clear hK K
      refine wp_region_lit ?_
      refine S.m rfl (S.g 9 rfl) rfl fun a w G S=>?_
      refine S.m rfl (S.g 7 rfl) rfl fun a w G S=>?_
      refine S.m rfl (S.g 5 rfl) rfl fun a w G S=>?_
      refine S.s (OpR.nconv32 S.ok rfl (S.e 0 rfl) it_139 it_99 MT.self) rfl fun a w G S=>?_
      refine S.s (τ:=MT.ex (Value.pointer (some ⟨b61,k - 1,none⟩))) (OpR.ixA (i:=k - 1) S.ok rfl Tryz.underlying55 tS_99 (S.e 3 rfl) (S.e 2 rfl) (by omega) (by first | omega | (simp;omega)) (ptr_eq (by simp only [Option.getD_none] <;> omega))) rfl fun a w G S=>?_
      refine S.setElem 1 (z:=g % 4294967296) rfl rfl rfl rfl (S.e 0 rfl) tS_99 (S.e 1 rfl) rfl (by first | omega | (simp;omega)) fun w S=>?_
      replace S:=S.n1
      refine wpList_nil ?_
      replace S:=S.d4.d3.d2.d1.d0
      refine hK _ _ ?_;clear hK K
      refine wp_region_lit ?_
      refine S.m rfl (S.g 6 rfl) rfl fun a w G S=>?_
      refine S.s (τ:=IT ((((k : Nat) : Int) - ((1 : Nat) : Int)) - 1)) (OpR.isub S.ok rfl (S.e 0 rfl) (rfl : _ = nv .i64 1) (iw_i64 (by omega) (by omega))) rfl fun a w G S=>?_
      replace S:=S.d8
      refine S.q rfl (S.g 0 rfl) rfl fun a w G S=>?_
      refine wpList_nil ?_
      replace S:=S.d2.d1
      replace S:=S.also (t:=14) (τ:=IT ((((k - 1) : Nat) : Int) - ((1 : Nat) : Int))) ((S.e 0 rfl).trans (iv_eq (by first | rfl | omega | (simp only [Nat.zero_add,Nat.add_zero];done) | (simp;done) | (push_cast;omega))))
      replace S:=S.castBox (τ':=MT.ex (Value.agg (ucells ((qq.set (k - 1) (g % 4294967296)))).toArray)) 1 rfl fun _ h _=>Eq.trans h (congrArg (fun l=>Value.agg (ucells l).toArray) (by simp))
      replace S:=S.n1
      exact ⟨(k - 1),(by omega),(k - 1),l1,qq.set (k - 1) (g % 4294967296),_,rfl,(by omega),(by omega),hwo,(by simpa using hqq),(hqw.set (Nat.mod_lt _ (by decide))),hds.2,hds.1,(S.keep [0,8,9,10,11,12,13,14,15,16,17,18,19]).keepB [1,0] (by decide)⟩
   ·
    have hp24:=of_decide_eq_false hc7
    refine wp_exit (then_exit (then_exit (exit_same ?_)))
    clear hK K
    refine hK _ _ ?_;clear hK K
    refine wp_reg fun K hK=>?_
    have hk0 : k = 0:=by omega
    have hdf:=div_fin hk0 hvv hlt hinv
    have hub:=div_ub hk0 hvv hlt hs32 hyb
    obtain ⟨vz25,Gz25,hz25,hs25,hg25,hle25,S⟩:=S.freeze 0 rfl
    have hsl25 : (SL (qq)).t (Value.slice (some ⟨b61,0,none⟩) (((words x).length + 1) - vs.length) (((words x).length + 1) - vs.length)) Gz25:=SL_frozen hz25 hg25 ⟨hqq.symm,Nat.le_refl _⟩ (by simp only [LIM];omega) hqw
    replace S:=S.also (t:=11) (τ:=SL (qq)) ((S.e 4 rfl).symm ▸ hsl25)
    replace S : St W0 G0 158 [(11,SL qq),(80,BT (decide ((((k : Nat) : Int) - ((1 : Nat) : Int)) ≥ 0))),(14,IT (((k : Nat) : Int) - ((1 : Nat) : Int))),(13,MT.ex (nv .u64 (dig (vs) (vs.length - 2)))),(12,MT.ex (nv .u64 (dig (vs) (vs.length - 1)))),(9,SL vs),(10,MT.ex (Value.slice (some ⟨b55,0,none⟩) ((words x).length + 1) ((words x).length + 1))),(8,NT s),(27,BT (decide (((words (y)).length) = 1))),(22,BT (decide ((cmpN x y) < 0))),(5,MT.ex (Value.slice none 0 0)),(4,MT.ex (Value.slice none 0 0)),(1,SN nb y),(0,SN na x)] [⟨b55,99,some ((words x).length + 1),MT.ex (Value.agg (ucells (l)).toArray)⟩] a _ _:=S.keep [0,1,2,3,4,6,7,8,9,10,11,12,13,14]
    refine S.m rfl (S.g 0 rfl) rfl fun a w G S=>?_
    refine S.s (τ:=SN na (x / y)) (OpR.call1 rfl c_163 (trim_ok S.ok (SL.asSV (S.g 0 rfl) ⟨hdf.1,hdb⟩))) rfl fun a w G S=>?_
    obtain ⟨vz26,Gz26,hz26,hs26,hg26,hle26,S⟩:=S.freeze 0 rfl
    have hsl26 : (SL (l)).t (Value.slice (some ⟨b55,0,none⟩) ((words x).length + 1) ((words x).length + 1)) Gz26:=SL_frozen hz26 hg26 ⟨hl.symm,Nat.le_refl _⟩ (by simp only [LIM];omega) hlw
    replace S:=S.also (t:=10) (τ:=SL (l)) ((S.e 8 rfl).symm ▸ hsl26)
    replace S : St W0 G0 158 [(10,SL l),(154,SN na (x / y)),(153,SL qq),(11,SL qq),(80,BT (decide ((((k : Nat) : Int) - ((1 : Nat) : Int)) ≥ 0))),(14,IT (((k : Nat) : Int) - ((1 : Nat) : Int))),(13,MT.ex (nv .u64 (dig (vs) (vs.length - 2)))),(12,MT.ex (nv .u64 (dig (vs) (vs.length - 1)))),(9,SL vs),(8,NT s),(27,BT (decide (((words (y)).length) = 1))),(22,BT (decide ((cmpN x y) < 0))),(5,MT.ex (Value.slice none 0 0)),(4,MT.ex (Value.slice none 0 0)),(1,SN nb y),(0,SN na x)] [] a _ _:=S.keep [0,1,2,3,4,5,6,7,8,10,11,12,13,14,15,16]
    refine S.m rfl (S.g 0 rfl) rfl fun a w G S=>?_
    refine S.m rfl (S.g 10 rfl) rfl fun a w G S=>?_
    refine S.s (τ:=SN (nb + 32) ((val l) / 2 ^ s)) (OpR.call2 rfl c_184 (down_ok S.ok (SL.asSV (S.g 1 rfl) ⟨rfl,hub⟩) (S.g 0 rfl) (by omega))) rfl fun a w G S=>?_
    replace S:=S.d16
    refine S.q rfl (S.g 4 rfl) rfl fun a w G S=>?_
    replace S:=S.d16
    refine S.q rfl (S.g 1 rfl) rfl fun a w G S=>?_
    refine wn hK ?_;clear hK K
    replace S:=S.d7.d6.d4.d3.d2
    exact wp_ret (S.retTmp2 rfl (S.g 1 rfl) (SN.cast (S.g 0 rfl) hdf.2 hmb))
end Go.Proofs.YtboicjlbbbodgaaGreatDoor
set_option maxHeartbeats 4000000
set_option maxRecDepth 100000
set_option synthInstance.maxSize 100000
set_option synthInstance.maxHeartbeats 400000
namespace Go.Proofs.YtboicjlbbbodgaaGreatDoor
open Go.RowKit (Below)
attribute [local irreducible] Go.Code.wp Go.wpList Go.bodyPost
private theorem gS_ {W0 : World} {G0 : Gh} {N : Nat} {L : List (Nat × MT)} {B : List BX} {a : Act} {w : World} {G : Gh} {q : Prop} (h : St W0 G0 N L B a w G → q) : St W0 G0 N L B a w G → q:=h
private theorem gL_ {p : Prop} {P : Program} {arr : Array Oper} {Q : Exit → Act → World → Prop} {l : List Oper} {a : Act} {w : World} (h : p → wpList P arr Q l a w) : p → wpList P arr Q l a w:=h
private theorem gC_ {p : Prop} {P : Program} {c : Code} {Q : Exit → Act → World → Prop} {a : Act} {w : World} (h : p → c.wp P Q a w) : p → c.wp P Q a w:=h
theorem LSC.sn1 {v : Value} {G : Gh} (h : (LSC none [MT.ex (.int .u32 1)]).t v G) : (SN 1 1).t v G:=by
  obtain ⟨A,c,h1,h2,h3,h4⟩:=h.1
  refine ⟨by decide,?_⟩
  rw [← words_one]
  refine ⟨A,c,h1,h2,h3,by simp [wfl],fun i x hi=>?_⟩
  match i,hi with
  | 0,hi =>
    cases hi
    obtain ⟨b,off,e,u,g1,g2,_⟩:=h4 0 _ rfl
    cases g2
    rw [Nat.zero_mul,Nat.add_zero] at g1
    exact ⟨b,off,e,g1⟩
  | i + 1,hi=>simp at hi
class NK (τ : MT) (τ' : outParam MT) : Prop where
  h : ∀ {v : Value} {G : Gh},τ.t v G → τ'.t v G
instance (priority:=500) NK.id {τ : MT} : NK τ τ:=⟨fun h=>h⟩
instance NK.one : NK (LSC none [MT.ex (.int .u32 1)]) (SN 1 1):=⟨LSC.sn1⟩
instance {n m : Nat} {τ1 : MT} [j1 : NV τ1 (SV n m)] : Con Tryz.prog 163 [τ1] (True) (SN n m):=.o1 fun hok h1 hp=>trim_ok hok (j1.h h1)
instance {n m x y : Nat} : Con Tryz.prog 141 [SN n x,SN m y] (True) (IT (cmpN x y)):=.o2 fun hok h1 h2 hp=>compare_ok hok h1 h2
instance {n m x y : Nat} {τ2 : MT} [j2 : NK τ2 (SN m y)] : Con Tryz.prog 140 [SN n x,τ2] (n ≤ BIG ∧ m ≤ BIG) (SN (max n m + 1) (x + y)):=.o2 fun hok h1 h2 hp=>plus_ok hok h1 (j2.h h2) hp.1 hp.2
instance {n m x y : Nat} : Con Tryz.prog 142 [SN n x,SN m y] (y ≤ x) (SN n (x - y)):=.o2 fun hok h1 h2 hp=>less_ok hok h1 h2 hp
instance {n m x y : Nat} : Con Tryz.prog 146 [SN n x,SN m y] (n + m ≤ BIG) (SN (n + m) (x * y)):=.o2 fun hok h1 h2 hp=>times_ok hok h1 h2 hp
instance {n m x y : Nat} : Con Tryz.prog 165 [SN n x,SN m y] (n ≤ BIG ∧ m ≤ BIG ∧ y ≠ 0) (MT.tup2 (SN n (x / y)) (SN m (x % y))):=.o2 fun hok h1 h2 hp=>divide_ok hok h1 h2 hp.2.2 hp.1 hp.2.1
theorem w162 {s : Bool} {l : List Nat} : Con Tryz.prog 162 [WR s l] (True) (BT (wok s l)):=.o1 fun hok h1 hp=>by
  refine St.enter (N:=19) Tryz.func162 rfl rfl rfl hok (enter1 h1) fun a=>?_
  have hlim:=WR.lim h1
  simp only [LIM] at hlim
  repeat' (first|((with_reducible refine gS_ ?_);first|((with_reducible refine gL_ ?_);first|refine W.run ?_ fun a w G=>?_|refine W.mv fun a w G=>?_|refine W.asg fun a w G=>?_|refine W.bx fun b a w G=>?_|(refine W.nn hK ?_;clear hK K)|refine W.nl ?_|refine W.ste ?_ fun w=>?_)|((with_reducible refine gC_ ?_);first|refine W.reg fun K hK=>?_|refine W.reg1 ?_|refine W.sq fun K hK=>?_|refine W.sk ?_|refine W.cd (fun hc=>?_) (fun hc=>?_)|refine W.cb (fun hc=>?_) (fun hc=>?_)|refine W.rt ?_)|((with_reducible refine W.kn hK ?_);clear hK K)|with_reducible refine W.tr ?_|with_reducible refine W.br ?_|refine W.rt1 rfl ?_)|clear hK K|clear hu|exact True.intro|exact Nat.le_trans (by clear hp;omega) hp|exact Nat.le_trans (by clear hp;omega) hp.1|exact Nat.le_trans (by clear hp;omega) hp.2|(clear hp;omega)|apply And.intro|refine GI.i fun _=>?_|with_reducible rfl|decide|(simp only [List.length_cons,List.length_nil];omega))
  all_goals first | exact wok_nil (by omega) | (rw [show ((l.length : Int) - 1).toNat = l.length - 1 by omega];exact wok_last (by omega))
instance {s : Bool} {l : List Nat} {τ1 : MT} [j1 : NV τ1 (WR s l)] : Con Tryz.prog 162 [τ1] (True) (BT (wok s l)):=.o1 fun hok h1 hp=>w162.c1 hok (j1.h h1) hp
theorem w138 {n : Nat} {x : Int} : Con Tryz.prog 138 [W n x] (True) (SN n x.natAbs):=.o1 fun hok h1 hp=>by
  obtain ⟨hlt,s,l,hv,h1⟩:=h1
  have hwf:=WR.wf h1
  refine St.enter (N:=8) Tryz.func138 rfl rfl rfl hok (enter1 h1) fun a=>?_
  repeat' (first|((with_reducible refine gS_ ?_);first|((with_reducible refine gL_ ?_);first|refine W.run ?_ fun a w G=>?_|refine W.mv fun a w G=>?_|refine W.asg fun a w G=>?_|refine W.bx fun b a w G=>?_|(refine W.nn hK ?_;clear hK K)|refine W.nl ?_|refine W.ste ?_ fun w=>?_)|((with_reducible refine gC_ ?_);first|refine W.reg fun K hK=>?_|refine W.reg1 ?_|refine W.sq fun K hK=>?_|refine W.sk ?_|refine W.cd (fun hc=>?_) (fun hc=>?_)|refine W.cb (fun hc=>?_) (fun hc=>?_)|refine W.rt ?_)|((with_reducible refine W.kn hK ?_);clear hK K)|with_reducible refine W.tr ?_|with_reducible refine W.br ?_|refine W.rt1 rfl ?_)|clear hK K|clear hu|exact True.intro|exact Nat.le_trans (by clear hp;omega) hp|exact Nat.le_trans (by clear hp;omega) hp.1|exact Nat.le_trans (by clear hp;omega) hp.2|(clear hp;omega)|apply And.intro|refine GI.i fun _=>?_|with_reducible rfl|decide|(simp only [List.length_cons,List.length_nil];omega))
  all_goals first | (rw [not_wok hv (not_true_of hc)];rfl) | exact mag_of hwf hv (not_false_of hc) | exact hlt
instance {n : Nat} {x : Int} {τ1 : MT} [j1 : NW τ1 (W n x)] : Con Tryz.prog 138 [τ1] (True) (SN n x.natAbs):=.o1 fun hok h1 hp=>w138.c1 hok (j1.h h1) hp
theorem w139 {n : Nat} {x : Int} : Con Tryz.prog 139 [W n x] (True) (BT (decide (x < 0))):=.o1 fun hok h1 hp=>by
  obtain ⟨hlt,s,l,hv,h1⟩:=h1
  have hwf:=WR.wf h1
  refine St.enter (N:=9) Tryz.func139 rfl rfl rfl hok (enter1 h1) fun a=>?_
  repeat' (first|((with_reducible refine gS_ ?_);first|((with_reducible refine gL_ ?_);first|refine W.run ?_ fun a w G=>?_|refine W.mv fun a w G=>?_|refine W.asg fun a w G=>?_|refine W.bx fun b a w G=>?_|(refine W.nn hK ?_;clear hK K)|refine W.nl ?_|refine W.ste ?_ fun w=>?_)|((with_reducible refine gC_ ?_);first|refine W.reg fun K hK=>?_|refine W.reg1 ?_|refine W.sq fun K hK=>?_|refine W.sk ?_|refine W.rt ?_)|((with_reducible refine W.kn hK ?_);clear hK K)|with_reducible refine W.tr ?_|with_reducible refine W.br ?_|refine W.rt1 rfl ?_)|clear hK K|clear hu|exact True.intro|exact Nat.le_trans (by clear hp;omega) hp|exact Nat.le_trans (by clear hp;omega) hp.1|exact Nat.le_trans (by clear hp;omega) hp.2|(clear hp;omega)|apply And.intro|refine GI.i fun _=>?_|with_reducible rfl|decide|(simp only [List.length_cons,List.length_nil];omega))
  all_goals (cases hok : wok s l with | true=>simp [neg_of hwf hv hok] | false=>simp [not_wok hv hok])
instance {n : Nat} {x : Int} {τ1 : MT} [j1 : NW τ1 (W n x)] : Con Tryz.prog 139 [τ1] (True) (BT (decide (x < 0))):=.o1 fun hok h1 hp=>w139.c1 hok (j1.h h1) hp
theorem w137 {s : Bool} {n m : Nat} : Con Tryz.prog 137 [BT s,SV n m] (True) (WC n (sg s m)):=.o2 fun hok h1 h2 hp=>by
  refine St.enter (N:=15) Tryz.func137 rfl rfl rfl hok (enter2 h1 h2) fun a=>?_
  repeat' (first|((with_reducible refine gS_ ?_);first|((with_reducible refine gL_ ?_);first|refine W.run ?_ fun a w G=>?_|refine W.mv fun a w G=>?_|refine W.asg fun a w G=>?_|(refine W.nn hK ?_;clear hK K)|refine W.nl ?_|refine W.al fun b a w G=>?_|refine W.st fun w=>?_|refine W.stp fun w=>?_|refine W.ste ?_ fun w=>?_)|((with_reducible refine gC_ ?_);first|refine W.reg fun K hK=>?_|refine W.reg1 ?_|refine W.sq fun K hK=>?_|refine W.sk ?_|refine W.rt ?_)|((with_reducible refine W.kn hK ?_);clear hK K)|with_reducible refine W.tr ?_|with_reducible refine W.br ?_|refine W.rt1 rfl ?_)|clear hK K|clear hu|exact True.intro|exact Nat.le_trans (by clear hp;omega) hp|exact Nat.le_trans (by clear hp;omega) hp.1|exact Nat.le_trans (by clear hp;omega) hp.2|(clear hp;omega)|apply And.intro|refine GI.i fun _=>?_|with_reducible rfl|decide|(simp only [List.length_cons,List.length_nil];omega))
  all_goals first | exact sg_abs.symm | (have:=@len_pos_iff m;cases s <;> simp [sg] <;> grind)
instance {s : Bool} {n m : Nat} {τ2 : MT} [j2 : NV τ2 (SV n m)] : Con Tryz.prog 137 [BT s,τ2] (True) (WC n (sg s m)):=.o2 fun hok h1 h2 hp=>w137.c2 hok h1 (j2.h h2) hp
theorem w98 {n : Nat} {x : Int} : Con Tryz.prog 98 [W n x] (True) (WC n (-x)):=.o1 fun hok h1 hp=>by
  refine St.enter (N:=9) Tryz.func98 rfl rfl rfl hok (enter1 h1) fun a=>?_
  repeat' (first|((with_reducible refine gS_ ?_);first|((with_reducible refine gL_ ?_);first|refine W.run ?_ fun a w G=>?_|refine W.mv fun a w G=>?_|refine W.asg fun a w G=>?_|refine W.bx fun b a w G=>?_|(refine W.nn hK ?_;clear hK K)|refine W.nl ?_|refine W.al fun b a w G=>?_|refine W.st fun w=>?_|refine W.stp fun w=>?_|refine W.ste ?_ fun w=>?_)|((with_reducible refine gC_ ?_);first|refine W.reg fun K hK=>?_|refine W.reg1 ?_|refine W.sq fun K hK=>?_|refine W.ds ?_ (fun β a w G hu=>W.fin ?_ hu) mixedOrders (by kernel_rfl)|refine W.sk ?_|refine W.rt ?_)|((with_reducible refine W.kn hK ?_);clear hK K)|with_reducible refine W.tr ?_|with_reducible refine W.br ?_|refine W.rt1 rfl ?_)|clear hK K|clear hu|exact True.intro|exact Nat.le_trans (by clear hp;omega) hp|exact Nat.le_trans (by clear hp;omega) hp.1|exact Nat.le_trans (by clear hp;omega) hp.2|(clear hp;omega)|apply And.intro|refine GI.i fun _=>?_|with_reducible rfl|decide|(simp only [List.length_cons,List.length_nil];omega))
  all_goals exact neg_sg
instance {n : Nat} {x : Int} {τ1 : MT} [j1 : NW τ1 (W n x)] : Con Tryz.prog 98 [τ1] (True) (WC n (-x)):=.o1 fun hok h1 hp=>w98.c1 hok (j1.h h1) hp
theorem w109 {n : Nat} {x : Int} : Con Tryz.prog 109 [W n x] (True) (IT x.sign):=.o1 fun hok h1 hp=>by
  obtain ⟨hlt,s,l,hv,h1⟩:=h1
  have hwf:=WR.wf h1
  refine St.enter (N:=11) Tryz.func109 rfl rfl rfl hok (enter1 h1) fun a=>?_
  repeat' (first|((with_reducible refine gS_ ?_);first|((with_reducible refine gL_ ?_);first|refine W.run ?_ fun a w G=>?_|refine W.mv fun a w G=>?_|refine W.asg fun a w G=>?_|refine W.bx fun b a w G=>?_|(refine W.nn hK ?_;clear hK K)|refine W.nl ?_|refine W.ste ?_ fun w=>?_)|((with_reducible refine gC_ ?_);first|refine W.reg fun K hK=>?_|refine W.reg1 ?_|refine W.sq fun K hK=>?_|refine W.sk ?_|refine W.cd (fun hc=>?_) (fun hc=>?_)|refine W.cb (fun hc=>?_) (fun hc=>?_)|refine W.bl ?_|refine W.ex ?_|refine W.rt ?_)|((with_reducible refine W.kn hK ?_);clear hK K)|(with_reducible first|refine W.bn ?_|refine W.xt ?_|refine W.xb ?_|refine W.xo ?_|refine W.tr ?_|refine W.br ?_)|refine W.rt1 rfl ?_)|refine W.cast (t:=4) (τ:=WR s l) (τ':=W n x) (fun h=>WR.toW h ⟨hv,hlt⟩) ?_|clear hK K|clear hu|exact True.intro|exact Nat.le_trans (by clear hp;omega) hp|exact Nat.le_trans (by clear hp;omega) hp.1|exact Nat.le_trans (by clear hp;omega) hp.2|(clear hp;omega)|apply And.intro|refine GI.i fun _=>?_|with_reducible rfl|decide|(simp only [List.length_cons,List.length_nil];omega))
  all_goals first | exact sign_zero (by omega) | exact sign_neg hwf hv (by omega) hc | exact sign_pos hwf hv (by omega) hc
instance {n : Nat} {x : Int} {τ1 : MT} [j1 : NW τ1 (W n x)] : Con Tryz.prog 109 [τ1] (True) (IT x.sign):=.o1 fun hok h1 hp=>w109.c1 hok (j1.h h1) hp
theorem w107 {n m : Nat} {x y : Int} : Con Tryz.prog 107 [W n x,W m y] (True) (IT (cmpZ x y)):=.o2 fun hok h1 h2 hp=>by
  refine St.enter (N:=28) Tryz.func107 rfl rfl rfl hok (enter2 h1 h2) fun a=>?_
  have hcb:=cmpN_bd x.natAbs y.natAbs
  repeat' (first|((with_reducible refine gS_ ?_);first|((with_reducible refine gL_ ?_);first|refine W.run ?_ fun a w G=>?_|refine W.mv fun a w G=>?_|refine W.asg fun a w G=>?_|refine W.bx fun b a w G=>?_|(refine W.nn hK ?_;clear hK K)|refine W.nl ?_|refine W.ste ?_ fun w=>?_)|((with_reducible refine gC_ ?_);first|refine W.reg fun K hK=>?_|refine W.reg1 ?_|refine W.sq fun K hK=>?_|refine W.ds ?_ (fun β a w G hu=>W.fin ?_ hu) mixedOrders (by kernel_rfl)|refine W.sk ?_|refine W.cd (fun hc=>?_) (fun hc=>?_)|refine W.cb (fun hc=>?_) (fun hc=>?_)|refine W.rt ?_)|((with_reducible refine W.kn hK ?_);clear hK K)|with_reducible refine W.tr ?_|with_reducible refine W.br ?_|refine W.rt1 rfl ?_)|clear hK K|clear hu|exact True.intro|exact Nat.le_trans (by clear hp;omega) hp|exact Nat.le_trans (by clear hp;omega) hp.1|exact Nat.le_trans (by clear hp;omega) hp.2|(clear hp;omega)|apply And.intro|refine GI.i fun _=>?_|with_reducible rfl|decide|(simp only [List.length_cons,List.length_nil];omega))
  all_goals first | exact cmp_lt (by assumption) | exact cmp_gt (by assumption) (by assumption) | exact cmp_neg (by assumption) hc | exact cmp_pos (by assumption) hc
instance {n m : Nat} {x y : Int} {τ1 : MT} [j1 : NW τ1 (W n x)] {τ2 : MT} [j2 : NW τ2 (W m y)] : Con Tryz.prog 107 [τ1,τ2] (True) (IT (cmpZ x y)):=.o2 fun hok h1 h2 hp=>w107.c2 hok (j1.h h1) (j2.h h2) hp
theorem add_d {x y : Int} (h : ¬ decide (x < 0) = decide (y < 0)) : (decide (x < 0) == decide (y < 0)) = false:=by simpa using h
theorem cmpN_lt {m n : Nat} (h : ¬ cmpN m n ≥ 0) : m ≤ n:=Nat.le_of_lt (Nat.not_le.1 fun h'=>h (cmpN_ge.2 h'))
theorem w94 {n m : Nat} {x y : Int} : Con Tryz.prog 94 [W n x,W m y] (n ≤ BIG ∧ m ≤ BIG) (WC (max n m + 1) (x + y)):=.o2 fun hok h1 h2 hp=>by
  refine St.enter (N:=40) Tryz.func94 rfl rfl rfl hok (enter2 h1 h2) fun a=>?_
  repeat' (first|((with_reducible refine gS_ ?_);first|((with_reducible refine gL_ ?_);first|refine W.run ?_ fun a w G=>?_|refine W.mv fun a w G=>?_|refine W.asg fun a w G=>?_|refine W.bx fun b a w G=>?_|(refine W.nn hK ?_;clear hK K)|refine W.nl ?_|refine W.al fun b a w G=>?_|refine W.st fun w=>?_|refine W.stp fun w=>?_|refine W.ste ?_ fun w=>?_)|((with_reducible refine gC_ ?_);first|refine W.reg fun K hK=>?_|refine W.reg1 ?_|refine W.sq fun K hK=>?_|refine W.ds ?_ (fun β a w G hu=>W.fin ?_ hu) mixedOrders (by kernel_rfl)|refine W.sk ?_|refine W.cd (fun hc=>?_) (fun hc=>?_)|refine W.cb (fun hc=>?_) (fun hc=>?_)|refine W.bl ?_|refine W.ex ?_|refine W.rt ?_)|((with_reducible refine W.kn hK ?_);clear hK K)|(with_reducible first|refine W.bn ?_|refine W.xt ?_|refine W.xb ?_|refine W.xo ?_|refine W.tr ?_|refine W.br ?_)|refine W.rt1 rfl ?_)|clear hK K|clear hu|exact True.intro|exact Nat.le_trans (by clear hp;omega) hp|exact Nat.le_trans (by clear hp;omega) hp.1|exact Nat.le_trans (by clear hp;omega) hp.2|(clear hp;omega)|apply And.intro|refine GI.i fun _=>?_|with_reducible rfl|decide|(simp only [List.length_cons,List.length_nil];omega))
  all_goals first | exact add_same (by simpa using hc) | exact cmpN_ge.1 hc | exact add_diff (add_d (by assumption)) (cmpN_ge.1 hc) | exact cmpN_lt hc | exact add_diff2 (add_d (by assumption)) (cmpN_lt hc)
instance {n m : Nat} {x y : Int} {τ1 : MT} [j1 : NW τ1 (W n x)] {τ2 : MT} [j2 : NW τ2 (W m y)] : Con Tryz.prog 94 [τ1,τ2] (n ≤ BIG ∧ m ≤ BIG) (WC (max n m + 1) (x + y)):=.o2 fun hok h1 h2 hp=>w94.c2 hok (j1.h h1) (j2.h h2) hp
theorem w108 {n m : Nat} {x y : Int} : Con Tryz.prog 108 [W n x,W m y] (n + m ≤ BIG) (WC (n + m) (x * y)):=.o2 fun hok h1 h2 hp=>by
  refine St.enter (N:=16) Tryz.func108 rfl rfl rfl hok (enter2 h1 h2) fun a=>?_
  repeat' (first|((with_reducible refine gS_ ?_);first|((with_reducible refine gL_ ?_);first|refine W.run ?_ fun a w G=>?_|refine W.mv fun a w G=>?_|refine W.asg fun a w G=>?_|refine W.bx fun b a w G=>?_|(refine W.nn hK ?_;clear hK K)|refine W.nl ?_|refine W.al fun b a w G=>?_|refine W.st fun w=>?_|refine W.stp fun w=>?_|refine W.ste ?_ fun w=>?_)|((with_reducible refine gC_ ?_);first|refine W.reg fun K hK=>?_|refine W.reg1 ?_|refine W.sq fun K hK=>?_|refine W.ds ?_ (fun β a w G hu=>W.fin ?_ hu) mixedOrders (by kernel_rfl)|refine W.sk ?_|refine W.rt ?_)|((with_reducible refine W.kn hK ?_);clear hK K)|with_reducible refine W.tr ?_|with_reducible refine W.br ?_|refine W.rt1 rfl ?_)|clear hK K|clear hu|exact True.intro|exact Nat.le_trans (by clear hp;omega) hp|exact Nat.le_trans (by clear hp;omega) hp.1|exact Nat.le_trans (by clear hp;omega) hp.2|(clear hp;omega)|apply And.intro|refine GI.i fun _=>?_|with_reducible rfl|decide|(simp only [List.length_cons,List.length_nil];omega))
  all_goals exact mul_sg
instance {n m : Nat} {x y : Int} {τ1 : MT} [j1 : NW τ1 (W n x)] {τ2 : MT} [j2 : NW τ2 (W m y)] : Con Tryz.prog 108 [τ1,τ2] (n + m ≤ BIG) (WC (n + m) (x * y)):=.o2 fun hok h1 h2 hp=>w108.c2 hok (j1.h h1) (j2.h h2) hp
theorem w145 {n m : Nat} {x y : Int} : Con Tryz.prog 145 [W n x,W m y] (n ≤ BIG ∧ m ≤ BIG) (WC (max n m) ((Nat.gcd x.natAbs y.natAbs : Nat) : Int)):=.o2 fun hok h1 h2 hp=>by
  refine St.enter (N:=26) Tryz.func145 rfl rfl rfl hok (enter2 h1 h2) fun a=>?_
  repeat' (first|((with_reducible refine gS_ ?_);first|((with_reducible refine gL_ ?_);first|refine W.run ?_ fun a w G=>?_|refine W.mv fun a w G=>?_|refine W.asg fun a w G=>?_|refine W.bx fun b a w G=>?_|(refine W.nn hK ?_;clear hK K)|refine W.nl ?_|refine W.al fun b a w G=>?_|refine W.st fun w=>?_|refine W.stp fun w=>?_|refine W.ste ?_ fun w=>?_)|((with_reducible refine gC_ ?_);first|refine W.reg fun K hK=>?_|refine W.reg1 ?_|refine W.sq fun K hK=>?_|refine W.ds ?_ (fun β a w G hu=>W.fin ?_ hu) mixedOrders (by kernel_rfl)|refine W.sk ?_|refine W.cd (fun hc=>?_) (fun hc=>?_)|refine W.cb (fun hc=>?_) (fun hc=>?_)|refine W.bl ?_|refine W.ex ?_|refine W.rt ?_)|((with_reducible refine W.kn hK ?_);clear hK K)|(with_reducible first|refine W.bn ?_|refine W.xt ?_|refine W.xb ?_|refine W.xo ?_|refine W.tr ?_|refine W.br ?_)|refine W.rt1 rfl ?_)|refine W.lp 13 (α:=Nat × Nat) (fun q=>q.2) (fun q=>Nat.gcd q.1 q.2 = Nat.gcd x.natAbs y.natAbs) [5,6,7,8,13,14,15,16,17,18,19,20,21,22,23] (fun q=>[(5,SN (max n m) q.1),(6,SN (max n m) q.2)]) (fun q=>[]) ((x.natAbs,y.natAbs)) ?_ ?_ ?_ fun q hq a w G=>?_|refine W.ag (x:=q) ((q.2,q.1 % q.2)) ?_ ?_ ?_ ?_|clear hK K|clear hu|exact True.intro|exact Nat.le_trans (by clear hp;omega) hp|exact Nat.le_trans (by clear hp;omega) hp.1|exact Nat.le_trans (by clear hp;omega) hp.2|(clear hp;omega)|apply And.intro|refine GI.i fun _=>?_|with_reducible rfl|decide|(simp only [List.length_cons,List.length_nil];omega))
  all_goals first
    | (have:=hp.1;have:=hp.2;omega)
    | exact gcd_end hq (by omega)
    | (have hr : q.2 ≠ 0 := len_pos_iff.1 (by omega)
       first | exact hr | exact Nat.mod_lt _ (by omega) | exact gcd_next hq)
instance {n m : Nat} {x y : Int} {τ1 : MT} [j1 : NW τ1 (W n x)] {τ2 : MT} [j2 : NW τ2 (W m y)] : Con Tryz.prog 145 [τ1,τ2] (n ≤ BIG ∧ m ≤ BIG) (WC (max n m) ((Nat.gcd x.natAbs y.natAbs : Nat) : Int)):=.o2 fun hok h1 h2 hp=>w145.c2 hok (j1.h h1) (j2.h h2) hp
theorem div_f {x : Int} {r : Nat} (h : (decide (x < 0) && decide (((words r).length : Int) > 0)) = false) : ¬ x < 0 ∨ r = 0:=by
  simp only [Bool.and_eq_false_iff,decide_eq_false_iff_not] at h
  exact h.imp id fun h=>len_zero (by omega)
theorem div_t {x : Int} {r : Nat} (h : (decide (x < 0) && decide (((words r).length : Int) > 0)) = true) : x < 0 ∧ 0 < r:=by
  simp only [Bool.and_eq_true,decide_eq_true_eq] at h
  exact ⟨h.1,Nat.pos_of_ne_zero (len_pos_iff.1 (by omega))⟩
theorem w144 {n m : Nat} {x y : Int} : Con Tryz.prog 144 [W n x,W m y] (n ≤ BIG ∧ m ≤ BIG) (MT.tup3 (WC n (x / y)) (WC m (if y = 0 then 0 else x % y)) (.ex (errV 41 (if y = 0 then 8 else 0)))):=.o2 fun hok h1 h2 hp=>by
  refine St.enter (N:=47) Tryz.func144 rfl rfl rfl hok (enter2 h1 h2) fun a=>?_
  have hxl:=W.lt h1
  have hyl:=W.lt h2
  have hB1 : 1 ≤ BIG:=by decide
  repeat' (first|refine W.cast (t:=34) (τ:=SN (max n 1 + 1) (x.natAbs / y.natAbs + 1)) (τ':=SN n (x.natAbs / y.natAbs + 1)) (fun h=>⟨qd_bound hxl (div_t hc).2 (abs_ne (by omega)),h.2⟩) ?_|((with_reducible refine gS_ ?_);first|((with_reducible refine gL_ ?_);first|refine W.run ?_ fun a w G=>?_|refine W.mv fun a w G=>?_|refine W.asg fun a w G=>?_|refine W.bx fun b a w G=>?_|(refine W.nn hK ?_;clear hK K)|refine W.nl ?_|refine W.al fun b a w G=>?_|refine W.st fun w=>?_|refine W.stp fun w=>?_|refine W.ste ?_ fun w=>?_)|((with_reducible refine gC_ ?_);first|refine W.reg fun K hK=>?_|refine W.reg1 ?_|refine W.sq fun K hK=>?_|refine W.ds ?_ (fun β a w G hu=>W.fin ?_ hu) mixedOrders (by kernel_rfl)|refine W.sk ?_|refine W.cd (fun hc=>?_) (fun hc=>?_)|refine W.cb (fun hc=>?_) (fun hc=>?_)|refine W.rt ?_)|((with_reducible refine W.kn hK ?_);clear hK K)|with_reducible refine W.tr ?_|with_reducible refine W.br ?_|refine W.rt3 rfl ?_ ?_ ?_)|clear hK K|clear hu|exact True.intro|exact Nat.le_trans (by clear hp;omega) hp|exact Nat.le_trans (by clear hp;omega) hp.1|exact Nat.le_trans (by clear hp;omega) hp.2|(clear hp;omega)|apply And.intro|refine GI.i fun _=>?_|with_reducible rfl|decide|(simp only [List.length_cons,List.length_nil];omega))
  all_goals first
    | (have hy0 : y = 0 := by have := len_zero (m := y.natAbs) (by omega); omega
       subst hy0;simp;done)
    | (have hy0 := abs_ne (y := y) (by omega)
       have hlt:=Nat.mod_lt x.natAbs (show 0 < y.natAbs by omega)
       (try rw [if_neg hy0]) <;> first | omega | exact (qd2 hy0 (div_f hc)).1 | exact (qd2 hy0 (div_f hc)).2 | exact (qd1 hy0 (div_t hc).1 (div_t hc).2).1 | exact (qd1 hy0 (div_t hc).1 (div_t hc).2).2)
instance {n m : Nat} {x y : Int} {τ1 : MT} [j1 : NW τ1 (W n x)] {τ2 : MT} [j2 : NW τ2 (W m y)] : Con Tryz.prog 144 [τ1,τ2] (n ≤ BIG ∧ m ≤ BIG) (MT.tup3 (WC n (x / y)) (WC m (if y = 0 then 0 else x % y)) (.ex (errV 41 (if y = 0 then 8 else 0)))):=.o2 fun hok h1 h2 hp=>w144.c2 hok (j1.h h1) (j2.h h2) hp
theorem of_hi {z : Int} (h : 0 ≤ z ∧ z < 18446744073709551616) : 0 ≤ IntKind.u32.wrap z ∧ IntKind.u32.wrap z < 4294967296 ∧ 0 ≤ IntKind.u32.wrap (z.fdiv (2 ^ (min (32 : Int).toNat IntKind.u64.bits))) ∧ IntKind.u32.wrap (z.fdiv (2 ^ (min (32 : Int).toNat IntKind.u64.bits))) < 4294967296 ∧ z = IntKind.u32.wrap z + 4294967296 * IntKind.u32.wrap (z.fdiv (2 ^ (min (32 : Int).toNat IntKind.u64.bits))):=by
  have e : ((2 : Int) ^ (min (32 : Int).toNat IntKind.u64.bits)) = 4294967296:=by decide
  have w : ∀ y : Int,IntKind.u32.wrap y = y % 4294967296:=fun y=>by simp [IntKind.wrap,IntKind.bits,IntKind.signed]
  rw [e,w,w,Int.fdiv_eq_ediv_of_nonneg _ (by decide)]
  omega
theorem of_n {z : Int} (h : I64 z) (hz : z < 0) : IntKind.u64.wrap (0 - IntKind.u64.wrap z) = (z.natAbs : Int):=by
  have w : ∀ y : Int,IntKind.u64.wrap y = y % 18446744073709551616:=fun y=>by simp [IntKind.wrap,IntKind.bits,IntKind.signed]
  rw [w,w];omega
theorem of_p {z : Int} (h : I64 z) (hz : ¬ z < 0) : IntKind.u64.wrap z = (z.natAbs : Int):=by
  have w : ∀ y : Int,IntKind.u64.wrap y = y % 18446744073709551616:=fun y=>by simp [IntKind.wrap,IntKind.bits,IntKind.signed]
  rw [w];omega
theorem of_sv {w z : Int} {v : Value} {G : Gh} (e : w = (z.natAbs : Int)) (hz : I64 z) (h : (LSC none [MT.ex (.int .u32 (IntKind.u32.wrap w)),MT.ex (.int .u32 (IntKind.u32.wrap (w.fdiv (2 ^ (min (32 : Int).toNat IntKind.u64.bits)))))]).t v G) : (SV 64 z.natAbs).t v G:=by
  have hw:=of_hi (z:=w) (by omega)
  exact LSC.sv2 h ⟨hw.1,hw.2.1⟩ ⟨hw.2.2.1,hw.2.2.2.1⟩ (by rw [← e];exact hw.2.2.2.2)
instance {z : Int} : Con Tryz.prog 93 [IT z] (I64 z) (WC 64 z):=.o1 fun hok h1 hp=>by
  refine St.enter (N:=19) Tryz.func93 rfl rfl rfl hok (enter1 h1) fun a=>?_
  repeat' (first|((with_reducible refine gS_ ?_);first|((with_reducible refine gL_ ?_);first|refine W.run ?_ fun a w G=>?_|refine W.mv fun a w G=>?_|refine W.asg fun a w G=>?_|(refine W.nn hK ?_;clear hK K)|refine W.nl ?_|refine W.al fun b a w G=>?_|refine W.st fun w=>?_|refine W.stp fun w=>?_|refine W.ste ?_ fun w=>?_)|((with_reducible refine gC_ ?_);first|refine W.reg fun K hK=>?_|refine W.reg1 ?_|refine W.sq fun K hK=>?_|refine W.sk ?_|refine W.cd (fun hc=>?_) (fun hc=>?_)|refine W.cb (fun hc=>?_) (fun hc=>?_)|refine W.rt ?_)|((with_reducible refine W.kn hK ?_);clear hK K)|with_reducible refine W.tr ?_|with_reducible refine W.br ?_|refine W.rt1 rfl ?_)|refine W.cast (t:=17) (τ':=SV 64 z.natAbs) (of_sv (by first|exact of_n hp hc|exact of_p hp hc) hp) ?_|clear hK K|clear hu|exact True.intro|exact Nat.le_trans (by clear hp;omega) hp|exact Nat.le_trans (by clear hp;omega) hp.1|exact Nat.le_trans (by clear hp;omega) hp.2|(clear hp;omega)|apply And.intro|refine GI.i fun _=>?_|with_reducible rfl|decide|(simp only [List.length_cons,List.length_nil];omega))
  all_goals (unfold sg;simp [hc];omega)
end Go.Proofs.YtboicjlbbbodgaaGreatDoor
namespace Go.Proofs.YtboicjlbbbodgaaGreatDoor
open Go.RowKit (Below)
def plainl (l : List Nat) : Bool:=l ≠ [] && canl l
section
variable {s : Bool} {p q l : List Nat} {n : Nat} {v : Value} {G : Gh} {x y : Rat}
theorem plainl_wok (h : ¬ l.length = 0) : plainl l = wok false l:=by
  rw [wok_f,if_neg (ne_of_len h)];unfold plainl;simp [ne_of_len h]
theorem plainl_last (h : 0 < l.length) : decide (dig l (l.length - 1) ≠ 0) = plainl l:=by
  rw [plainl_wok (by omega),← wok_last (s:=false) (by omega)]
theorem plainl_none (h : ¬ 0 < l.length) : false = plainl l:=by
  have : l = []:=List.length_eq_zero_iff.1 (by omega)
  subst this;rfl
theorem plainl_len (h : plainl l = true) : ¬ l.length = 0:=fun e=>by
  rw [List.length_eq_zero_iff.1 e] at h;simp [plainl] at h
theorem rqok_f1 (h0 : ¬ (p.length = 0 ∧ q.length = 0)) (h : plainl p = false) : false = qok s p q:=by
  by_cases e : p.length = 0
  · exact qok_f1 ⟨.inl e,h0⟩
  · exact qok_f2 (by rw [← plainl_wok e,h];rfl)
theorem rqok_f2 (h0 : ¬ (p.length = 0 ∧ q.length = 0)) (h : plainl q = false) : false = qok s p q:=by
  by_cases e : q.length = 0
  · exact qok_f1 ⟨.inr e,h0⟩
  · exact qok_f3 (by rw [← plainl_wok e,h];rfl)
theorem rqok_t (h1 : plainl p = true) (h2 : plainl q = true) : decide (cmpZ ((Nat.gcd (wval false p).natAbs (wval false q).natAbs : Nat) : Int) 1 = 0) = qok s p q:=by
  have a1:=plainl_len h1;have a2:=plainl_len h2
  exact qok_t a1 a2 (by rw [← plainl_wok a1,h1];rfl) (by rw [← plainl_wok a2,h2];rfl)
theorem abs_ediv_exact {a : Int} {g : Nat} (h : g ∣ a.natAbs) : (a / (g : Int)).natAbs = a.natAbs / g ∧ (g ≠ 0 → (a / (g : Int) < 0 ↔ a < 0)):=by
  obtain ⟨k,hk⟩:=h
  rcases Nat.eq_zero_or_pos g with h0 | h0
  · subst h0;simp at hk ⊢
  · rcases Int.natAbs_eq a with e | e
    · rw [hk] at e
      rw [hk,Nat.mul_div_cancel_left _ h0]
      have e2 : a / (g : Int) = (k : Int):=by rw [e];push_cast;rw [Int.mul_ediv_cancel_left _ (by omega)]
      rw [e2];exact ⟨by omega,fun _=>by omega⟩
    · rw [hk] at e
      rw [hk,Nat.mul_div_cancel_left _ h0]
      have e2 : a / (g : Int) = -(k : Int):=by
        rw [e];push_cast
        rw [show -((g : Int) * (k : Int)) = (g : Int) * -(k : Int) from by rw [Int.mul_neg],Int.mul_ediv_cancel_left _ (by omega)]
      rw [e2]
      refine ⟨by omega,fun _=>?_⟩
      rcases Nat.eq_zero_or_pos k with k0 | k0
      · subst k0;simp at e;omega
      · have : 0 < g * k:=Nat.mul_pos h0 k0
        omega
theorem rcmp_sub : (x - y).num.sign = cmpQ x y:=by
  have h : (x - y).num.sign = 0 ↔ x - y = 0:=by rw [Int.sign_eq_zero_iff_zero,Rat.num_eq_zero]
  unfold cmpQ
  rcases sgn_cases (x - y).num with ⟨h1,h2⟩ | ⟨h1,h2⟩ | ⟨h1,h2⟩
  · rw [h2,if_pos];have h3 : ¬ 0 ≤ x - y:=fun h=>by have:=Rat.num_nonneg.2 h;omega
    grind
  · have:=Rat.num_eq_zero.1 h1
    rw [h2,if_neg (by grind),if_neg (by grind)]
  · have h3 : ¬ x - y ≤ 0 := fun h => by
      have h4 : 0 ≤ -(x - y):=by grind
      have:=Rat.num_nonneg.2 h4;rw [Rat.neg_num] at this;omega
    rw [h2,if_neg (by grind),if_pos (by grind)]
end
end Go.Proofs.YtboicjlbbbodgaaGreatDoor
namespace Go.Proofs.YtboicjlbbbodgaaGreatDoor
open Go.RowKit (Below)
attribute [local irreducible] Go.Code.wp Go.wpList Go.bodyPost
instance : NF (.ex .nilIface) (.ex (errV 41 0)):=⟨fun h=>h⟩
theorem fv_nil {r : FR} (h : (decide ((r.p.length : Int) = 0) && decide ((r.q.length : Int) = 0)) = true) : (!r.s) = r.ok:=by
  simp only [Bool.and_eq_true,decide_eq_true_eq] at h
  exact qok_nil (by omega) (by omega)
theorem fv_bad {r : FR} (h0 : (decide ((r.p.length : Int) = 0) && decide ((r.q.length : Int) = 0)) = false) (h : (decide ((r.p.length : Int) = 0) || decide ((r.q.length : Int) = 0) || !wok false r.p || !wok false r.q) = true) : false = r.ok:=by
  simp only [Bool.and_eq_false_iff,decide_eq_false_iff_not] at h0
  simp only [Bool.or_eq_true,decide_eq_true_eq] at h
  rcases h with (h | h) | h
  · exact qok_f1 (by omega)
  · exact qok_f2 h
  · exact qok_f3 h
theorem fv_t {r : FR} (h : (decide ((r.p.length : Int) = 0) || decide ((r.q.length : Int) = 0) || !wok false r.p || !wok false r.q) = false) : decide (cmpZ ((Nat.gcd (wval false r.p).natAbs (wval false r.q).natAbs : Nat) : Int) 1 = 0) = r.ok:=by
  simp only [Bool.or_eq_false_iff,decide_eq_false_iff_not] at h
  exact qok_t (by omega) (by omega) h.1.2 h.2
theorem part_s {r : FR} (hw : wfl r.p ∧ wfl r.q) (hok : r.ok = true) (hp : ¬ (r.p.length : Int) = 0) : r.s = decide (r.val.num < 0):=by
  have hp' : ¬ r.p.length = 0:=by omega
  obtain ⟨h1,h2,h3,h4,h5⟩:=qval_parts hw hok hp'
  have hp0 : val r.p ≠ 0:=fun e=>ne_of_len hp' (val_eq_zero h2 e)
  rw [show r.val.num = _ from h4]
  cases r.s <;> simp [sg] <;> omega
theorem part_p {r : FR} (hw : wfl r.p ∧ wfl r.q) (hok : r.ok = true) (hp : ¬ (r.p.length : Int) = 0) : r.p = words r.val.num.natAbs:=by
  obtain ⟨h1,h2,h3,h4,h5⟩:=qval_parts hw hok (by omega)
  rw [show r.val.num = _ from h4,sg_abs,words_val hw.1 h2]
theorem part_q {r : FR} (hw : wfl r.p ∧ wfl r.q) (hok : r.ok = true) (hp : ¬ (r.p.length : Int) = 0) : r.q = words r.val.den:=by
  obtain ⟨h1,h2,h3,h4,h5⟩:=qval_parts hw hok (by omega)
  rw [show r.val.den = _ from h5,words_val hw.2 h3]
theorem part_z {r : FR} (h : r.ok = false ∨ (r.p.length : Int) = 0) : r.val = 0:=by
  rcases h with h | h
  · exact qval_not h
  · exact qval_nil (by omega)
theorem part_e {r : FR} (h : (!r.ok || decide ((r.p.length : Int) = 0)) = true) : r.val = 0:=by
  simp only [Bool.or_eq_true,Bool.not_eq_true',decide_eq_true_eq] at h
  exact part_z h
theorem part_o {r : FR} (h : (!r.ok || decide ((r.p.length : Int) = 0)) = false) : r.ok = true ∧ ¬ (r.p.length : Int) = 0:=by
  simp only [Bool.or_eq_false_iff,Bool.not_eq_false',decide_eq_false_iff_not] at h
  exact h
instance (priority:=870) Cv.wc1 {n k : Nat} : Cv (WC n 1) (WC k 1) (1 ≤ k):=⟨fun e v G h=>⟨one_lt_pow e,h.2⟩⟩
instance  : Con Tryz.prog 105 [] (True) (WC 1 1):=.o0 fun hok  hp=>by
  refine St.enter (N:=2) Tryz.func105 rfl rfl rfl hok enter0 fun a=>?_
  repeat' (first|((with_reducible refine gS_ ?_);first|((with_reducible refine gL_ ?_);first|refine W.run ?_ fun a w G=>?_|refine W.mv fun a w G=>?_|refine W.asg fun a w G=>?_|(refine W.nn hK ?_;clear hK K)|refine W.nl ?_|refine W.al fun b a w G=>?_|refine W.st fun w=>?_|refine W.stp fun w=>?_|refine W.ste ?_ fun w=>?_)|((with_reducible refine gC_ ?_);first|refine W.reg fun K hK=>?_|refine W.reg1 ?_|refine W.sq fun K hK=>?_|refine W.sk ?_|refine W.rt ?_)|((with_reducible refine W.kn hK ?_);clear hK K)|with_reducible refine W.tr ?_|with_reducible refine W.br ?_|refine W.rt1 rfl ?_)|clear hK K|clear hu|exact True.intro|exact Nat.le_trans (by clear hp;omega) hp|exact Nat.le_trans (by clear hp;omega) hp.1|exact Nat.le_trans (by clear hp;omega) hp.2|(clear hp;omega)|apply And.intro|refine GI.i fun _=>?_|with_reducible rfl|decide|(simp only [List.length_cons,List.length_nil];omega))
theorem f_num {x y X a b : Int} (hy : y ≠ 0) (hX : X.natAbs = x.natAbs) (ha : a.natAbs = x.natAbs) (hb : b.natAbs = y.natAbs) : (X / ((Nat.gcd a.natAbs b.natAbs : Nat) : Int)).natAbs = (Rat.divInt x y).num.natAbs:=by
  rw [ha,hb,(abs_ediv_exact (by rw [hX];exact Nat.gcd_dvd_left _ _)).1,hX,frac_num hy]
theorem f_den {x y X a b : Int} (hy : y ≠ 0) (hX : X.natAbs = y.natAbs) (ha : a.natAbs = x.natAbs) (hb : b.natAbs = y.natAbs) : (X / ((Nat.gcd a.natAbs b.natAbs : Nat) : Int)).natAbs = (Rat.divInt x y).den:=by
  rw [ha,hb,(abs_ediv_exact (by rw [hX];exact Nat.gcd_dvd_right _ _)).1,hX,frac_den hy]
theorem f_ne {x y : Int} (hy : y ≠ 0) (h : ¬ x.sign = 0) : Rat.divInt x y ≠ 0:=fun e=>by
  have h1 : (Rat.divInt x y).num.natAbs = 0:=by rw [e];rfl
  rw [frac_num hy] at h1
  have h2 : Nat.gcd x.natAbs y.natAbs ∣ x.natAbs:=Nat.gcd_dvd_left _ _
  have h3:=Nat.div_mul_cancel h2
  rw [h1,Nat.zero_mul] at h3
  exact h (by rw [show x = 0 by omega];rfl)
theorem f_sg {x y z : Int} (hy : y ≠ 0) (h : ¬ x.sign = 0) (hz : z = if y < 0 then -x else x) : decide (z.sign < 0) = decide (Rat.divInt x y < 0):=by
  rw [sgn_dec,hz]
  exact decide_eq_decide.2 (frac_neg (fun e=>h (by rw [e];rfl)) hy).symm
theorem sgn_lt {y : Int} (h : y.sign < 0) : y < 0:=by have:=sgn_cases y;omega
theorem sgn_nlt {y : Int} (h : ¬ y.sign < 0) : ¬ y < 0:=by have:=sgn_cases y;omega
theorem w135 {n : Nat} {r : FR} : Con Tryz.prog 135 [FX n r] (n ≤ BIG) (BT r.ok):=.o1 fun hok h1 hp=>by
  refine St.enter (N:=50) Tryz.func135 rfl rfl rfl hok (enter1 h1) fun a=>?_
  have hlim:=QR.lim (FX.qr h1)
  simp only [LIM] at hlim
  repeat' (first|((with_reducible refine gS_ ?_);first|((with_reducible refine gL_ ?_);first|refine W.run ?_ fun a w G=>?_|refine W.mv fun a w G=>?_|refine W.asg fun a w G=>?_|refine W.bx fun b a w G=>?_|(refine W.nn hK ?_;clear hK K)|refine W.nl ?_|refine W.al fun b a w G=>?_|refine W.st fun w=>?_|refine W.stp fun w=>?_|refine W.ste ?_ fun w=>?_)|((with_reducible refine gC_ ?_);first|refine W.reg fun K hK=>?_|refine W.reg1 ?_|refine W.sq fun K hK=>?_|refine W.ds ?_ (fun β a w G hu=>W.fin ?_ hu) mixedOrders (by kernel_rfl)|refine W.sk ?_|refine W.cd (fun hc=>?_) (fun hc=>?_)|refine W.cb (fun hc=>?_) (fun hc=>?_)|refine W.rt ?_)|((with_reducible refine W.kn hK ?_);clear hK K)|with_reducible refine W.tr ?_|with_reducible refine W.br ?_|refine W.rt1 rfl ?_)|clear hK K|clear hu|exact True.intro|exact Nat.le_trans (by clear hp;omega) hp|exact Nat.le_trans (by clear hp;omega) hp.1|exact Nat.le_trans (by clear hp;omega) hp.2|(clear hp;omega)|apply And.intro|refine GI.i fun _=>?_|with_reducible rfl|decide|(simp only [List.length_cons,List.length_nil];omega))
  all_goals first | exact fv_nil hc | exact fv_bad (by assumption) hc | exact fv_t hc
instance {n : Nat} {r : FR} {τ1 : MT} [j1 : NF τ1 (FX n r)] : Con Tryz.prog 135 [τ1] (n ≤ BIG) (BT r.ok):=.o1 fun hok h1 hp=>w135.c1 hok (j1.h h1) hp
theorem w106 {n : Nat} {x : Rat} : Con Tryz.prog 106 [QV n x] (n ≤ BIG) (MT.tup2 (WC n x.num) (WC n ((x.den : Nat) : Int))):=.o1 fun hok h1 hp=>by
  obtain ⟨r,rfl,hf⟩:=QV.fx h1
  replace h1:=hf
  have hqr:=FX.qr h1
  have hwf:=QR.wf hqr
  have hlim:=QR.lim hqr
  have hn1:=h1.1
  simp only [LIM] at hlim
  refine St.enter (N:=28) Tryz.func106 rfl rfl rfl hok (enter1 h1) fun a=>?_
  repeat' (first|((with_reducible refine gS_ ?_);first|((with_reducible refine gL_ ?_);first|refine W.run ?_ fun a w G=>?_|refine W.mv fun a w G=>?_|refine W.asg fun a w G=>?_|refine W.bx fun b a w G=>?_|(refine W.nn hK ?_;clear hK K)|refine W.nl ?_|refine W.al fun b a w G=>?_|refine W.st fun w=>?_|refine W.stp fun w=>?_|refine W.ste ?_ fun w=>?_)|((with_reducible refine gC_ ?_);first|refine W.reg fun K hK=>?_|refine W.reg1 ?_|refine W.sq fun K hK=>?_|refine W.ds ?_ (fun β a w G hu=>W.fin ?_ hu) mixedOrders (by kernel_rfl)|refine W.sk ?_|refine W.cd (fun hc=>?_) (fun hc=>?_)|refine W.cb (fun hc=>?_) (fun hc=>?_)|refine W.rt ?_)|((with_reducible refine W.kn hK ?_);clear hK K)|with_reducible refine W.tr ?_|with_reducible refine W.br ?_|refine W.rt2 rfl ?_ ?_)|clear hK K|clear hu|exact True.intro|exact Nat.le_trans (by clear hp;omega) hp|exact Nat.le_trans (by clear hp;omega) hp.1|exact Nat.le_trans (by clear hp;omega) hp.2|(clear hp;omega)|apply And.intro|refine GI.i fun _=>?_|with_reducible rfl|decide|(simp only [List.length_cons,List.length_nil];omega))
  all_goals first
    | (rw [part_e hc];rfl)
    | exact part_s hwf (part_o hc).1 (part_o hc).2
    | exact part_p hwf (part_o hc).1 (part_o hc).2
    | exact part_q hwf (part_o hc).1 (part_o hc).2
    | exact (decide_eq_false (by omega)).symm
instance {n : Nat} {x : Rat} {τ1 : MT} [j1 : NQ τ1 (QV n x)] : Con Tryz.prog 106 [τ1] (n ≤ BIG) (MT.tup2 (WC n x.num) (WC n ((x.den : Nat) : Int))):=.o1 fun hok h1 hp=>w106.c1 hok (j1.h h1) hp
theorem w102 {n m : Nat} {x y : Int} : Con Tryz.prog 102 [W n x,W m y] (max n m ≤ BIG ∧ y ≠ 0) (QC (max n m) (Rat.divInt x y)):=.o2 fun hok h1 h2 hp=>by
  refine St.enter (N:=47) Tryz.func102 rfl rfl rfl hok (enter2 h1 h2) fun a=>?_
  repeat' (first|((with_reducible refine gS_ ?_);first|((with_reducible refine gL_ ?_);first|refine W.run ?_ fun a w G=>?_|refine W.mv fun a w G=>?_|refine W.asg fun a w G=>?_|refine W.bx fun b a w G=>?_|(refine W.nn hK ?_;clear hK K)|refine W.nl ?_|refine W.al fun b a w G=>?_|refine W.st fun w=>?_|refine W.stp fun w=>?_|refine W.ste ?_ fun w=>?_)|((with_reducible refine gC_ ?_);first|refine W.reg fun K hK=>?_|refine W.reg1 ?_|refine W.sq fun K hK=>?_|refine W.ds ?_ (fun β a w G hu=>W.fin ?_ hu) mixedOrders (by kernel_rfl)|refine W.sk ?_|refine W.cd (fun hc=>?_) (fun hc=>?_)|refine W.cb (fun hc=>?_) (fun hc=>?_)|refine W.rt ?_)|((with_reducible refine W.kn hK ?_);clear hK K)|with_reducible refine W.tr ?_|with_reducible refine W.br ?_|refine W.rt1 rfl ?_)|clear hK K|clear hu|exact True.intro|exact Nat.le_trans (by clear hp;omega) hp|exact Nat.le_trans (by clear hp;omega) hp.1|exact Nat.le_trans (by clear hp;omega) hp.2|(clear hp;omega)|apply And.intro|refine GI.i fun _=>?_|with_reducible rfl|decide|(simp only [List.length_cons,List.length_nil];omega))
  all_goals first
    | exact Nat.le_trans (one_le_of_lt (show y.natAbs ≠ 0 by omega) (W.lt h2)) (Nat.le_max_right _ _)
    | exact frac_zero hc
    | exact f_num hp.2 (by omega) (by omega) (by omega)
    | exact f_den hp.2 (by omega) (by omega) (by omega)
    | exact f_ne hp.2 (by assumption)
    | exact f_sg hp.2 (by assumption) (by first | exact (if_pos (sgn_lt (by assumption))).symm | exact (if_neg (sgn_nlt (by assumption))).symm)
instance {n m : Nat} {x y : Int} {τ1 : MT} [j1 : NW τ1 (W n x)] {τ2 : MT} [j2 : NW τ2 (W m y)] : Con Tryz.prog 102 [τ1,τ2] (max n m ≤ BIG ∧ y ≠ 0) (QC (max n m) (Rat.divInt x y)):=.o2 fun hok h1 h2 hp=>w102.c2 hok (j1.h h1) (j2.h h2) hp
theorem w104 {n m : Nat} {x y : Rat} : Con Tryz.prog 104 [QV n x,QV m y] (n + m ≤ BIG) (QC (n + m) (x * y)):=.o2 fun hok h1 h2 hp=>by
  refine St.enter (N:=26) Tryz.func104 rfl rfl rfl hok (enter2 h1 h2) fun a=>?_
  repeat' (first|((with_reducible refine gS_ ?_);first|((with_reducible refine gL_ ?_);first|refine W.run ?_ fun a w G=>?_|refine W.mv fun a w G=>?_|refine W.asg fun a w G=>?_|refine W.bx fun b a w G=>?_|(refine W.nn hK ?_;clear hK K)|refine W.nl ?_|refine W.al fun b a w G=>?_|refine W.st fun w=>?_|refine W.stp fun w=>?_|refine W.ste ?_ fun w=>?_)|((with_reducible refine gC_ ?_);first|refine W.reg fun K hK=>?_|refine W.reg1 ?_|refine W.sq fun K hK=>?_|refine W.ds ?_ (fun β a w G hu=>W.fin ?_ hu) mixedOrders (by kernel_rfl)|refine W.sk ?_|refine W.rt ?_)|((with_reducible refine W.kn hK ?_);clear hK K)|with_reducible refine W.tr ?_|with_reducible refine W.br ?_|refine W.rt1 rfl ?_)|clear hK K|clear hu|exact True.intro|exact Nat.le_trans (by clear hp;omega) hp|exact Nat.le_trans (by clear hp;omega) hp.1|exact Nat.le_trans (by clear hp;omega) hp.2|(clear hp;omega)|apply And.intro|refine GI.i fun _=>?_|with_reducible rfl|decide|(simp only [List.length_cons,List.length_nil];omega))
  all_goals first | exact Int.mul_ne_zero (den_ne _) (den_ne _) | exact den_ne _ | exact frac_mul | exact frac_add | exact frac_neg' | exact (Rat.sub_eq_add_neg _ _).symm | exact cmp_frac
instance {n m : Nat} {x y : Rat} {τ1 : MT} [j1 : NQ τ1 (QV n x)] {τ2 : MT} [j2 : NQ τ2 (QV m y)] : Con Tryz.prog 104 [τ1,τ2] (n + m ≤ BIG) (QC (n + m) (x * y)):=.o2 fun hok h1 h2 hp=>w104.c2 hok (j1.h h1) (j2.h h2) hp
theorem w99 {n m : Nat} {x y : Rat} : Con Tryz.prog 99 [QV n x,QV m y] (n + m + 1 ≤ BIG) (QC (n + m + 1) (x + y)):=.o2 fun hok h1 h2 hp=>by
  refine St.enter (N:=30) Tryz.func99 rfl rfl rfl hok (enter2 h1 h2) fun a=>?_
  repeat' (first|((with_reducible refine gS_ ?_);first|((with_reducible refine gL_ ?_);first|refine W.run ?_ fun a w G=>?_|refine W.mv fun a w G=>?_|refine W.asg fun a w G=>?_|refine W.bx fun b a w G=>?_|(refine W.nn hK ?_;clear hK K)|refine W.nl ?_|refine W.al fun b a w G=>?_|refine W.st fun w=>?_|refine W.stp fun w=>?_|refine W.ste ?_ fun w=>?_)|((with_reducible refine gC_ ?_);first|refine W.reg fun K hK=>?_|refine W.reg1 ?_|refine W.sq fun K hK=>?_|refine W.ds ?_ (fun β a w G hu=>W.fin ?_ hu) mixedOrders (by kernel_rfl)|refine W.sk ?_|refine W.rt ?_)|((with_reducible refine W.kn hK ?_);clear hK K)|with_reducible refine W.tr ?_|with_reducible refine W.br ?_|refine W.rt1 rfl ?_)|clear hK K|clear hu|exact True.intro|exact Nat.le_trans (by clear hp;omega) hp|exact Nat.le_trans (by clear hp;omega) hp.1|exact Nat.le_trans (by clear hp;omega) hp.2|(clear hp;omega)|apply And.intro|refine GI.i fun _=>?_|with_reducible rfl|decide|(simp only [List.length_cons,List.length_nil];omega))
  all_goals first | exact Int.mul_ne_zero (den_ne _) (den_ne _) | exact den_ne _ | exact frac_mul | exact frac_add | exact frac_neg' | exact (Rat.sub_eq_add_neg _ _).symm | exact cmp_frac
instance {n m : Nat} {x y : Rat} {τ1 : MT} [j1 : NQ τ1 (QV n x)] {τ2 : MT} [j2 : NQ τ2 (QV m y)] : Con Tryz.prog 99 [τ1,τ2] (n + m + 1 ≤ BIG) (QC (n + m + 1) (x + y)):=.o2 fun hok h1 h2 hp=>w99.c2 hok (j1.h h1) (j2.h h2) hp
theorem w100 {n : Nat} {x : Rat} : Con Tryz.prog 100 [QV n x] (n ≤ BIG) (QC n (-x)):=.o1 fun hok h1 hp=>by
  refine St.enter (N:=14) Tryz.func100 rfl rfl rfl hok (enter1 h1) fun a=>?_
  repeat' (first|((with_reducible refine gS_ ?_);first|((with_reducible refine gL_ ?_);first|refine W.run ?_ fun a w G=>?_|refine W.mv fun a w G=>?_|refine W.asg fun a w G=>?_|refine W.bx fun b a w G=>?_|(refine W.nn hK ?_;clear hK K)|refine W.nl ?_|refine W.al fun b a w G=>?_|refine W.st fun w=>?_|refine W.stp fun w=>?_|refine W.ste ?_ fun w=>?_)|((with_reducible refine gC_ ?_);first|refine W.reg fun K hK=>?_|refine W.reg1 ?_|refine W.sq fun K hK=>?_|refine W.ds ?_ (fun β a w G hu=>W.fin ?_ hu) mixedOrders (by kernel_rfl)|refine W.sk ?_|refine W.rt ?_)|((with_reducible refine W.kn hK ?_);clear hK K)|with_reducible refine W.tr ?_|with_reducible refine W.br ?_|refine W.rt1 rfl ?_)|clear hK K|clear hu|exact True.intro|exact Nat.le_trans (by clear hp;omega) hp|exact Nat.le_trans (by clear hp;omega) hp.1|exact Nat.le_trans (by clear hp;omega) hp.2|(clear hp;omega)|apply And.intro|refine GI.i fun _=>?_|with_reducible rfl|decide|(simp only [List.length_cons,List.length_nil];omega))
  all_goals first | exact Int.mul_ne_zero (den_ne _) (den_ne _) | exact den_ne _ | exact frac_mul | exact frac_add | exact frac_neg' | exact (Rat.sub_eq_add_neg _ _).symm | exact cmp_frac
instance {n : Nat} {x : Rat} {τ1 : MT} [j1 : NQ τ1 (QV n x)] : Con Tryz.prog 100 [τ1] (n ≤ BIG) (QC n (-x)):=.o1 fun hok h1 hp=>w100.c1 hok (j1.h h1) hp
theorem w55 {n : Nat} {x : Rat} : Con Tryz.prog 55 [QV n x] (n ≤ BIG) (IT x.num.sign):=.o1 fun hok h1 hp=>by
  refine St.enter (N:=12) Tryz.func55 rfl rfl rfl hok (enter1 h1) fun a=>?_
  repeat' (first|((with_reducible refine gS_ ?_);first|((with_reducible refine gL_ ?_);first|refine W.run ?_ fun a w G=>?_|refine W.mv fun a w G=>?_|refine W.asg fun a w G=>?_|refine W.bx fun b a w G=>?_|(refine W.nn hK ?_;clear hK K)|refine W.nl ?_|refine W.al fun b a w G=>?_|refine W.st fun w=>?_|refine W.stp fun w=>?_|refine W.ste ?_ fun w=>?_)|((with_reducible refine gC_ ?_);first|refine W.reg fun K hK=>?_|refine W.reg1 ?_|refine W.sq fun K hK=>?_|refine W.sk ?_|refine W.rt ?_)|((with_reducible refine W.kn hK ?_);clear hK K)|with_reducible refine W.tr ?_|with_reducible refine W.br ?_|refine W.rt1 rfl ?_)|clear hK K|clear hu|exact True.intro|exact Nat.le_trans (by clear hp;omega) hp|exact Nat.le_trans (by clear hp;omega) hp.1|exact Nat.le_trans (by clear hp;omega) hp.2|(clear hp;omega)|apply And.intro|refine GI.i fun _=>?_|with_reducible rfl|decide|(simp only [List.length_cons,List.length_nil];omega))
  all_goals first | exact Int.mul_ne_zero (den_ne _) (den_ne _) | exact den_ne _ | exact frac_mul | exact frac_add | exact frac_neg' | exact (Rat.sub_eq_add_neg _ _).symm | exact cmp_frac
instance {n : Nat} {x : Rat} {τ1 : MT} [j1 : NQ τ1 (QV n x)] : Con Tryz.prog 55 [τ1] (n ≤ BIG) (IT x.num.sign):=.o1 fun hok h1 hp=>w55.c1 hok (j1.h h1) hp
class LitQ (z : Int) (x : outParam Rat) : Prop where
  h : (z : Rat) = x
instance (priority:=500) LitQ.z {z : Int} : LitQ z z:=⟨rfl⟩
instance : LitQ 0 0:=⟨rfl⟩
instance : LitQ 1 1:=⟨rfl⟩
instance : LitQ 2 2:=⟨rfl⟩
instance : LitQ 3 3:=⟨rfl⟩
instance : LitQ 4 4:=⟨rfl⟩
instance : LitQ 5 5:=⟨rfl⟩
instance : LitQ 6 6:=⟨rfl⟩
instance : LitQ 7 7:=⟨rfl⟩
instance : LitQ 8 8:=⟨rfl⟩
instance : LitQ 9 9:=⟨rfl⟩
instance : LitQ 10 10:=⟨rfl⟩
instance : LitQ 12 12:=⟨rfl⟩
instance : LitQ 16 16:=⟨rfl⟩
instance : LitQ 24 24:=⟨rfl⟩
instance : LitQ 25 25:=⟨rfl⟩
instance : LitQ (-1) (-1):=⟨rfl⟩
instance : LitQ (-2) (-2):=⟨rfl⟩
instance : LitQ (-3) (-3):=⟨rfl⟩
instance : LitQ (-4) (-4):=⟨rfl⟩
instance {z : Int} {x : Rat} [e : LitQ z x] : Con Tryz.prog 123 [IT z] (I64 z) (QC 64 x):=.o1 fun hok h1 hp=>by
  refine St.enter (N:=7) Tryz.func123 rfl rfl rfl hok (enter1 h1) fun a=>?_
  repeat' (first|((with_reducible refine gS_ ?_);first|((with_reducible refine gL_ ?_);first|refine W.run ?_ fun a w G=>?_|refine W.mv fun a w G=>?_|refine W.asg fun a w G=>?_|(refine W.nn hK ?_;clear hK K)|refine W.nl ?_|refine W.al fun b a w G=>?_|refine W.st fun w=>?_|refine W.stp fun w=>?_|refine W.ste ?_ fun w=>?_)|((with_reducible refine gC_ ?_);first|refine W.reg fun K hK=>?_|refine W.reg1 ?_|refine W.sq fun K hK=>?_|refine W.sk ?_|refine W.rt ?_)|((with_reducible refine W.kn hK ?_);clear hK K)|with_reducible refine W.tr ?_|with_reducible refine W.br ?_|refine W.rt1 rfl ?_)|clear hK K|clear hu|exact True.intro|exact Nat.le_trans (by clear hp;omega) hp|exact Nat.le_trans (by clear hp;omega) hp.1|exact Nat.le_trans (by clear hp;omega) hp.2|(clear hp;omega)|apply And.intro|refine GI.i fun _=>?_|with_reducible rfl|decide|(simp only [List.length_cons,List.length_nil];omega))
  all_goals first | decide | exact hp.1 | exact hp.2 | exact frac_one.trans e.h
theorem sgn_z {y : Int} (h : y.sign = 0) : y = 0:=by have:=sgn_cases y;omega
theorem sgn_nz {y : Int} (h : ¬ y.sign = 0) : y ≠ 0:=fun e=>h (by rw [e];rfl)
theorem w96 {n m : Nat} {x y : Int} : Con Tryz.prog 96 [W n x,W m y] (max n m ≤ BIG ∧ 1 ≤ max n m) (MT.tup2 (QC (max n m) (Rat.divInt x y)) (.ex (errV 41 (if y = 0 then 8 else 0)))):=.o2 fun hok h1 h2 hp=>by
  refine St.enter (N:=14) Tryz.func96 rfl rfl rfl hok (enter2 h1 h2) fun a=>?_
  repeat' (first|((with_reducible refine gS_ ?_);first|((with_reducible refine gL_ ?_);first|refine W.run ?_ fun a w G=>?_|refine W.mv fun a w G=>?_|refine W.asg fun a w G=>?_|refine W.bx fun b a w G=>?_|(refine W.nn hK ?_;clear hK K)|refine W.nl ?_|refine W.al fun b a w G=>?_|refine W.st fun w=>?_|refine W.stp fun w=>?_|refine W.ste ?_ fun w=>?_)|((with_reducible refine gC_ ?_);first|refine W.reg fun K hK=>?_|refine W.reg1 ?_|refine W.sq fun K hK=>?_|refine W.sk ?_|refine W.cd (fun hc=>?_) (fun hc=>?_)|refine W.cb (fun hc=>?_) (fun hc=>?_)|refine W.rt ?_)|((with_reducible refine W.kn hK ?_);clear hK K)|with_reducible refine W.tr ?_|with_reducible refine W.br ?_|refine W.rt2 rfl ?_ ?_)|clear hK K|clear hu|exact True.intro|exact Nat.le_trans (by clear hp;omega) hp|exact Nat.le_trans (by clear hp;omega) hp.1|exact Nat.le_trans (by clear hp;omega) hp.2|(clear hp;omega)|apply And.intro|refine GI.i fun _=>?_|with_reducible rfl|decide|(simp only [List.length_cons,List.length_nil];omega))
  all_goals first
    | (have h0:=sgn_z hc;subst h0;first | exact (Rat.divInt_zero _).symm | exact Rat.divInt_zero _ | rfl)
    | exact sgn_nz hc
    | exact if_neg (sgn_nz hc)
    | exact (if_neg (sgn_nz hc)).symm
instance {n m : Nat} {x y : Int} {τ1 : MT} [j1 : NW τ1 (W n x)] {τ2 : MT} [j2 : NW τ2 (W m y)] : Con Tryz.prog 96 [τ1,τ2] (max n m ≤ BIG ∧ 1 ≤ max n m) (MT.tup2 (QC (max n m) (Rat.divInt x y)) (.ex (errV 41 (if y = 0 then 8 else 0)))):=.o2 fun hok h1 h2 hp=>w96.c2 hok (j1.h h1) (j2.h h2) hp
theorem num_nz {x : Rat} (h : x ≠ 0) : x.num ≠ 0:=fun e=>h (Rat.num_eq_zero.1 e)
theorem w122 {n m : Nat} {x y : Rat} : Con Tryz.prog 122 [QV n x,QV m y] (y ≠ 0 ∧ n + m ≤ BIG) (MT.tup2 (QC (n + m) (x / y)) (.ex (errV 41 (0)))):=.o2 fun hok h1 h2 hp=>by
  refine St.enter (N:=29) Tryz.func122 rfl rfl rfl hok (enter2 h1 h2) fun a=>?_
  repeat' (first|((with_reducible refine gS_ ?_);first|((with_reducible refine gL_ ?_);first|refine W.run ?_ fun a w G=>?_|refine W.mv fun a w G=>?_|refine W.asg fun a w G=>?_|refine W.bx fun b a w G=>?_|(refine W.nn hK ?_;clear hK K)|refine W.nl ?_|refine W.al fun b a w G=>?_|refine W.st fun w=>?_|refine W.stp fun w=>?_|refine W.ste ?_ fun w=>?_)|((with_reducible refine gC_ ?_);first|refine W.reg fun K hK=>?_|refine W.reg1 ?_|refine W.sq fun K hK=>?_|refine W.ds ?_ (fun β a w G hu=>W.fin ?_ hu) mixedOrders (by kernel_rfl)|refine W.sk ?_|refine W.rt ?_)|((with_reducible refine W.kn hK ?_);clear hK K)|with_reducible refine W.tr ?_|with_reducible refine W.br ?_|refine W.rt2 rfl ?_ ?_)|clear hK K|clear hu|exact True.intro|exact Nat.le_trans (by clear hp;omega) hp|exact Nat.le_trans (by clear hp;omega) hp.1|exact Nat.le_trans (by clear hp;omega) hp.2|(clear hp;omega)|apply And.intro|refine GI.i fun _=>?_|with_reducible rfl|decide|(simp only [List.length_cons,List.length_nil];omega))
  all_goals first
    | (have:=h1.1;omega)
    | exact div_frac hp.1
    | exact if_neg (Int.mul_ne_zero (den_ne _) (num_nz hp.1))
    | exact Int.mul_ne_zero (den_ne _) (num_nz hp.1)
instance {n m : Nat} {x y : Rat} {τ1 : MT} [j1 : NQ τ1 (QV n x)] {τ2 : MT} [j2 : NQ τ2 (QV m y)] : Con Tryz.prog 122 [τ1,τ2] (y ≠ 0 ∧ n + m ≤ BIG) (MT.tup2 (QC (n + m) (x / y)) (.ex (errV 41 (0)))):=.o2 fun hok h1 h2 hp=>w122.c2 hok (j1.h h1) (j2.h h2) hp
end Go.Proofs.YtboicjlbbbodgaaGreatDoor
namespace Go.Proofs.YtboicjlbbbodgaaGreatDoor
open Go.RowKit (Below)
def EP (k : Option Nat) (b i : Nat) : MT:=.ex (.pointer (some ⟨b,i * k.getD 1,none⟩))
abbrev OSL (b n c : Nat) : MT:=.ex (.slice (some ⟨b,0,none⟩) n c)
def AR (n : Nat) (k : Option Nat) (τs : List MT) : MT:=⟨fun v G=>(ARN k τs).t v G ∧ Shaped (some n) v,fun hle h=>⟨(ARN k τs).mono hle h.1,h.2⟩⟩
instance {n : Nat} {k : Option Nat} {τs : List MT} : Shp (AR n k τs) (some n):=⟨fun h=>h.2⟩
class AsR (τ : MT) (k : outParam (Option Nat)) (α : outParam Type) (T : outParam (α → MT)) (xs : outParam (List α)) : Prop where
  h : ∀ {v : Value} {G : Gh},τ.t v G → (ROWS k (xs.map T)).t v G
instance AsR.r {α : Type} {T : α → MT} {xs : List α} {k : Option Nat} : AsR (ROWS k (xs.map T)) k α T xs:=⟨fun h=>h⟩
instance AsR.a {α : Type} {T : α → MT} {xs : List α} {n : Nat} {k : Option Nat} : AsR (AR n k (xs.map T)) k α T xs:=⟨fun h=>ARN.rows h.1⟩
instance AsT.nat {n : Nat} : AsT (NT n) NT n:=⟨fun h=>h⟩
class LitN (z : Int) (n : outParam Nat) : Prop where
  h : z = n
instance LitN.n {n : Nat} : LitN (n : Int) n:=⟨rfl⟩
instance : LitN 0 0:=⟨rfl⟩
instance : LitN 1 1:=⟨rfl⟩
instance : LitN 2 2:=⟨rfl⟩
instance : LitN 3 3:=⟨rfl⟩
instance : LitN 4 4:=⟨rfl⟩
instance : LitN 5 5:=⟨rfl⟩
instance : LitN 6 6:=⟨rfl⟩
instance : LitN 7 7:=⟨rfl⟩
instance : LitN 8 8:=⟨rfl⟩
instance : LitN 9 9:=⟨rfl⟩
instance : LitN 10 10:=⟨rfl⟩
instance : LitN 11 11:=⟨rfl⟩
instance : LitN 12 12:=⟨rfl⟩
instance AsT.lit {z : Int} {n : Nat} [h : LitN z n] : AsT (.ex (.int .i64 z)) NT n:=⟨fun e=>by have:=h.h;subst this;exact e⟩
instance AsT.litI {z : Int} : AsT (.ex (.int .i64 z)) (fun z=>IT z) z:=⟨fun h=>h⟩
section
variable {P : Program} {L : List (Nat × MT)} {B : List BX} {x y : Operand} {u v : List Nat} {t t' ty : TypeId} {τ τ' τb : MT} {n c b i j : Nat} {m : Int} {k kt : Option Nat} {α : Type} {T : α → MT} {xs : List α}
instance Op1.ixa [e : ArE P t n k] [h : Opd L x (PB b) u] [h2 : Opd L y (IT m) v] : Op1 P L B (.indexAddr t x y) (0 ≤ m ∧ m < n) (EP k b m.toNat) (u ++ v):=⟨fun ho hok e' _ hp=>by
  obtain ⟨e0,h3,h4⟩:=e.h
  exact .ixAr hok ho h3 h4 (h.h e'.l) (h2.h e'.r) (i:=m.toNat) (by omega) (by omega) rfl⟩
instance (priority:=1100) Op1.ixaN [e : ArE P t n k] [h : Opd L x (PB b) u] [h2 : Opd L y (NT j) v] : Op1 P L B (.indexAddr t x y) (j < n) (EP k b j) (u ++ v):=⟨fun ho hok e' _ hp=>by
  obtain ⟨e0,h3,h4⟩:=e.h
  exact .ixAr hok ho h3 h4 (h.h e'.l) (h2.h e'.r) (i:=j) rfl hp rfl⟩
instance (priority:=1200) Op1.ixaC [e : ArE P t n k] [h : Opd L x (PB b) u] {z : Int} [lz : LitN z j] : Op1 P L B (.indexAddr t x (.const (.int .i64 z))) (j < n) (EP k b j) u:=⟨fun ho hok e' _ hp=>by
  obtain ⟨e0,h3,h4⟩:=e.h
  exact .ixAr hok ho h3 h4 (h.h e') rfl (i:=j) lz.h hp rfl⟩
theorem ep_sl {o : Oper} {a : Act} {w : World} {G : Gh} (hok : Gok w G) (ho : o.op = .indexAddr t x y) (s : SlE P t k) (hx : (OSL b n c).t (a.eval x) G) (hy : a.eval y = .int .i64 m) (hm : m = (j : Int)) (hj : j < n) : OpR P o a w G (EP k b j):=by
  obtain ⟨e',h1,h2⟩:=s.h
  exact .ixA hok ho h1 h2 hx hy hm hj (by rw [Nat.zero_add];rfl)
instance (priority:=900) Op1.ixo [s : SlE P t k] [h : Opd L x (OSL b n c) u] [h2 : Opd L y (IT m) v] : Op1 P L B (.indexAddr t x y) (0 ≤ m ∧ m < n) (EP k b m.toNat) (u ++ v):=⟨fun ho hok e' _ hp=>ep_sl hok ho s (h.h e'.l) (h2.h e'.r) (by omega) (by omega)⟩
instance (priority:=950) Op1.ixoN [s : SlE P t k] [h : Opd L x (OSL b n c) u] [h2 : Opd L y (NT j) v] : Op1 P L B (.indexAddr t x y) (j < n) (EP k b j) (u ++ v):=⟨fun ho hok e' _ hp=>ep_sl hok ho s (h.h e'.l) (h2.h e'.r) rfl hp⟩
instance (priority:=960) Op1.ixoC [s : SlE P t k] [h : Opd L x (OSL b n c) u] {z : Int} [lz : LitN z j] : Op1 P L B (.indexAddr t x (.const (.int .i64 z))) (j < n) (EP k b j) u:=⟨fun ho hok e' _ hp=>ep_sl hok ho s (h.h e') rfl lz.h hp⟩
instance (priority:=900) Op1.leno [s : SlE P t k] [h : Opd L x (OSL b n c) u] : Op1 P L B (.call { callee:=.builtin .len,args:=#[x],argTypes:=#[t] }) True (NT n) u:=⟨fun ho hok e _ _=>by obtain ⟨e',h1,h2⟩:=s.h;exact .lenA hok ho h1 (h.h e) rfl⟩
instance Op1.tas {t0 e : TypeId} [ei : ErI P e] [h : Opd L x (.ex (errV e m)) u] : Op1 P L B (.typeAssert x t0 e true) (m ≠ 0) (.tup2 (IT m) (BT true)) u:=⟨fun ho hok e' _ hp=>by
  obtain ⟨j,k',h1,h2,h3⟩:=ei.h
  exact .tass hok ho (h.h e') hp h3 ⟨_,_,rfl,rfl,rfl⟩⟩
instance Op1.lde [h : Opd L x (EP k b i) u] [hb : Bx B b c ty (some n) τb] [r : AsR τb k α T xs] [ih : Inhabited α] [hT : TyS P t k] : Op1 P L B (.load t x) (i < xs.length) (T (xs.getD i default)) (u ++ [1000000 + c]):=⟨fun ho hok e hB hp=>by
  obtain ⟨h1,h2,v,h3,h4,h5⟩:=hB c _ (by simp) hb.m
  exact .ldSM (W0:=_) hok ho (h.h e.l) (⟨h1,h2,v,h3,h4,r.h h5⟩ : BX.ok ⟨b,ty,some n,ROWS k (xs.map T)⟩ _ _ _) hT.h hp⟩
instance (priority:=1100) Op1.ldw [h : Opd L x (PB b) u] [hb : Bx B b c ty (some n) (ROWS k (xs.map T))] [hT : TyS P t (some n)] : Op1 P L B (.load t x) (xs.length * k.getD 1 = n) (AR n k (xs.map T)) (u ++ [1000000 + c]):=⟨fun ho hok e hB hp=>by
  obtain ⟨h1,h2,v,h3,h4,h5⟩:=hB c _ (by simp) hb.m
  exact .run hok (by simp [execOp,ho,show _ = _ from h.h e.l,Instr.loadAt,Instr.sureAddr,load_whole hT.h h3 h4]) ⟨ROWS.arn h5 h4 (by rw [List.length_map];exact hp),h4⟩⟩
instance Op1.ixv [Inhabited α] [e : ArE P t n k] [h : Opd L x (AR c k (xs.map T)) u] [h2 : Opd L y (NT j) v] : Op1 P L B (.index t x y) (n = xs.length ∧ j < n) (T (xs.getD j default)) (u ++ v):=⟨fun ho hok e' _ hp=>by
  obtain ⟨e0,h3,h4⟩:=e.h
  exact .ixV hok ho h3 h4 (h.h e'.l).1 (h2.h e'.r) rfl hp.1 hp.2⟩
instance Op1.ixvC [Inhabited α] [e : ArE P t n k] [h : Opd L x (AR c k (xs.map T)) u] {z : Int} [lz : LitN z j] : Op1 P L B (.index t x (.const (.int .i64 z))) (n = xs.length ∧ j < n) (T (xs.getD j default)) u:=⟨fun ho hok e' _ hp=>by
  obtain ⟨e0,h3,h4⟩:=e.h
  exact .ixV hok ho h3 h4 (h.h e').1 rfl lz.h hp.1 hp.2⟩
end
theorem part_store {P : Program} {a : Act} {w : World} {t ty : TypeId} {x y : Operand} {b j n : Nat} {kt : Option Nat} {cs : Array Value} (hx : a.eval x = .pointer (some ⟨b, j, none⟩)) (hT : tyS P t kt = true) (hs : Shaped kt (a.eval y))
    (hv : w.heap[b]? = some (.cells cs ty (0,0))) (hc : Shaped (some n) (.agg cs)) (hn : j + kt.getD 1 ≤ n) {v1 : Value} (e : v1 = .agg (cs.toList.take j ++ (a.eval y).cells.toList ++ cs.toList.drop (j + kt.getD 1)).toArray) :
    Shaped (some n) v1 ∧ ∀ {o : Oper} (Q : Exit → Act → World → Prop) (K : Act → World → Prop),o.op = .store t x y → o.dst = none → K a (w.setRow b v1.cells) → o.wp P a w K Q:=by
  subst e
  obtain ⟨cs',e1,hcs,hone⟩:=hc
  injection e1 with e1
  subst e1
  have hl : (a.eval y).cells.toList.length = kt.getD 1:=by simpa using shaped_size hs
  have hst:=run_storeCells_at b j ty (a.eval y).cells.toList 0 cs w (P:=P) hv (by rw [hl];omega) (shaped_cells hs)
  rw [hl] at hst
  simp only [Nat.add_zero] at hst
  refine ⟨⟨_,rfl,?_,fun c hc=>?_⟩,fun {o} Q K ho hd hK=>?_⟩
  · have:=shaped_size hs;simp at hl ⊢;omega
  · simp only [List.mem_append] at hc
    rcases hc with (hc | hc) | hc
    · exact hone c (List.mem_of_mem_take hc)
    · exact shaped_cells hs c hc
    · exact hone c (List.mem_of_mem_drop hc)
  · have hr : (execOp a.eval o).run P w = .ok .skip (w.setRow b (cs.toList.take j ++ (a.eval y).cells.toList ++ cs.toList.drop (j + kt.getD 1)).toArray) := by
      simp only [execOp,ho,Instr.storeAt,hx,Instr.sureAddr,storeVar,Sem.run_bind,Sem.run_pure,Result.andThen_ok,tyS_size hT,shaped_size hs]
      simp [hst]
    unfold Oper.wp
    rw [hr]
    simp only [Oper.upon,hd]
    exact hK
theorem ROWS.set {P : Program} {k : Option Nat} {τs : List MT} {τ : MT} {G : Gh} {cs : Array Value} {i n : Nat} {y : Value} (h : (ROWS k τs).t (.agg cs) G) (hc : Shaped (some n) (.agg cs)) (hs : Shaped k y) (hy : τ.t y G) (hi : i < τs.length) :
    i * k.getD 1 + k.getD 1 ≤ n ∧ (ROWS k (τs.set i τ)).t (.agg (cs.toList.take (i * k.getD 1) ++ y.cells.toList ++ cs.toList.drop (i * k.getD 1 + k.getD 1)).toArray) G:=by
  obtain ⟨us,r,e,hE⟩:=h
  injection e with e
  subst e
  obtain ⟨cs',e1,e2,_⟩:=cells_one hc
  injection e1 with e1
  have hn : (flat us ++ r).length = n:=by rw [← e2,← e1];simp
  rw [List.length_append,flat_len hE.sizes,hE.1] at hn
  have h2 : (i + 1) * k.getD 1 ≤ τs.length * k.getD 1:=Nat.mul_le_mul_right _ hi
  rw [Nat.succ_mul] at h2
  refine ⟨by omega,us.set i y,r,?_,hE.set hs hy⟩
  have hlu : i < us.length:=by rw [hE.1];exact hi
  rw [flat_set hE.sizes hlu (shaped_size hs)]
  congr 2
  show List.take _ (flat us ++ r) ++ _ ++ List.drop _ (flat us ++ r) = _
  have hfl : i * k.getD 1 + k.getD 1 ≤ (flat us).length:=by
    rw [flat_len hE.sizes,← Nat.succ_mul];exact Nat.mul_le_mul_right _ hlu
  rw [List.take_append_of_le_length (by omega),List.drop_append_of_le_length hfl]
  simp [List.append_assoc]
section
variable {P : Program} {L : List (Nat × MT)} {B B' : List BX} {x y : Operand} {u v : List Nat} {t ty : TypeId} {τ τ' τb : MT} {n c b i j : Nat} {k kt : Option Nat} {α : Type} {T : α → MT} {xs : List α} {z : α}
instance Sto.e [hx : Opd L x (EP k b i) u] [hb : Bx B b j ty (some n) τb] [r : AsR τb k α T xs] [hT : TyS P t k] [hy : Opd L y τ v] [hs : ShK τ k] [ht : AsT τ T z] : Sto P L B t x y j (ROWS k ((xs.set i z).map T)) (i < xs.length) (u ++ v):=⟨_,hb.m,fun {a w G v0} hp hE h1 h2 h3=>by
  have h2':=h2
  obtain ⟨cs,rfl,_,_⟩:=h2'
  have hv:=hy.h hE.r
  have hr:=ROWS.set (P:=P) (r.h h3) h2 (hs.h hv) (ht.h hv) (by rw [List.length_map];exact hp)
  obtain ⟨h4,h5⟩:=part_store (P:=P) (hx.h hE.l) hT.h (hs.h hv) h1 h2 hr.1 rfl
  exact ⟨_,h4,by rw [List.map_set];exact hr.2,h5⟩⟩
instance Sto.p [hx : Opd L x (.ex (.pointer (some ⟨b,i,none⟩))) u] [hb : Bx B b j ty (some n) τb] [hT : TyS P t kt] [hy : Opd L y τ v] [hs : ShK τ kt] [hu : Upd τb i kt τ τ'] : Sto P L B t x y j τ' (i + kt.getD 1 ≤ n) (u ++ v):=⟨_,hb.m,fun {a w G v0} hp hE h1 h2 h3=>by
  have h2':=h2
  obtain ⟨cs,rfl,_,_⟩:=h2'
  have hv:=hy.h hE.r
  obtain ⟨h4,h5⟩:=part_store (P:=P) (hx.h hE.l) hT.h (hs.h hv) h1 h2 hp rfl
  exact ⟨_,h4,hu.h h3 (hs.h hv) hv,h5⟩⟩
class BAt (B : List BX) (j : Nat) (τ : MT) (B' : outParam (List BX)) : Prop where
  h : ∃ x,B[j]? = some x ∧ B' = B.set j ⟨x.b,x.ty,x.k,τ⟩
instance BAt.hd {b : Nat} {ty : TypeId} {k : Option Nat} {σ : MT} : BAt (⟨b,ty,k,σ⟩ :: B) 0 τ (⟨b,ty,k,τ⟩ :: B):=⟨_,rfl,rfl⟩
instance BAt.tl {q : BX} [h : BAt B j τ B'] : BAt (q :: B) (j + 1) τ (q :: B'):=⟨by obtain ⟨x,h1,h2⟩:=h.h;exact ⟨x,h1,by rw [h2];rfl⟩⟩
variable {W0 : World} {G0 : Gh} {N : Nat} {a : Act} {w : World} {G : Gh} {Q : Exit → Act → World → Prop} {pre : Prop} {rest ops : List Oper} {arr : Array Oper} {pos : String} {aft : Array Edge} {d e : Nat}
theorem W.ste [s : Sto P L B t x y j τ pre u] [hB : BAt B j τ B'] (hp : pre) (K : ∀ w,St W0 G0 N L B' a w G → wpList P arr Q rest a w) {ty' : TypeId} : St W0 G0 N L B a w G → wpList P arr Q (⟨none,.store t x y,ty',pos,aft,none⟩ :: rest) a w:=fun S =>
  wpList_plain rfl fun K' hK=>by
    obtain ⟨xb,h1,h2⟩:=s.h
    obtain ⟨x0,h3,h4⟩:=hB.h
    rw [h1] at h3;cases h3
    obtain ⟨_,_,v,hv,hs,ht⟩:=S.bx j _ h1
    obtain ⟨v1,h5,h6,h7⟩:=h2 hp (S.env u) hv hs ht
    exact h7 Q K' rfl rfl (hK _ _ (K _ (h4 ▸ S.setVar j h1 h5 h6)))
class OwnAt (d : Nat) : Prop
instance (priority:=1200) Run.own {all : List Oper} {op : Op} [OwnAt d] : Run P B all L (⟨some d,op,ty,pos,aft,none⟩ :: ops) True [] L (⟨some d,op,ty,pos,aft,none⟩ :: ops):=⟨.stop⟩
end
class BEr (B : List BX) (i : Nat) (B' : outParam (List BX)) : Prop where
  h : B' = B.eraseIdx i
instance BEr.z {x : BX} {B : List BX} : BEr (x :: B) 0 B:=⟨rfl⟩
instance BEr.s {x : BX} {B B' : List BX} {i : Nat} [h : BEr B i B'] : BEr (x :: B) (i + 1) (x :: B'):=⟨by rw [h.h];rfl⟩
class Tl (B own : List BX) (Bh : outParam (List BX)) : Prop where
  h : B = Bh ++ own
instance Tl.nil {own : List BX} : Tl own own []:=⟨rfl⟩
instance Tl.cons {x : BX} {B own Bh : List BX} [h : Tl B own Bh] : Tl (x :: B) own (x :: Bh):=⟨by rw [h.h];rfl⟩
class AppX (Bh own : List BX) (B : outParam (List BX)) : Prop where
  h : Bh ++ own = B
instance AppX.nil {own : List BX} : AppX [] own own:=⟨rfl⟩
instance AppX.cons {x : BX} {Bh own B : List BX} [h : AppX Bh own B] : AppX (x :: Bh) own (x :: B):=⟨by rw [← h.h];rfl⟩
class PtsT {α : Type} (fs : List (Option Nat × MT)) (k : Option Nat) (T : α → MT) (ys : outParam (List α)) : Prop where
  h : ∀ {us : List Value} {G : Gh},PF fs us G → Els k (ys.map T) us G
instance PtsT.nil {α : Type} {k : Option Nat} {T : α → MT} : PtsT [] k T []:=⟨fun h=>⟨h.1,fun i τ u h=>by simp at h⟩⟩
instance PtsT.cons {α : Type} {k : Option Nat} {T : α → MT} {τ : MT} {y : α} {fs : List (Option Nat × MT)} {ys : List α} [h : AsT τ T y] [l : PtsT fs k T ys] : PtsT ((k,τ) :: fs) k T (y :: ys):=⟨fun hp=>by
  obtain ⟨u,us',rfl,hs,ht,hp'⟩:=hp.cons
  exact .cons hs (h.h ht) (l.h hp')⟩
instance (priority:=800) Cv.pr {α : Type} {k : Option Nat} {T : α → MT} {fs : List (Option Nat × MT)} {xs ys : List α} [h : PtsT fs k T ys] : Cv (PTS fs) (ROWS k (xs.map T)) (ys = xs):=⟨fun e v G hv=>by
  subst e
  obtain ⟨us,rfl,h1,h2⟩:=hv
  exact ⟨us,[],by rw [List.append_nil],h.h ⟨h1,h2⟩⟩⟩
instance (priority:=800) Cv.pa {α : Type} {k : Option Nat} {T : α → MT} {n : Nat} {fs : List (Option Nat × MT)} {xs ys : List α} [s : ShN fs n] [h : PtsT fs k T ys] : Cv (PTS fs) (AR n k (xs.map T)) (ys = xs):=⟨fun e v G hv=>by
  subst e
  have hs:=PTS.shaped s.h hv
  obtain ⟨us,rfl,h1,h2⟩:=hv
  exact ⟨⟨us,rfl,h.h ⟨h1,h2⟩⟩,hs⟩⟩
instance (priority:=800) Cv.rr {α : Type} {k : Option Nat} {T : α → MT} {xs ys : List α} : Cv (ROWS k (ys.map T)) (ROWS k (xs.map T)) (ys = xs):=⟨fun e v G h=>e ▸ h⟩
instance (priority:=800) Cv.aa {α : Type} {k : Option Nat} {T : α → MT} {n : Nat} {xs ys : List α} : Cv (AR n k (ys.map T)) (AR n k (xs.map T)) (ys = xs):=⟨fun e v G h=>e ▸ h⟩
instance (priority:=800) Cv.ar {α : Type} {k : Option Nat} {T : α → MT} {n : Nat} {xs ys : List α} : Cv (AR n k (ys.map T)) (ROWS k (xs.map T)) (ys = xs):=⟨fun e v G h=>e ▸ ARN.rows h.1⟩
class AsLT {α : Type} (τ : MT) (k : Option Nat) (T : α → MT) (ys : outParam (List α)) : Prop where
  h : ∀ {v : Value} {G : Gh},τ.t v G → (LS k (ys.map T)).t v G
instance AsLT.of {α : Type} {τ : MT} {k : Option Nat} {T : α → MT} {τs : List MT} {ys : List α} [h : AsLS τ k τs] [l : AsTL τs T ys] : AsLT τ k T ys:=⟨fun hv=>by
  obtain ⟨A,c,us,h1,h2,h3,h4,h5⟩:=LS.vals (h.h hv)
  have hl:=l.h.1
  refine LS.of_vals (A:=A) (c:=c) (us:=us) (by rw [h1];simp [hl]) (by simp [← hl,h2]) (by simp [← hl,h3]) ⟨by rw [h4.1];simp [hl],fun i σ u hi hu=>?_⟩ h5
  rw [List.getElem?_map] at hi
  cases hy : ys[i]? with
  | none=>rw [hy] at hi;cases hi
  | some y0 =>
    rw [hy] at hi;cases hi
    have hlt : i < τs.length:=by rw [hl];exact (List.getElem?_eq_some_iff.1 hy).1
    have h6:=h4.2 i τs[i] u (List.getElem?_eq_getElem hlt) hu
    obtain ⟨y1,h7,h8⟩:=l.h.2 i τs[i] (List.getElem?_eq_getElem hlt)
    rw [hy] at h7;cases h7
    exact ⟨h6.1,h8 h6.2⟩⟩
section
variable {P : Program} {L L' : List (Nat × MT)} {B B' Bh : List BX} {x y : Operand} {u v : List Nat} {t ty e : TypeId} {τ τ' τb : MT} {n c b i j by0 d : Nat} {k : Option Nat} {α : Type} {T : α → MT} {xs ys : List α} {z0 : Value}
variable {W0 : World} {G0 : Gh} {N : Nat} {a : Act} {w : World} {G : Gh} {Q : Exit → Act → World → Prop} {pre : Prop} {rest ops : List Oper} {arr : Array Oper} {pos : String} {aft : Array Edge}
theorem W.mk (T : α → MT) (z : α) {s0 : Nat} {mt : MT} [el : ElS P t e k by0 z0] [ks : KS k s0] [zv : ZV ⟨k, z0, mt⟩] [az : AsT mt T z] [hx : Opd L x (NT n) u] [hy : Opd L y (NT n) v] (hp : n * by0 ≤ 281474976710656 ∧ n ≤ 281474976710656) (K : ∀ b a w G, St W0 G0 N ((d, OSL b n n) :: L) (⟨b, e, some (n * s0), ROWS k ((List.replicate n z).map T)⟩ :: B) a w G → wpList P arr Q rest a w) (hdN : (decide (d < N)) = true := by rfl) (hf : fresh d L = true := by rfl) :
    St W0 G0 N L B a w G → wpList P arr Q (⟨some d,.makeSlice t x y,ty,pos,aft,none⟩ :: rest) a w:=fun S =>
  S.mkSM rfl rfl rfl el.h1 el.h2 zv.s (fun G=>az.h (zv.t G)) (hx.h (S.env u)) (hy.h (S.env v)) rfl rfl hp.1 hp.2 hdN hf fun b a w G S=>K b a w G (by rw [ks.h] at S;exact S)
theorem W.cp {nn cc : Nat} {t' : TypeId} {σ : MT} [el : ElS P t e k by0 z0] [hx : Opd L x (OSL b n cc) u] [hb : Bx B b i e (some nn) τb] [r : AsR τb k α T xs] [hy : Opd L y σ v] [aq : AsLT σ k T ys] [hB : BAt B i (ROWS k ((ys.take n ++ xs.drop ys.length).map T)) B'] (hp : n = xs.length) (K : ∀ a w G, St W0 G0 N ((d, NT (Nat.min ys.length n)) :: L) B' a w G → wpList P arr Q rest a w) (hdN : (decide (d < N)) = true := by rfl) (hf : fresh d L = true := by rfl) :
    St W0 G0 N L B a w G → wpList P arr Q (⟨some d,.call { callee:=.builtin .copy,args:=#[x,y],argTypes:=#[t,t'] },ty,pos,aft,none⟩ :: rest) a w:=fun S=>by
  obtain ⟨x0,h3,h4⟩:=hB.h
  rw [hb.m] at h3;cases h3
  refine (S.castBox i hb.m fun V hV _=>r.h hV).copySM i rfl rfl rfl el.h1 el.h2 (n:=n) (cp:=cc) (by rw [List.getElem?_set_self (List.getElem?_eq_some_iff.1 hb.m).1]) (hx.h (S.env u)) hp (aq.h (hy.h (S.env v))) hdN hf fun a w G S=>K a w G ?_
  rw [h4];simpa using S
theorem W.ap {own : List BX} {V : Value} {B2 : List BX → List BX} {σ : MT} {mt : MT} (hO : OWNS k e V own (xs.map T)) [tl : Tl B own Bh] [el : ElS P t e k by0 z0] [zv : ZV ⟨k, z0, mt⟩] [hx : Opd L x (.ex V) u] [hy : Opd L y σ v] [aq : AsLT σ k T ys] [ap : ∀ own', AppX Bh own' (B2 own')] (hp : 0 < ys.length ∧ xs.length + ys.length ≤ LIM ∧ (xs.length + ys.length) * by0 ≤ 140737488355328)
    (K : ∀ V own a w G,OWNS k e V own ((xs ++ ys).map T) → St W0 G0 N ((d,.ex V) :: L) (B2 own) a w G → wpList P arr Q rest a w) (hdN : (decide (d < N)) = true:=by rfl) (hf : fresh d L = true:=by rfl) :
    St W0 G0 N L B a w G → wpList P arr Q (⟨some d,.call { callee:=.builtin .append,args:=#[x,y],argTypes:=#[t,t] },ty,pos,aft,none⟩ :: rest) a w:=fun S=>by
  have S':=S
  rw [tl.h] at S'
  exact S'.appSM rfl rfl rfl el.h1 el.h2 zv.s (hx.h (S.env u)) hO (aq.h (hy.h (S.env v))) hp.1 hp.2.1 hp.2.2 hdN hf fun V own a w G h S=>K V own a w G h ((ap own).h ▸ S)
theorem W.fz {nn : Nat} {q : Prop} (t : Nat) [hl : Lk L t (OSL b n c)] [hb : Bx B b i ty (some nn) τb] [r : AsR τb k α T xs] [be : BEr B i B'] [rm : Rm L t L'] (hp : n = xs.length ∧ n ≤ c ∧ n ≤ LIM) (K : ∀ G,St W0 G0 N ((t,LS k (xs.map T)) :: L') B' a w G → q) : St W0 G0 N L B a w G → q:=fun S=>by
  obtain ⟨v,G',h1,h2,h3,h4,S'⟩:=S.freeze i hb.m
  have hv : (LS k (xs.map T)).t (tm a t) G':=ROWS.sl (r.h h1) h3 (by rw [List.length_map];exact hp.1) hp.2.1 hp.2.2 (S.mem hl.m)
  rw [← be.h] at S'
  exact K G' (S'.weak fun j p hj=>by
    rcases List.mem_cons.1 (List.mem_of_getElem? hj) with e1 | e1
    · subst e1;exact hv
    · exact S'.mem (rm.h p e1))
theorem W.fzo {own : List BX} {V : Value} {q : Prop} (t : Nat) (hO : OWNS k e V own (xs.map T)) [hl : Lk L t (.ex V)] [tl : Tl B own Bh] [rm : Rm L t L'] (hp : xs.length ≤ LIM) (K : ∀ G,St W0 G0 N ((t,LS k (xs.map T)) :: L') Bh a w G → q) : St W0 G0 N L B a w G → q:=fun S=>by
  have S':=S
  rw [tl.h] at S'
  obtain ⟨G',h1,h2,h3⟩:=S'.freezeS hO (by rw [List.length_map];exact hp)
  have hv : (LS k (xs.map T)).t (tm a t) G':=by rw [show tm a t = V from S.mem hl.m];exact h1
  exact K G' (h3.weak fun j p hj=>by
    rcases List.mem_cons.1 (List.mem_of_getElem? hj) with e1 | e1
    · subst e1;exact hv
    · exact h3.mem (rm.h p e1))
end
section
variable {P : Program} {B B' Bs Bs' : List BX} {L L' : List (Nat × MT)} {js : List Nat} {p1 p2 : Prop} {W0 : World} {G0 : Gh} {N : Nat} {a : Act} {w : World} {G : Gh} {Q : Exit → Act → World → Prop} {k : Option Nat} {e : TypeId} {own : List BX} {V : Value} {c : Code}
theorem St.wkT (S : St W0 G0 N L (Bs ++ own) a w G) [h : Wk L L' p1] [hb : WkB Bs Bs' js p2] (hp : p1) (hp2 : p2) (hn : nodupB js = true) : St W0 G0 N L' (Bs' ++ own) a w G where
  nxt:=S.nxt
  size:=S.size
  dfr:=S.dfr
  ty:=fun i p hi=>h.h hp (fun u=>S.env u) p (List.mem_of_getElem? hi)
  bx:=fun i x hi=>by
    rcases Nat.lt_or_ge i Bs'.length with hlt | hge
    · rw [List.getElem?_append_left hlt] at hi
      exact (hb.h hp2 (fun u=>S.front.bok u) i x hi).1
    · rw [List.getElem?_append_right hge] at hi
      exact S.bx (Bs.length + (i - Bs'.length)) x (by rw [List.getElem?_append_right (by omega),Nat.add_sub_cancel_left];exact hi)
  nd:=fun i j x y hx hy hij=>by
    have key : ∀ (i : Nat) (x : BX),(Bs' ++ own)[i]? = some x → ∃ m z,(Bs ++ own)[m]? = some z ∧ z.b = x.b ∧ (i < Bs'.length → m < Bs.length ∧ js[i]? = some m) ∧ (Bs'.length ≤ i → m = Bs.length + (i - Bs'.length)):=fun i x hi=>by
      rcases Nat.lt_or_ge i Bs'.length with hlt | hge
      · rw [List.getElem?_append_left hlt] at hi
        obtain ⟨_,m,z,h1,h2,h3⟩:=hb.h hp2 (fun u=>S.front.bok u) i x hi
        have hm:=(List.getElem?_eq_some_iff.1 h2).1
        exact ⟨m,z,by rw [List.getElem?_append_left hm];exact h2,h3,fun _=>⟨hm,h1⟩,fun h=>absurd hlt (by omega)⟩
      · rw [List.getElem?_append_right hge] at hi
        exact ⟨_,x,by rw [List.getElem?_append_right (by omega),Nat.add_sub_cancel_left];exact hi,rfl,fun h=>absurd hge (by omega),fun _=>rfl⟩
    obtain ⟨m,u,h1,h2,h3,h4⟩:=key i x hx
    obtain ⟨m',u',h1',h2',h3',h4'⟩:=key j y hy
    rw [← h2,← h2']
    refine S.nd m m' u u' h1 h1' ?_
    rcases Nat.lt_or_ge i Bs'.length with hi | hi <;> rcases Nat.lt_or_ge j Bs'.length with hj | hj
    · exact nodupB_ne hn (h3 hi).2 (h3' hj).2 hij
    · have:=(h3 hi).1;have:=h4' hj;omega
    · have:=(h3' hj).1;have:=h4 hi;omega
    · have:=h4 hi;have:=h4' hj;omega
namespace W
variable {α β : Type} {T : β → MT}
def InvO (W0 : World) (G0 : Gh) (N : Nat) (φ : α → Prop) (k : Option Nat) (e : TypeId) (T : β → MT) (xs : α → List β) (L : α → Value → List (Nat × MT)) (Bs : α → List BX) (x : α) (a : Act) (w : World) : Prop:=φ x ∧ ∃ V own G,OWNS k e V own ((xs x).map T) ∧ St W0 G0 N (L x V) (Bs x ++ own) a w G
theorem lpo (dh : Nat) {xs0 : List β} (hO : OWNS k e V own (xs0.map T)) (m : α → Nat) (φ : α → Prop) (xs : α → List β) (ws : List Nat) (nw : α → Value → List (Nat × MT)) (bw : α → List (Nat × MT)) (x0 : α) {L1 : List (Nat × MT)} {L' : α → Value → List (Nat × MT)} {Bs' : α → List BX} {B2 : α → List BX → List BX} [HeadD c dh] [tl : Tl B own Bs] [Rms L ws L1] [∀ x v, AppL (nw x v) L1 (L' x v)] [∀ x, BSetL L Bs (bw x) (Bs' x)] [ap : ∀ x o, AppX (Bs' x) o (B2 x o)]
    [h : Wk L (L' x0 V) p1] [hb : WkB Bs (Bs' x0) js p2] (hx : xs0 = xs x0) (h0 : φ x0) (hp : p1) (hp2 : p2)
    (round : ∀ x,φ x → ∀ V own a w G,OWNS k e V own ((xs x).map T) → St W0 G0 N (L' x V) (B2 x own) a w G → c.wp P (Exit.then (fun a w=>∃ y,m y < m x ∧ InvO W0 G0 N φ k e T xs L' Bs' y a w) Q) a w) (hn : nodupB js = true:=by rfl) : St W0 G0 N L B a w G → (Code.loop c).wp P Q a w:=fun S =>
  wp_loopJ (fun μ a w=>∃ x,μ = m x ∧ InvO W0 G0 N φ k e T xs L' Bs' x a w) (m x0) ⟨x0,rfl,h0,V,own,G,hx ▸ hO,St.wkT (tl.h ▸ S) hp hp2 hn⟩ fun μ a w ⟨x,e,hx,V,own,G,hO,S⟩=>by
    subst e
    refine Code.wp_mono ?_ (round x hx V own a w G hO ((ap x own).h ▸ S))
    intro e a w h
    cases e <;> first | exact h | skip
    obtain ⟨y,h1,h2⟩:=h
    exact ⟨m y,h1,y,rfl,h2⟩
theorem ago {m : α → Nat} {φ : α → Prop} {xs : α → List β} {L' : α → Value → List (Nat × MT)} {Bs' : α → List BX} {x : α} {K : Act → World → Prop} {xs1 : List β} (hO : OWNS k e V own (xs1.map T)) (y : α) [tl : Tl B own Bs] [h : Wk L (L' y V) p1] [hb : WkB Bs (Bs' y) js p2] (hx : xs1 = xs y) (hm : m y < m x) (hy : φ y) (hp : p1) (hp2 : p2) (hn : nodupB js = true := by rfl) :
    St W0 G0 N L B a w G → Exit.then (fun a w=>∃ y,m y < m x ∧ InvO W0 G0 N φ k e T xs L' Bs' y a w) Q .normal a w:=fun S=>⟨y,hm,hy,V,own,G,hx ▸ hO,St.wkT (tl.h ▸ S) hp hp2 hn⟩
end W
end
end Go.Proofs.YtboicjlbbbodgaaGreatDoor
namespace Go.Proofs.YtboicjlbbbodgaaGreatDoor
open Go.RowKit (Below)
class Gnd (ρ : MT) : Prop where
  h : ∀ {v : Value} {G G' : Gh},ρ.t v G → ρ.t v G'
instance Gnd.e {x : Value} : Gnd (.ex x):=⟨fun h=>h⟩
instance Gnd.t2 {τ σ : MT} [h : Gnd τ] [k : Gnd σ] : Gnd (.tup2 τ σ):=⟨fun ⟨x,y,e,h1,h2⟩=>⟨x,y,e,h.h h1,k.h h2⟩⟩
instance Gnd.t3 {τ σ ρ : MT} [h : Gnd τ] [k : Gnd σ] [l : Gnd ρ] : Gnd (.tup3 τ σ ρ):=⟨fun ⟨x,y,z,e,h1,h2,h3⟩=>⟨x,y,z,e,h.h h1,k.h h2,l.h h3⟩⟩
section
variable {P : Program} {W0 : World} {a : Act} {w : World} {G : Gh} {o : Oper} {ρ : MT}
theorem OpR.lendG {f b : Nat} {ty : TypeId} {k : Option Nat} {τ : MT} {args : Array Operand} {ats : Array TypeId} (hok : Gok w G) (ho : o.op = .call { callee := .value (.func f), args := args, argTypes := ats }) (hc : callable P f = true) (hg : Gnd ρ)
    (hb : BX.ok ⟨b,ty,k,τ⟩ W0 w G) (h : ∀ G1 v,Gle G G1 → Gok w G1 → Shaped k v → τ.t v G → G1 b = some (.cells v.cells ty (0,0)) → Calls P f (args.map a.eval) w (Ret w G1 ρ)) : OpR P o a w G ρ:=by
  obtain ⟨h1,h2,v,hv,hs,hvt⟩:=hb
  simp only at h1 h2 hv hs hvt
  have hle : Gle G (Gput G b (.cells v.cells ty (0,0))):=fun c x hc=>by
    unfold Gput;split
    · rename_i e;subst e;rw [h2] at hc;cases hc
    · exact hc
  have hok1 : Gok w (Gput G b (.cells v.cells ty (0,0))):=fun c x hc=>by
    unfold Gput at hc;split at hc
    · rename_i e;subst e;cases hc;exact hv
    · exact hok c x hc
  have hcall:=h _ v hle hok1 hs hvt (by simp [Gput])
  intro Q K hK
  have hr : (execOp a.eval o).run P w = .ok (.enter f (args.map a.eval)) w:=by
    simp [execOp,ho,resolve,Act.eval,Deferred.ofValue,invoke,run_callFunc hc]
  unfold Oper.wp
  rw [hr]
  refine Calls.mono hcall fun e w' he=>?_
  obtain ⟨u,G',rfl,hu,hN⟩:=he
  refine hK u w' (fun c=>if c = b then none else G' c) (hg.h hu) ⟨hN.below,fun c hc=>?_,fun c x hc=>?_,fun c x hc=>?_⟩
  · by_cases e : c = b
    · subst e;simp [h2]
    · simp only [if_neg e];rw [hN.agree c hc];unfold Gput;rw [if_neg e]
  · have e : c ≠ b:=fun e=>by rw [e,h2] at hc;cases hc
    simp only [if_neg e]
    exact hN.le c x (hle c x hc)
  · by_cases e : c = b
    · subst e;simp at hc
    · simp only [if_neg e] at hc;exact hN.ok c x hc
end
theorem Args.mono {G G' : Gh} (hle : Gle G G') : ∀ {vs : List Value} {τs : List MT},Args vs τs G → Args vs τs G'
  | [],[],_=>trivial
  | _ :: _,τ :: _,h=>⟨τ.mono hle h.1,Args.mono hle h.2⟩
  | [],_ :: _,h=>h.elim
  | _ :: _,[],h=>h.elim
class OpdX (L : List (Nat × MT)) (B : List BX) (xs : List Operand) (τs : outParam (List MT)) (u : outParam (List Nat)) (i : outParam Nat) (pre : outParam Prop) : Prop where
  h : ∃ xb,B[i]? = some xb ∧ ∀ {a : Act} {G G1 : Gh} {v : Value},pre → Env L u a G → Gle G G1 → Shaped xb.k v → xb.τ.t v G → G1 xb.b = some (.cells v.cells xb.ty (0,0)) → Args (xs.map a.eval) τs G1
section
variable {P : Program} {L : List (Nat × MT)} {B : List BX} {x : Operand} {ys : List Operand} {u v : List Nat} {t ty : TypeId} {τ τb ρ : MT} {τs : List MT} {n nn c b i f : Nat} {k : Option Nat} {α : Type} {T : α → MT} {xs : List α} {pre p2 : Prop} {ats : Array TypeId}
instance OpdX.hd [h : Opd L x (OSL b n c) u] [hb : Bx B b i ty (some nn) τb] [r : AsR τb k α T xs] [l : OpdL L ys τs v] : OpdX L B (x :: ys) (LS k (xs.map T) :: τs) (u ++ v) i (n = xs.length ∧ n ≤ c ∧ n ≤ LIM):=⟨_,hb.m,fun hp e hle hs ht hG =>
  ⟨ROWS.sl (r.h (MT.mono _ hle ht)) hG (by rw [List.length_map];exact hp.1) hp.2.1 hp.2.2 (h.h e.l),Args.mono hle (l.h e.r)⟩⟩
instance OpdX.tl [h : Opd L x τ u] [l : OpdX L B ys τs v i pre] : OpdX L B (x :: ys) (τ :: τs) (u ++ v) i pre:=by
  obtain ⟨xb,h1,h2⟩:=l.h
  exact ⟨xb,h1,fun hp e hle hs ht hG=>⟨τ.mono hle (h.h e.l),h2 hp e.r hle hs ht hG⟩⟩
instance (priority:=400) Op1.lend [h : OpdX L B ys τs u i p2] [c : Con P f τs pre ρ] [g : Gnd ρ] [kb : Cb P f] : Op1 P L B (.call { callee:=.value (.func f),args:=ys.toArray,argTypes:=ats }) (p2 ∧ pre) ρ (u ++ [1000000 + i]):=⟨fun ho hok e hB hp=>by
  obtain ⟨xb,h1,h2⟩:=h.h
  exact .lendG hok ho kb.h g (hB i xb (by simp) h1) fun G1 v hle hok1 hs ht hG=>by
    rw [List.map_toArray]
    exact c.h hok1 (h2 hp.1 e.l hle hs ht hG) hp.2⟩
instance Op1.sla [e : ArE P t n k] [h : Opd L x (PB b) u] : Op1 P L B (.slice t x none none none) (0 < n) (OSL b n n) u:=⟨fun ho hok e' _ hp=>by
  obtain ⟨e0,h3,h4⟩:=e.h
  exact .slAr hok ho h3 h4 (h.h e') (decide_eq_true hp) rfl⟩
instance LitN.add {z z' : Int} {m m' : Nat} [h : LitN z m] [h' : LitN z' m'] : LitN (z + z') (m + m'):=⟨by rw [h.h,h'.h];omega⟩
instance LitN.mul {z z' : Int} {m m' : Nat} [h : LitN z m] [h' : LitN z' m'] : LitN (z * z') (m * m'):=⟨by rw [h.h,h'.h];exact (Int.natCast_mul _ _).symm⟩
variable {y : Operand} {t' : TypeId} {z z' : Int} {m m' j : Nat}
instance Op1.quoN [h : Opd L x (IT z) u] [h2 : Opd L y (IT z') v] [l : LitN z m] [l' : LitN z' m'] : Op1 P L B (.binOp .quo t x y t') (m' ≠ 0 ∧ m ≤ 9223372036854775807) (NT (m / m')) (u ++ v):=⟨fun ho hok e _ hp=>by
  obtain rfl:=l.h;obtain rfl:=l'.h
  exact .nquo hok ho (h.h e.l) (h2.h e.r) hp.1 (i64_w ⟨Int.le_trans (by decide) (Int.natCast_nonneg _),Int.ofNat_le.2 (Nat.le_trans (Nat.div_le_self m m') hp.2)⟩) rfl⟩
instance Op1.remN [h : Opd L x (IT z) u] [h2 : Opd L y (IT z') v] [l : LitN z m] [l' : LitN z' m'] : Op1 P L B (.binOp .rem t x y t') (m' ≠ 0) (NT (m % m')) (u ++ v):=⟨fun ho hok e _ hp=>by
  obtain rfl:=l.h;obtain rfl:=l'.h
  exact .nrem hok ho (h.h e.l) (h2.h e.r) hp rfl⟩
instance Op1.shlN [h : Opd L x (IT z) u] [h2 : Opd L y (IT z') v] [l : LitN z m] [l' : LitN z' m'] : Op1 P L B (.binOp .shl t x y t') (m' < 64 ∧ m * 2 ^ m' ≤ 9223372036854775807) (NT (m * 2 ^ m')) (u ++ v):=⟨fun ho hok e _ hp=>by
  obtain rfl:=l.h;obtain rfl:=l'.h
  refine .shl hok ho (h.h e.l) (h2.h e.r) (by omega) ?_
  have e1 : (min ((m' : Int).toNat) IntKind.i64.bits) = m':=by simp only [Int.toNat_natCast,IntKind.bits];omega
  have e2 : ((m : Int) * 2 ^ m') = ((m * 2 ^ m' : Nat) : Int):=by simp
  rw [e1,e2,i64_w ⟨by omega,by omega⟩];rfl⟩
instance Op1.maxN [h : Opd L x (IT z) u] [h2 : Opd L y (IT z') v] [l : LitN z m] [l' : LitN z' m'] : Op1 P L B (.call { callee:=.builtin .max,args:=#[x,y],argTypes:=ats }) True (NT (max m m')) (u ++ v):=⟨fun ho hok e _ hp=>by
  obtain rfl:=l.h;obtain rfl:=l'.h
  exact .nmax hok ho (h.h e.l) (h2.h e.r) rfl⟩
class LsOf (τ : MT) (k : Option Nat) (α : outParam Type) (T : outParam (α → MT)) (xs : outParam (List α)) : Prop where
  h : ∀ {v : Value} {G : Gh},τ.t v G → (LS k (xs.map T)).t v G
instance LsOf.ll : LsOf (LS k (xs.map T)) k α T xs:=⟨fun h=>h⟩
instance LsOf.lc : LsOf (LSC k (xs.map T)) k α T xs:=⟨fun h=>h.1⟩
instance Op1.cutHiM [s : SlE P t k] [h : Opd L x τ u] [l : LsOf τ k α T xs] [h2 : Opd L y (IT z) v] [lz : LitN z j] : Op1 P L B (.slice t x none (some y) none) (j ≤ xs.length) (LS k ((xs.take j).map T)) (u ++ v):=⟨fun ho hok e _ hp=>by
  obtain ⟨e',h3,h4⟩:=s.h
  exact .cutHiM hok ho h3 h4 (l.h (h.h e.l)) (h2.h e.r) lz.h hp⟩
instance Op1.cutLoM [s : SlE P t k] [h : Opd L x τ u] [l : LsOf τ k α T xs] [h2 : Opd L y (IT z) v] [lz : LitN z j] : Op1 P L B (.slice t x (some y) none none) (j ≤ xs.length) (LS k ((xs.drop j).map T)) (u ++ v):=⟨fun ho hok e _ hp=>by
  obtain ⟨e',h3,h4⟩:=s.h
  exact .cutLoM hok ho h3 h4 (l.h (h.h e.l)) (h2.h e.r) lz.h hp⟩
instance Op1.cutLHM {y2 : Operand} {z2 : Int} {j2 : Nat} {v2 : List Nat} [s : SlE P t k] [h : Opd L x τ u] [l : LsOf τ k α T xs] [h2 : Opd L y (IT z) v] [lz : LitN z j] [h3 : Opd L y2 (IT z2) v2] [lz2 : LitN z2 j2] : Op1 P L B (.slice t x (some y) (some y2) none) (j ≤ j2 ∧ j2 ≤ xs.length) (LS k (((xs.take j2).drop j).map T)) (u ++ (v ++ v2)):=⟨fun ho hok e _ hp=>by
  obtain ⟨e',h4,h5⟩:=s.h
  exact .cutLHM hok ho h4 h5 (l.h (h.h e.l)) (h2.h e.r.l) lz.h (h3.h e.r.r) lz2.h hp.1 hp.2⟩
instance (priority:=1100) Op1.lenC [s : SlE P t k] [h : Opd L x (LSC k (xs.map T)) u] : Op1 P L B (.call { callee:=.builtin .len,args:=#[x],argTypes:=#[t] }) True (NT xs.length) u:=⟨fun ho hok e _ _=>by obtain ⟨e',h1,h2⟩:=s.h;exact .lenM hok ho h1 (h.h e).1 rfl⟩
instance Op1.ixMC [Inhabited α] [s : SlE P t k] [h : Opd L x (LSC k (xs.map T)) u] [h2 : Opd L y (IT z) v] : Op1 P L B (.indexAddr t x y) (0 ≤ z ∧ z < xs.length) (PE k (T (xs.getD z.toNat default))) (u ++ v):=⟨fun ho hok e _ hp=>by
  obtain ⟨e',h3,h4⟩:=s.h
  exact .ixM hok ho h3 h4 (h.h e.l).1 (h2.h e.r) (i:=z.toNat) (by omega) (by omega)⟩
instance (priority:=1100) Op1.ixMCN [Inhabited α] [s : SlE P t k] [h : Opd L x (LSC k (xs.map T)) u] [h2 : Opd L y (NT j) v] : Op1 P L B (.indexAddr t x y) (j < xs.length) (PE k (T (xs.getD j default))) (u ++ v):=⟨fun ho hok e _ hp=>by
  obtain ⟨e',h3,h4⟩:=s.h
  exact .ixM hok ho h3 h4 (h.h e.l).1 (h2.h e.r) rfl hp⟩
end
section
variable {fs : List (Option Nat × MT)} {n i : Nat} {τ τ' : MT} {k kt : Option Nat}
instance (priority:=500) PrtL.s5 [h : PrtL fs i kt τ] : PrtL ((some 5,τ') :: fs) (i + 5) kt τ:=h.skip rfl
instance (priority:=500) UpdL.s5 {fs' : List (Option Nat × MT)} [h : UpdL fs i kt τ fs'] : UpdL ((some 5,τ') :: fs) (i + 5) kt τ ((some 5,τ') :: fs'):=h.skip rfl
instance (priority:=500) PrtL.s7 [h : PrtL fs i kt τ] : PrtL ((some 7,τ') :: fs) (i + 7) kt τ:=h.skip rfl
instance (priority:=500) UpdL.s7 {fs' : List (Option Nat × MT)} [h : UpdL fs i kt τ fs'] : UpdL ((some 7,τ') :: fs) (i + 7) kt τ ((some 7,τ') :: fs'):=h.skip rfl
instance (priority:=500) PrtL.s8 [h : PrtL fs i kt τ] : PrtL ((some 8,τ') :: fs) (i + 8) kt τ:=h.skip rfl
instance (priority:=500) UpdL.s8 {fs' : List (Option Nat × MT)} [h : UpdL fs i kt τ fs'] : UpdL ((some 8,τ') :: fs) (i + 8) kt τ ((some 8,τ') :: fs'):=h.skip rfl
instance (priority:=500) PrtL.s9 [h : PrtL fs i kt τ] : PrtL ((some 9,τ') :: fs) (i + 9) kt τ:=h.skip rfl
instance (priority:=500) UpdL.s9 {fs' : List (Option Nat × MT)} [h : UpdL fs i kt τ fs'] : UpdL ((some 9,τ') :: fs) (i + 9) kt τ ((some 9,τ') :: fs'):=h.skip rfl
instance (priority:=500) PrtL.s10 [h : PrtL fs i kt τ] : PrtL ((some 10,τ') :: fs) (i + 10) kt τ:=h.skip rfl
instance (priority:=500) UpdL.s10 {fs' : List (Option Nat × MT)} [h : UpdL fs i kt τ fs'] : UpdL ((some 10,τ') :: fs) (i + 10) kt τ ((some 10,τ') :: fs'):=h.skip rfl
instance (priority:=500) PrtL.s12 [h : PrtL fs i kt τ] : PrtL ((some 12,τ') :: fs) (i + 12) kt τ:=h.skip rfl
instance (priority:=500) UpdL.s12 {fs' : List (Option Nat × MT)} [h : UpdL fs i kt τ fs'] : UpdL ((some 12,τ') :: fs) (i + 12) kt τ ((some 12,τ') :: fs'):=h.skip rfl
instance (priority:=500) PrtL.s13 [h : PrtL fs i kt τ] : PrtL ((some 13,τ') :: fs) (i + 13) kt τ:=h.skip rfl
instance (priority:=500) UpdL.s13 {fs' : List (Option Nat × MT)} [h : UpdL fs i kt τ fs'] : UpdL ((some 13,τ') :: fs) (i + 13) kt τ ((some 13,τ') :: fs'):=h.skip rfl
instance (priority:=500) PrtL.s14 [h : PrtL fs i kt τ] : PrtL ((some 14,τ') :: fs) (i + 14) kt τ:=h.skip rfl
instance (priority:=500) UpdL.s14 {fs' : List (Option Nat × MT)} [h : UpdL fs i kt τ fs'] : UpdL ((some 14,τ') :: fs) (i + 14) kt τ ((some 14,τ') :: fs'):=h.skip rfl
instance (priority:=500) PrtL.s15 [h : PrtL fs i kt τ] : PrtL ((some 15,τ') :: fs) (i + 15) kt τ:=h.skip rfl
instance (priority:=500) UpdL.s15 {fs' : List (Option Nat × MT)} [h : UpdL fs i kt τ fs'] : UpdL ((some 15,τ') :: fs) (i + 15) kt τ ((some 15,τ') :: fs'):=h.skip rfl
instance (priority:=500) PrtL.s16 [h : PrtL fs i kt τ] : PrtL ((some 16,τ') :: fs) (i + 16) kt τ:=h.skip rfl
instance (priority:=500) UpdL.s16 {fs' : List (Option Nat × MT)} [h : UpdL fs i kt τ fs'] : UpdL ((some 16,τ') :: fs) (i + 16) kt τ ((some 16,τ') :: fs'):=h.skip rfl
instance (priority:=500) PrtL.s18 [h : PrtL fs i kt τ] : PrtL ((some 18,τ') :: fs) (i + 18) kt τ:=h.skip rfl
instance (priority:=500) UpdL.s18 {fs' : List (Option Nat × MT)} [h : UpdL fs i kt τ fs'] : UpdL ((some 18,τ') :: fs) (i + 18) kt τ ((some 18,τ') :: fs'):=h.skip rfl
instance (priority:=500) PrtL.s20 [h : PrtL fs i kt τ] : PrtL ((some 20,τ') :: fs) (i + 20) kt τ:=h.skip rfl
instance (priority:=500) UpdL.s20 {fs' : List (Option Nat × MT)} [h : UpdL fs i kt τ fs'] : UpdL ((some 20,τ') :: fs) (i + 20) kt τ ((some 20,τ') :: fs'):=h.skip rfl
end
end Go.Proofs.YtboicjlbbbodgaaGreatDoor
namespace Go.Proofs.YtboicjlbbbodgaaGreatDoor
open Go.RowKit (Below)
abbrev NM (n : Nat) (l : List Rat) : MT:=LS (some 3) (l.map (QC n))
abbrev TWR (n : Nat) (rs : List (List Rat)) : MT:=PTS [(none,LS none (rs.map (NM n)))]
abbrev BPT (n : Nat) (x : Int × List Rat × List Rat) : MT:=PTS [(none,IT x.1),(some 2,PTS [(none,NM n x.2.1),(none,NM n x.2.2)])]
theorem LS.shn {k : Option Nat} {τs : List MT} {v : Value} {G : Gh} (h : (LS k τs).t v G) : Shaped none v:=by obtain ⟨A,c,rfl,_⟩:=h;exact ⟨rfl,rfl⟩
instance {k : Option Nat} {τs : List MT} : ShK (LS k τs) none:=⟨LS.shn⟩
instance {k : Option Nat} {τs : List MT} : ShK (LSC k τs) none:=⟨fun h=>LS.shn h.1⟩
class Fit {α : Type} (τ : MT) (T : α → MT) (x : outParam α) (p : outParam Prop) : Prop where
  h : p → ∀ {v : Value} {G : Gh},τ.t v G → (T x).t v G
class FitL {α : Type} (τs : List MT) (T : α → MT) (xs : outParam (List α)) (p : outParam Prop) : Prop where
  h : p → τs.length = xs.length ∧ ∀ (i : Nat) (τ : MT),τs[i]? = some τ → ∃ x,xs[i]? = some x ∧ ∀ {v : Value} {G : Gh},τ.t v G → (T x).t v G
section
variable {α : Type} {T : α → MT} {τ τ' : MT} {τs : List MT} {x : α} {xs ys : List α} {p p' : Prop} {b c : Nat} {k : Option Nat}
instance (priority:=500) Fit.of [h : AsT τ T x] : Fit τ T x True:=⟨fun _ _ _ hv=>h.h hv⟩
instance Fit.q {z : Rat} : Fit (QC c z) (QC b) z (c ≤ b):=⟨fun e _ _ h=>QC.up h e⟩
instance FitL.nil : FitL [] T [] True:=⟨fun _=>⟨rfl,fun i τ h=>by simp at h⟩⟩
instance FitL.cons [h : Fit τ T x p] [l : FitL τs T xs p'] : FitL (τ :: τs) T (x :: xs) (p ∧ p'):=⟨fun e=>⟨by simp [(l.h e.2).1],fun i σ hi=>by
  cases i with
  | zero=>cases hi;exact ⟨x,rfl,h.h e.1⟩
  | succ i=>exact (l.h e.2).2 i σ (by simpa using hi)⟩⟩
class FitM {β : Type} (U : β → MT) (T : α → MT) (f : outParam (β → α)) (p : outParam Prop) : Prop where
  h : p → ∀ {y : β} {v : Value} {G : Gh},(U y).t v G → (T (f y)).t v G
instance (priority:=600) FitL.m {β : Type} {U : β → MT} {f : β → α} {zs : List β} [h : FitM U T f p] : FitL (zs.map U) T (zs.map f) p:=⟨fun e=>⟨by simp,fun i τ hi=>by
  rw [List.getElem?_map] at hi
  cases hz : zs[i]? with
  | none=>rw [hz] at hi;cases hi
  | some z=>rw [hz] at hi;cases hi;exact ⟨f z,by simp [hz],fun hv=>h.h e hv⟩⟩⟩
instance FitL.q {zs : List Rat} : FitL (zs.map (QC c)) (QC b) zs (c ≤ b):=⟨fun e=>⟨by simp,fun i τ hi=>by
  rw [List.getElem?_map] at hi
  cases hz : zs[i]? with
  | none=>rw [hz] at hi;cases hi
  | some z=>rw [hz] at hi;cases hi;exact ⟨z,rfl,fun hv=>QC.up hv e⟩⟩⟩
theorem FitL.ls (l : FitL τs T xs p) (e : p) {v : Value} {G : Gh} (h : (LS k τs).t v G) : (LS k (xs.map T)).t v G:=AsTL.ls ⟨(l.h e).1,fun i τ hi=>(l.h e).2 i τ hi⟩ h
class LsQ (τ : MT) (τs : outParam (List MT)) : Prop where
  h : ∀ {v : Value} {G : Gh},τ.t v G → (LS (some 3) τs).t v G
instance LsQ.l : LsQ (LS (some 3) τs) τs:=⟨fun h=>h⟩
instance LsQ.lc : LsQ (LSC (some 3) τs) τs:=⟨fun h=>h.1⟩
instance LsQ.n : LsQ (.ex (.slice none 0 0)) []:=⟨fun h=>by cases h;exact LS.nil⟩
instance Fit.nm {l : List Rat} [a : LsQ τ τs] [h : FitL τs (QC b) l p] : Fit τ (NM b) l p:=⟨fun e _ _ hv=>h.ls e (a.h hv)⟩
instance Fit.bp {z : Int} {τ1 τ2 : MT} {l1 l2 : List Rat} {p1 p2 : Prop} [h1 : Fit τ1 (NM b) l1 p1] [h2 : Fit τ2 (NM b) l2 p2] : Fit (PTS [(none,IT z),(some 2,PTS [(none,τ1),(none,τ2)])]) (BPT b) (z,l1,l2) (p1 ∧ p2):=⟨fun e v G hv=>by
  obtain ⟨us,e1,a1,a2⟩:=hv
  refine ⟨us,e1,a1,fun i f u hf hu=>?_⟩
  match i,hf with
  | 0,hf=>exact a2 0 _ u (by cases hf;rfl) hu
  | 1,hf =>
    cases hf
    obtain ⟨b1,us2,e2,c1,c2⟩:=a2 1 _ u rfl hu
    refine ⟨b1,us2,e2,c1,fun j g y hg hy=>?_⟩
    match j,hg with
    | 0,hg=>cases hg;obtain ⟨d1,d2⟩:=c2 0 _ y rfl hy;exact ⟨d1,h1.h e.1 d2⟩
    | 1,hg=>cases hg;obtain ⟨d1,d2⟩:=c2 1 _ y rfl hy;exact ⟨d1,h2.h e.2 d2⟩⟩
instance (priority:=900) Cv.fit {xs ys : List α} [h : FitL τs T xs p] : Cv (LSC k τs) (LS k (ys.map T)) (p ∧ xs = ys):=⟨fun e v G hv=>by
  obtain ⟨e1,rfl⟩:=e;exact h.ls e1 hv.1⟩
instance (priority:=900) Cv.fitl {xs ys : List α} [h : FitL τs T xs p] : Cv (LS k τs) (LS k (ys.map T)) (p ∧ xs = ys):=⟨fun e v G hv=>by
  obtain ⟨e1,rfl⟩:=e;exact h.ls e1 hv⟩
class NU (τ : MT) (τ' : outParam MT) : Prop where
  h : ∀ {v : Value} {G : Gh},τ.t v G → τ'.t v G
theorem LS.els {v : Value} {G : Gh} (h : (LS k τs).t v G) {σs : List MT} (hl : τs.length = σs.length) (f : ∀ (i : Nat) (τ σ : MT),τs[i]? = some τ → σs[i]? = some σ → ∀ {v : Value},τ.t v G → σ.t v G) : (LS k σs).t v G:=by
  obtain ⟨A,c',h1,h2,h3,h4⟩:=h
  refine ⟨A,c',by rw [h1,hl],by rw [← hl];exact h2,by rw [← hl];exact h3,fun i σ hi=>?_⟩
  have hlt : i < τs.length:=by rw [hl];exact (List.getElem?_eq_some_iff.1 hi).1
  obtain ⟨b,off,e3,e4⟩:=h4 i τs[i] (List.getElem?_eq_getElem hlt)
  exact ⟨b,off,e3,e4.cv (f i _ σ (List.getElem?_eq_getElem hlt) hi)⟩
class Grow {α : Type} (T : Nat → α → MT) : Prop where
  h : ∀ {n m : Nat} {x : α} {v : Value} {G : Gh},(T n x).t v G → n ≤ m → (T m x).t v G
instance : Grow QC:=⟨QC.up⟩
class Rdn {α : Type} (τ : MT) (T : Nat → α → MT) (n : outParam Nat) (x : outParam α) : Prop where
  h : ∀ {v : Value} {G : Gh},τ.t v G → (T n x).t v G
class RdnL {α : Type} (τs : List MT) (T : Nat → α → MT) (n : outParam Nat) (xs : outParam (List α)) : Prop where
  h : τs.length = xs.length ∧ ∀ (i : Nat) (τ σ : MT),τs[i]? = some τ → (xs.map (T n))[i]? = some σ → ∀ {v : Value} {G : Gh},τ.t v G → σ.t v G
instance Rdn.q {z : Rat} : Rdn (QC b z) QC b z:=⟨fun h=>h⟩
instance RdnL.nil {T : Nat → α → MT} : RdnL [] T 0 []:=⟨rfl,fun i τ σ h=>by simp at h⟩
instance RdnL.m {T : Nat → α → MT} : RdnL (xs.map (T b)) T b xs:=⟨by simp,fun i τ σ h1 h2 {v G} h=>by rw [h1] at h2;cases h2;exact h⟩
instance (priority:=800) RdnL.cons {T : Nat → α → MT} [g : Grow T] [h : Rdn τ T b x] [l : RdnL τs T c xs] : RdnL (τ :: τs) T (max b c) (x :: xs):=⟨by simp [l.h.1],fun i σ ρ h1 h2 {v G} hv=>by
  cases i with
  | zero=>cases h1;cases h2;exact g.h (h.h hv) (Nat.le_max_left _ _)
  | succ i =>
    simp only [List.map_cons,List.getElem?_cons_succ,List.getElem?_map] at h1 h2
    cases hx : xs[i]? with
    | none=>rw [hx] at h2;cases h2
    | some y=>rw [hx] at h2;cases h2;exact g.h (l.h.2 i σ _ h1 (by rw [List.getElem?_map,hx];rfl) hv) (Nat.le_max_right _ _)⟩
theorem RdnL.ls {T : Nat → α → MT} (l : RdnL τs T b xs) {v : Value} {G : Gh} (h : (LS k τs).t v G) : (LS k (xs.map (T b))).t v G:=LS.els h (by rw [l.h.1,List.length_map]) fun i τ σ h1 h2 _ hv=>l.h.2 i τ σ h1 h2 hv
theorem NM.up {l : List Rat} {v : Value} {G : Gh} (h : (NM b l).t v G) (e : b ≤ c) : (NM c l).t v G:=LS.convM (T:=QC b) (U:=QC c) (f:=fun r=>r) h (by simp) fun _ _ _ _ hv=>QC.up hv e
instance : Grow NM:=⟨NM.up⟩
instance Rdn.nm {l : List Rat} [a : LsQ τ τs] [h : RdnL τs QC b l] : Rdn τ NM b l:=⟨fun hv=>h.ls (a.h hv)⟩
instance NU.of {l : List Rat} [h : Rdn τ NM b l] : NU τ (NM b l):=⟨fun hv=>h.h hv⟩
class LsN (τ : MT) (τs : outParam (List MT)) : Prop where
  h : ∀ {v : Value} {G : Gh},τ.t v G → (LS none τs).t v G
instance LsN.l : LsN (LS none τs) τs:=⟨fun h=>h⟩
instance LsN.lc : LsN (LSC none τs) τs:=⟨fun h=>h.1⟩
instance LsN.n : LsN (.ex (.slice none 0 0)) []:=⟨fun h=>by cases h;exact LS.nil⟩
abbrev RTS (n : Nat) (rs : List (List Rat)) : MT:=LS none (rs.map (NM n))
instance Rdn.rts {rs : List (List Rat)} [a : LsN τ τs] [h : RdnL τs NM b rs] : Rdn τ RTS b rs:=⟨fun hv=>h.ls (a.h hv)⟩
instance NU.rts {rs : List (List Rat)} [h : Rdn τ RTS b rs] : NU τ (RTS b rs):=⟨fun hv=>h.h hv⟩
theorem pts1 (f : ∀ {v : Value} {G : Gh},τ.t v G → τ'.t v G) {v : Value} {G : Gh} (h : (PTS [(k,τ)]).t v G) : (PTS [(k,τ')]).t v G:=by
  obtain ⟨us,e,a1,a2⟩:=h
  refine ⟨us,e,a1,fun i p u hp hu=>?_⟩
  match i,hp with
  | 0,hp=>cases hp;obtain ⟨d1,d2⟩:=a2 0 _ u rfl hu;exact ⟨d1,f d2⟩
instance NU.tw {rs : List (List Rat)} [h : Rdn τ RTS b rs] : NU (PTS [(none,τ)]) (TWR b rs):=⟨fun hv=>pts1 (τ':=RTS b rs) h.h hv⟩
instance Fit.rts {rs : List (List Rat)} [a : LsN τ τs] [h : FitL τs (NM b) rs p] : Fit τ (RTS b) rs p:=⟨fun e _ _ hv=>h.ls e (a.h hv)⟩
instance (priority:=900) Cv.tw {rs rs' : List (List Rat)} [h : Fit τ (RTS b) rs p] : Cv (PTS [(none,τ)]) (TWR b rs') (p ∧ rs = rs'):=⟨fun e _ _ hv=>by
  obtain ⟨e1,rfl⟩:=e;exact pts1 (τ':=RTS b rs) (h.h e1) hv⟩
end
end Go.Proofs.YtboicjlbbbodgaaGreatDoor
namespace Go.Proofs.YtboicjlbbbodgaaGreatDoor
open Go.RowKit (Below)
def RetW {α : Type} (w : World) (G : Gh) (k : Option Nat) (e : TypeId) (T : α → MT) (xs : List α) : Ending → World → Prop:=fun en w' =>
  ∃ b c G',en = .returned (.slice (some ⟨b,0,none⟩) xs.length c) ∧ Nxt w G w' G' ∧ BX.ok ⟨b,e,some (c * k.getD 1),ROWS k (xs.map T)⟩ w w' G' ∧ xs.length ≤ c
class ConO {α : outParam Type} (P : Program) (f : Nat) (τs : List MT) (pre : outParam Prop) (k : outParam (Option Nat)) (e : outParam TypeId) (T : outParam (α → MT)) (xs : outParam (List α)) : Prop where
  h : ∀ {vs : List Value} {w : World} {G : Gh},Gok w G → Args vs τs G → pre → Calls P f vs.toArray w (RetW w G k e T xs)
section
variable {P : Program} {f : Nat} {τ1 τ2 τ3 : MT} {pre : Prop} {k : Option Nat} {e : TypeId} {α : Type} {T : α → MT} {xs : List α}
theorem ConO.o1 (h : ∀ {v1 : Value} {w : World} {G : Gh},Gok w G → τ1.t v1 G → pre → Calls P f #[v1] w (RetW w G k e T xs)) : ConO P f [τ1] pre k e T xs:=⟨fun {vs _ _} hok ha hp=>match vs,ha with | [_],ha=>h hok ha.1 hp⟩
theorem ConO.o2 (h : ∀ {v1 v2 : Value} {w : World} {G : Gh},Gok w G → τ1.t v1 G → τ2.t v2 G → pre → Calls P f #[v1,v2] w (RetW w G k e T xs)) : ConO P f [τ1,τ2] pre k e T xs:=⟨fun {vs _ _} hok ha hp=>match vs,ha with | [_,_],ha=>h hok ha.1 ha.2.1 hp⟩
theorem ConO.o3 (h : ∀ {v1 v2 v3 : Value} {w : World} {G : Gh},Gok w G → τ1.t v1 G → τ2.t v2 G → τ3.t v3 G → pre → Calls P f #[v1,v2,v3] w (RetW w G k e T xs)) : ConO P f [τ1,τ2,τ3] pre k e T xs:=⟨fun {vs _ _} hok ha hp=>match vs,ha with | [_,_,_],ha=>h hok ha.1 ha.2.1 ha.2.2.1 hp⟩
section
variable {w : World} {G : Gh} {v1 v2 v3 : Value}
theorem ConO.c1 (c : ConO P f [τ1] pre k e T xs) (hok : Gok w G) (h1 : τ1.t v1 G) (hp : pre) : Calls P f #[v1] w (RetW w G k e T xs):=c.h (vs:=[v1]) hok ⟨h1,trivial⟩ hp
theorem ConO.c2 (c : ConO P f [τ1,τ2] pre k e T xs) (hok : Gok w G) (h1 : τ1.t v1 G) (h2 : τ2.t v2 G) (hp : pre) : Calls P f #[v1,v2] w (RetW w G k e T xs):=c.h (vs:=[v1,v2]) hok ⟨h1,h2,trivial⟩ hp
theorem ConO.c3 (c : ConO P f [τ1,τ2,τ3] pre k e T xs) (hok : Gok w G) (h1 : τ1.t v1 G) (h2 : τ2.t v2 G) (h3 : τ3.t v3 G) (hp : pre) : Calls P f #[v1,v2,v3] w (RetW w G k e T xs):=c.h (vs:=[v1,v2,v3]) hok ⟨h1,h2,h3,trivial⟩ hp
end
end
section
variable {P : Program} {L L' : List (Nat × MT)} {B B' Bh : List BX} {ys : List Operand} {u v : List Nat} {t ty e : TypeId} {τ τ' τb : MT} {τs : List MT} {n c b i j f d : Nat} {k : Option Nat} {α : Type} {T : α → MT} {xs : List α}
variable {W0 : World} {G0 : Gh} {N : Nat} {a : Act} {w : World} {G : Gh} {Q : Exit → Act → World → Prop} {pre : Prop} {rest ops : List Oper} {arr : Array Oper} {pos : String} {aft : Array Edge} {ats : Array TypeId} {fn : Func} {σs : List MT}
theorem W.co [h : OpdL L ys τs u] [cn : ConO P f τs pre k e T xs] [kb : Cb P f] (hp : pre) (K : ∀ b c a w G, xs.length ≤ c → St W0 G0 N ((d, OSL b xs.length c) :: L) (⟨b, e, some (c * k.getD 1), ROWS k (xs.map T)⟩ :: B) a w G → wpList P arr Q rest a w) (hdN : (decide (d < N)) = true := by rfl) (hf : fresh d L = true := by rfl) :
    St W0 G0 N L B a w G → wpList P arr Q (⟨some d,.call { callee:=.value (.func f),args:=ys.toArray,argTypes:=ats },ty,pos,aft,none⟩ :: rest) a w:=fun S =>
  wpList_plain rfl fun K' hK=>by
    have hr : (execOp a.eval ⟨some d,.call { callee:=.value (.func f),args:=ys.toArray,argTypes:=ats },ty,pos,aft,none⟩).run P w = .ok (.enter f (ys.toArray.map a.eval)) w:=by
      simp [execOp,resolve,Act.eval,Deferred.ofValue,invoke,run_callFunc kb.h]
    unfold Oper.wp
    rw [hr]
    have hc : Calls P f (ys.toArray.map a.eval) w (RetW w G k e T xs):=by rw [List.map_toArray];exact cn.h S.ok (h.h (S.env u)) hp
    refine Calls.mono hc fun en w' he=>?_
    obtain ⟨b,c,G',rfl,hn,hb,hle⟩:=he
    have S1 : St W0 G0 N L (⟨b,e,some (c * k.getD 1),ROWS k (xs.map T)⟩ :: B) a w' G':={
      nxt:=S.nxt.trans hn
      size:=S.size
      dfr:=S.dfr
      ty:=fun i p h=>p.2.mono hn.le (S.ty i p h)
      bx:=fun i y h=>by
        cases i with
        | zero=>cases h;exact ⟨Nat.le_trans S.nxt.below.size hb.1,hb.2⟩
        | succ i=>exact (S.bx i y h).nxt hn
      nd:=fun i j y z hy hz hij=>by
        have h1:=hb.1
        cases i with
        | zero =>
          cases hy
          cases j with
          | zero=>exact absurd rfl hij
          | succ j=>have:=(S.bx j z hz).lt;show b ≠ z.b;simp only at h1;omega
        | succ i =>
          cases j with
          | zero=>cases hz;have:=(S.bx i y hy).lt;show y.b ≠ b;simp only at h1;omega
          | succ j=>exact S.nd i j y z hy hz (by omega) }
    exact hK _ _ (K b c _ _ G' hle (S1.put (of_decide_eq_true hdN) hf rfl (Nxt.refl S1.ok)))
theorem W.rto {xs' : List α} (t : Nat) [hl : Lk L t (OSL b n c)] [hb : Bx B b i e (some j) τb] [r : AsR τb k α T xs] (hr : fn.results = #[.tmp t]) (hp : xs = xs' ∧ n = xs.length ∧ j = c * k.getD 1 ∧ n ≤ c) : St W0 G0 N L B a w G → bodyPost P fn (RetW W0 G0 k e T xs') .ret a w:=fun S=>by
  obtain ⟨rfl,rfl,rfl,hle⟩:=hp
  obtain ⟨h1,h2,v,hv,hs,ht⟩:=S.bx i _ hb.m
  have hm : tm a t = .slice (some ⟨b,0,none⟩) xs.length c:=S.mem hl.m
  exact bodyPost_ret (v:=.slice (some ⟨b,0,none⟩) xs.length c) (by have:=results_tmp hr a.tmps P w;rw [this];exact congrArg (fun v=>Result.ok v w) hm) S.dfr ⟨b,c,G,rfl,S.nxt,⟨h1,h2,v,hv,hs,r.h ht⟩,hle⟩
theorem OWNS.ofb {b c : Nat} (h : xs.length ≤ c) : OWNS k e (.slice (some ⟨b,0,none⟩) xs.length c) [⟨b,e,some (c * k.getD 1),ROWS k (xs.map T)⟩] (xs.map T):=.inr ⟨b,c,by rw [List.length_map],rfl,by rw [List.length_map];exact h⟩
theorem W.casth {x : BX} {q : Prop} (f : ∀ {v : Value} {G : Gh},x.τ.t v G → τ'.t v G) (K : St W0 G0 N L (⟨x.b,x.ty,x.k,τ'⟩ :: B) a w G → q) : St W0 G0 N L (x :: B) a w G → q:=fun S=>K (S.castBox 0 rfl fun v hv _=>f hv)
theorem ROWS.upq {n m : Nat} {l : List Rat} {v : Value} {G : Gh} (h : (ROWS k (l.map (QC n))).t v G) (e : n ≤ m) : (ROWS k (l.map (QC m))).t v G:=by
  obtain ⟨us,r,e1,h1,h2⟩:=h
  refine ⟨us,r,e1,by rw [h1];simp,fun i σ u hi hu=>?_⟩
  rw [List.getElem?_map] at hi
  cases hx : l[i]? with
  | none=>rw [hx] at hi;cases hi
  | some x =>
    rw [hx] at hi;cases hi
    obtain ⟨h3,h4⟩:=h2 i (QC n x) u (by rw [List.getElem?_map,hx];rfl) hu
    exact ⟨h3,QC.up h4 e⟩
theorem St.rot {x : BX} (S : St W0 G0 N L (x :: B) a w G) : St W0 G0 N L (B ++ [x]) a w G where
  nxt:=S.nxt
  size:=S.size
  dfr:=S.dfr
  ty:=S.ty
  bx:=fun i y h=>by
    rcases Nat.lt_or_ge i B.length with h1 | h1
    · rw [List.getElem?_append_left h1] at h;exact S.bx (i + 1) y h
    · rw [List.getElem?_append_right h1] at h
      cases hi : i - B.length with
      | zero=>rw [hi] at h;cases h;exact S.bx 0 x rfl
      | succ m=>rw [hi] at h;cases h
  nd:=fun i j y z hy hz hij=>by
    have key : ∀ (i : Nat) (y : BX),(B ++ [x])[i]? = some y → (i < B.length ∧ (x :: B)[i + 1]? = some y) ∨ (i = B.length ∧ (x :: B)[0]? = some y):=fun i y h=>by
      rcases Nat.lt_or_ge i B.length with h1 | h1
      · rw [List.getElem?_append_left h1] at h;exact .inl ⟨h1,h⟩
      · rw [List.getElem?_append_right h1] at h
        cases hi : i - B.length with
        | zero=>rw [hi] at h;cases h;exact .inr ⟨by omega,rfl⟩
        | succ m=>rw [hi] at h;cases h
    rcases key i y hy with ⟨h1,h2⟩ | ⟨h1,h2⟩ <;> rcases key j z hz with ⟨h3,h4⟩ | ⟨h3,h4⟩
    · exact S.nd _ _ y z h2 h4 (by omega)
    · exact S.nd _ _ y z h2 h4 (by omega)
    · exact S.nd _ _ y z h2 h4 (by omega)
    · omega
class Rot (B : List BX) (x : BX) (B' : outParam (List BX)) : Prop where
  h : B' = B ++ [x]
instance Rot.nil {x : BX} : Rot [] x [x]:=⟨rfl⟩
instance Rot.cons {x y : BX} {B B' : List BX} [h : Rot B x B'] : Rot (y :: B) x (y :: B'):=⟨by rw [h.h];rfl⟩
theorem W.rot {x : BX} {q : Prop} [r : Rot B x B'] (K : St W0 G0 N L B' a w G → q) : St W0 G0 N L (x :: B) a w G → q:=fun S=>K (r.h ▸ S.rot)
instance (priority:=1200) RunS.own {all ops : List Oper} {i : Nat} {als : List (Nat × Nat × Option Nat)} {sd : List Nat} {op : Op} [OwnAt d] : RunS P B all i L als sd (⟨some d,op,ty,pos,aft,none⟩ :: ops) True [] (⟨some d,op,ty,pos,aft,none⟩ :: ops):=⟨.stop⟩
abbrev QP (p : Nat × Rat) : MT:=QC p.1 p.2
instance AsT.qp {n : Nat} {z : Rat} : AsT (QC n z) QP (n,z):=⟨fun h=>h⟩
instance (priority:=900) Cv.qpr {l : List Rat} {ys : List (Nat × Rat)} {n : Nat} {k : Option Nat} : Cv (ROWS k (l.map (QC n))) (ROWS k (ys.map QP)) (ys = l.map fun x=>(n,x)):=⟨fun e v G h=>by subst e;rw [List.map_map];exact h⟩
instance FitL.qp {ps : List (Nat × Rat)} {n : Nat} : FitL (ps.map QP) (QC n) (ps.map Prod.snd) (∀ p ∈ ps,p.1 ≤ n):=⟨fun e=>⟨by simp,fun i τ hi=>by
  rw [List.getElem?_map] at hi
  cases hz : ps[i]? with
  | none=>rw [hz] at hi;cases hi
  | some z=>rw [hz] at hi;cases hi;exact ⟨z.2,by simp [hz],fun hv=>QC.up hv (e z (List.mem_of_getElem? hz))⟩⟩⟩
instance {n : Nat} : AsT (FX 1 default) (QC (n + 1)) 0:=⟨fun h=>(Cv.fq (n:=1) (k:=n + 1)).h ⟨by omega,rfl,rfl⟩ h⟩
instance {n : Nat} : Rdn (FX n default) QC n 0:=⟨fun h=>(Cv.fq (n:=n) (k:=n)).h ⟨Nat.le_refl _,rfl,rfl⟩ h⟩
instance {n m : Nat} : Fit (FX n default) (QC m) 0 (n ≤ m):=⟨fun e _ _ h=>(Cv.fq (n:=n) (k:=m)).h ⟨e,rfl,rfl⟩ h⟩
def SBq (n : Nat) (l : List Nat) : MT:=⟨fun v G=>1 ≤ n ∧ (SB n l).t v G,fun hle h=>⟨h.1,(SB n l).mono hle h.2⟩⟩
instance {n : Nat} {l : List Nat} : ShK (SBq n l) none:=⟨fun h=>SL.shp h.2.2⟩
instance AsW.sbq {n : Nat} {l : List Nat} : AsW (SBq n l) l:=⟨fun h=>h.2.2⟩
theorem QC.one {n : Nat} {z : Rat} {v : Value} {G : Gh} (h : (QC n z).t v G) : 1 ≤ n:=one_le_of_lt z.den_nz h.1.2
instance (priority:=800) Prt.qc0 {n : Nat} {z : Rat} : Prt (QC n z) 0 none (BT (FR.of z).s):=⟨fun h' hs=>(Prt.fx0 (nn:=n) (r:=FR.of z)).h (QC.toFX h' (QC.one h')) hs⟩
instance (priority:=800) Prt.qc1 {n : Nat} {z : Rat} : Prt (QC n z) 1 none (SBq n (FR.of z).p):=⟨fun h' hs=>by obtain ⟨u,h1,h2,h3⟩:=(Prt.fx1 (nn:=n) (r:=FR.of z)).h (QC.toFX h' (QC.one h')) hs;exact ⟨u,h1,⟨QC.one h',h2⟩,h3⟩⟩
instance (priority:=800) Prt.qc2 {n : Nat} {z : Rat} : Prt (QC n z) 2 none (SBq n (FR.of z).q):=⟨fun h' hs=>by obtain ⟨u,h1,h2,h3⟩:=(Prt.fx2 (nn:=n) (r:=FR.of z)).h (QC.toFX h' (QC.one h')) hs;exact ⟨u,h1,⟨QC.one h',h2⟩,h3⟩⟩
instance Op1.apq {x y : Operand} {n : Nat} {l : List Nat} [e : ElW P t] [h : Opd L x EMP u] [k : Opd L y (SBq n l) v] : Op1 P L B (.call { callee:=.builtin .append,args:=#[x,y],argTypes:=#[t,t] }) True (SBq n l) (u ++ v):=⟨fun {W0 w a G o} ho hok e' _ _=>by
  obtain ⟨e0,h1,h2⟩:=e.h
  have hy:=k.h e'.r
  exact fun Q K hK=>OpR.appNew hok ho h1 h2 (h.h e'.l) hy.2.2 Q K fun v w' G' hv hn=>hK v w' G' ⟨hy.1,hy.2.1,hv⟩ hn⟩
instance AsT.qcp {n : Nat} {z : Rat} : AsT (PTS [(none,BT (FR.of z).s),(none,SBq n (FR.of z).p),(none,SBq n (FR.of z).q)]) (QC n) z:=⟨fun {v G} h=>by
  obtain ⟨us,e0,hl,hE⟩:=h
  have h' : (PTS [(none,BT (FR.of z).s),(none,SBq n (FR.of z).p),(none,SBq n (FR.of z).q)]).t v G:=⟨us,e0,hl,hE⟩
  have hcd : ∃ c d,(SBq n (FR.of z).p).t c G ∧ (SBq n (FR.of z).q).t d G:=by
    match us,hl,hE with
    | [a,c,d],_,hE=>exact ⟨c,d,(hE 1 _ c rfl rfl).2,(hE 2 _ d rfl rfl).2⟩
  obtain ⟨c,d,⟨h1,h2,_⟩,_,h5,_⟩:=hcd
  refine ⟨⟨by have : Go.Proofs.YtboicjlbbbodgaaGreatDoor.val (words z.num.natAbs) < 2 ^ n := h2
              rwa [val_words] at this,?_⟩,qr_pts h' (fun v hv=>hv.2.2) fun v hv=>hv.2.2⟩
  have hq : Go.Proofs.YtboicjlbbbodgaaGreatDoor.val (dwords z) < 2 ^ n:=h5
  unfold dwords at hq
  split at hq
  · rename_i e0
    have : z.den = 1:=by
      have h0 : z = 0:=by first | exact e0 | exact Rat.num_eq_zero.1 e0
      rw [h0];rfl
    rw [this];exact Nat.lt_of_lt_of_le (show (1 : Nat) < 2 ^ 1 by decide) (Nat.pow_le_pow_right (by decide) h1)
  · rwa [val_words] at hq⟩
class AllG (es : List SE) : Prop where
  h : ∀ e ∈ es,∃ d τ u,e = SE.g d τ u
instance AllG.nil : AllG []:=⟨fun e h=>by simp at h⟩
instance AllG.cons {d : Nat} {τ : MT} {u : List Nat} {es : List SE} [h : AllG es] : AllG (.g d τ u :: es):=⟨fun e he=>by
  rcases List.mem_cons.1 he with e1 | e1
  · exact ⟨d,τ,u,e1⟩
  · exact h.h e e1⟩
theorem AllG.sto {nB v : Nat} {all : List SE} : ∀ {es : List SE} {o : Nat},(∀ e ∈ es,∃ d τ u,e = SE.g d τ u) → storeOf (es.map (poS nB all)) o v = none
  | [],_,_=>rfl
  | x :: es,o,h=>by
    obtain ⟨d,τ,u,rfl⟩:=h x (.head _)
    exact AllG.sto (es:=es) fun e he=>h e (.tail _ he)
theorem BZ3_id {PL : List PO3} (h : ∀ v,storeOf PL 0 v = none) : ∀ {u : Nat} {B : List BX},BZ3 PL u B = B
  | _,[]=>rfl
  | u,x :: r=>by
    unfold BZ3 finT
    rw [h u,BZ3_id h]
theorem BF3_id {PL : List PO3} {β : Nat → Nat} (h : ∀ v,storeOf PL 0 v = none) (hg : ∀ (m : Nat) (po : PO3),PL[m]? = some po → ∃ τ,po.τ = .g τ) : ∀ {m : Nat},BF3 PL β B m = B
  | 0=>BZ3_id h
  | m + 1=>by
    unfold BF3
    cases hm : PL[m]? with
    | none=>exact BF3_id h hg
    | some po =>
      obtain ⟨τ,e⟩:=hg m po hm
      simp only [e];exact BF3_id h hg
theorem W.fing {β : Nat → Nat} {ss : List SE} {q : Prop} [ag : AllG ss] [hl : FinL β 0 ss L L'] (K : St W0 G0 N L' B a w G → q) : St W0 G0 N (fL β 0 ss L) (BF3 (plS B.length ss) β B ss.length) a w G → q:=fun S=>K (by
  have e:=BF3_id (PL:=plS B.length ss) (β:=β) (B:=B) (fun v=>AllG.sto ag.h) (fun m po hm=>by
    unfold plS at hm
    rw [List.getElem?_map] at hm
    cases he : ss[m]? with
    | none=>rw [he] at hm;cases hm
    | some e =>
      rw [he] at hm;cases hm
      obtain ⟨d,τ,u,rfl⟩:=ag.h e (List.mem_of_getElem? he)
      exact ⟨τ,rfl⟩) (m:=ss.length)
  rw [e] at S
  rw [hl.h]
  exact S)
end
end Go.Proofs.YtboicjlbbbodgaaGreatDoor
namespace Go.Proofs.YtboicjlbbbodgaaGreatDoor
open Go.RowKit (Below)
def pairF (l : List Rat) : List Rat:=l.take 2 ++ [0,0].drop l.length
theorem rat_pos_iff {x : Rat} : 0 < x ↔ 0 < x.num:=by
  have h1:=@Rat.num_nonneg x;have h2:=@Rat.num_eq_zero x
  constructor
  · intro h;have h0 : 0 ≤ x:=by grind
    have h3:=h1.2 h0
    have : x.num ≠ 0:=fun e=>by have:=h2.1 e;grind
    omega
  · intro h;have : 0 ≤ x:=h1.1 (by omega)
    have : x ≠ 0:=fun e=>by have:=h2.2 e;omega
    grind
theorem all_snoc {α : Type} [Inhabited α] {l : List α} {p : α → Bool} {k : Nat} (hk : k < l.length) (h : (l.take k).all p = true) (h2 : p (l.getD k default) = true) : (l.take (k + 1)).all p = true:=by
  rw [List.take_succ_eq_append_getElem hk,List.all_append,h]
  rw [List.getD_eq_getElem?_getD,List.getElem?_eq_getElem hk] at h2
  simpa using h2
theorem all_not {α : Type} [Inhabited α] {l : List α} {p : α → Bool} {k : Nat} (hk : k < l.length) (h2 : p (l.getD k default) = false) : l.all p = false:=by
  rw [List.getD_eq_getElem?_getD,List.getElem?_eq_getElem hk] at h2
  cases h : l.all p with
  | false=>rfl
  | true=>rw [List.all_eq_true] at h;have:=h l[k] (by simp);simp at h2;rw [h2] at this;cases this
theorem all_end {α : Type} {l : List α} {p : α → Bool} {k : Nat} (hk : ¬ k < l.length) (h : (l.take k).all p = true) : l.all p = true:=by rwa [List.take_of_length_le (by omega)] at h
end Go.Proofs.YtboicjlbbbodgaaGreatDoor
