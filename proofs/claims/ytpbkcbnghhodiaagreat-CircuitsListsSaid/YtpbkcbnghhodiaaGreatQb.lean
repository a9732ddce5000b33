import Derived.Test.YtpbkcbnghhodiaaGreatProg
import Derived.Great.BuildSlice
import Derived.Test.YtpbkcbnghhodiaaGreatQa
set_option linter.unusedVariables false
set_option linter.unusedSimpArgs false
namespace Go.Proofs.YtpbkcbnghhodiaaGreat
set_option maxHeartbeats 1000000
set_option maxRecDepth 100000
open Go.RowKit (Below)
private theorem c_127 : callable Tryz.prog 127 = true:=by kernel_rfl
private theorem c_128 : callable Tryz.prog 128 = true:=by kernel_rfl
private theorem el_141 : elS Tryz.prog 141 1 4 (.int .u32 0):=by unfold elS;kernel_rfl
private theorem it_141 : intTy Tryz.prog 141 .u32 = true:=by kernel_rfl
private theorem it_147 : intTy Tryz.prog 147 .u64 = true:=by kernel_rfl
private theorem mixedOrders : Tryz.prog.follows .mixedOrders = true:=by kernel_rfl
private theorem tS_141 : tyS Tryz.prog 141 (none) = true:=by kernel_rfl
theorem word_ok {l : List Nat} {i : Nat} {v1 v2 : Value} {W0 : World} {G0 : Gh} (hok : Gok W0 G0) (h1 : (SL l).t v1 G0) (h2 : (NT i).t v2 G0)  : Calls Tryz.prog 128 #[v1,v2] W0 (Ret W0 G0 (MT.ex (nv .u64 (dig l i)))):=by
 have hlim:=SL.lim h1
 have hwf:=SL.wf h1
 simp only [LIM] at hlim
 have hdl:=dig_lt hwf i
 refine St.enter (N:=14) (L:=[(1,NT i),(0,SL l)]) (args:=[v1,v2]) Tryz.func128 rfl rfl rfl hok (enter2 h1 h2) fun a S=>?_
 refine wp_reg fun K hK=>?_
 refine S.s (τ:=MT.ex (nv .u64 (0))) (OpR.asn S.ok rfl (rfl : _ = nv .u64 0)) rfl fun a w G S=>?_
 refine wn hK ?_;clear hK K
 refine wp_seq_k fun K hK=>?_
 refine wp_reg fun K hK=>?_
 refine S.m rfl (S.g 1 rfl) rfl fun a w G S=>?_
 refine S.m rfl (S.g 3 rfl) rfl fun a w G S=>?_
 refine S.s (OpR.lenL S.ok rfl Tryz.underlying22 (S.g 0 rfl) MT.self) rfl fun a w G S=>?_
 refine S.s (OpR.nlss S.ok rfl (S.e 2 rfl) (S.e 0 rfl) MT.self) rfl fun a w G S=>?_
 refine wn hK ?_;clear hK K
 replace S:=S.d3.d2.d1
 refine S.cond 0 rfl (fun hc1=>?_) (fun hc1=>?_)
 ·
  have hp2:=of_decide_eq_true hc1
  refine wp_reg fun K hK=>?_
  refine S.m rfl (S.g 3 rfl) rfl fun a w G S=>?_
  refine S.m rfl (S.g 3 rfl) rfl fun a w G S=>?_
  refine S.s (τ:=PE (none) (MT.ex (nv .u32 (dig (l) (i))))) (OpR.ixL (i:=i) S.ok rfl Tryz.underlying22 tS_141 (S.g 1 rfl) (S.e 0 rfl) rfl (dig_get (by first | omega | (simp;omega)))) rfl fun a w G S=>?_
  refine S.s (OpR.ldE S.ok rfl tS_141 (S.g 0 rfl)) rfl fun a w G S=>?_
  refine S.s (OpR.nconv S.ok rfl (S.e 0 rfl) it_141 it_147 (wr_u64 (by omega)) MT.self) rfl fun a w G S=>?_
  replace S:=S.d6
  refine S.q rfl (S.g 0 rfl) rfl fun a w G S=>?_
  refine wn hK ?_;clear hK K
  replace S:=S.d5.d4.d3.d2.d1
  exact wp_ret (then_ret (S.retTmp rfl ((S.e 0 rfl).trans (nv_eq (by first | rfl | omega | (simp only [Nat.zero_add,Nat.add_zero];done) | (simp;done) | (push_cast;omega))))))
 ·
  have hp3:=of_decide_eq_false hc1
  refine wp_skip ?_
  refine hK _ _ ?_;clear hK K
  refine wp_reg fun K hK=>?_
  replace S:=S.d1
  refine S.s (τ:=MT.ex (nv .u64 (0))) (OpR.asn S.ok rfl (rfl : _ = nv .u64 0)) rfl fun a w G S=>?_
  refine wn hK ?_;clear hK K
  exact wp_ret (S.retTmp rfl ((S.e 0 rfl).trans (nv_eq (dig_out (by omega)).symm)))
theorem trim_ok {nb m : Nat} {v1 : Value} {W0 : World} {G0 : Gh} (hok : Gok W0 G0) (h1 : (SV nb m).t v1 G0)  : Calls Tryz.prog 127 #[v1] W0 (Ret W0 G0 (SN nb m)):=by
 obtain ⟨hlt,l,hl,h1⟩:=h1
 have hlim:=SL.lim h1
 have hwf:=SL.wf h1
 simp only [LIM] at hlim
 refine St.enter (N:=25) (L:=[(0,SL l)]) (args:=[v1]) Tryz.func127 rfl rfl rfl hok (enter1 h1) fun a S=>?_
 refine wp_reg fun K hK=>?_
 refine S.s (τ:=MT.ex (Value.slice none 0 0)) (OpR.asn S.ok rfl rfl) rfl fun a w G S=>?_
 refine wn hK ?_;clear hK K
 refine wp_reg fun K hK=>?_
 refine S.m rfl (S.g 1 rfl) rfl fun a w G S=>?_
 refine S.s (OpR.lenL S.ok rfl Tryz.underlying22 (S.g 0 rfl) MT.self) rfl fun a w G S=>?_
 refine S.q rfl (S.g 0 rfl) rfl fun a w G S=>?_
 refine wn hK ?_;clear hK K
 replace S:=S.d2.d1
 refine wp_seq_k fun K hK=>?_
 refine wp_block ?_
 refine wp_loopJ (fun μ a w=>∃ (n : Nat) (G : Gh),μ = n ∧ (n ≤ l.length) ∧ (val (l.take n) = val l) ∧  St W0 G0 25 [(3,NT n),(2,MT.ex (Value.slice none 0 0)),(0,SL l)] [] a w G) (l.length) ⟨l.length,_,rfl,(Nat.le_refl _),(by rw [List.take_length]),(S.keep [0,1,2]).keepB [] (by decide)⟩ ?_
 clear S
 intro μ a w ⟨n,G,hm,hn,hv,S⟩
 refine wp_seq_k fun K hK=>?_
 refine wp_reg fun K hK=>?_
 refine S.m rfl (S.g 0 rfl) rfl fun a w G S=>?_
 refine S.s (OpR.ngtr S.ok rfl (S.e 0 rfl) (rfl : _ = nv .i64 0) MT.self) rfl fun a w G S=>?_
 refine S.m rfl (S.g 0 rfl) rfl fun a w G S=>?_
 rcases Bool.eq_false_or_eq_true (decide (0 < n)) with hc1 | hc1
 ·
  have hp2:=of_decide_eq_true hc1
  replace S:=S.boolIs 0 rfl hc1
  refine S.stepG 0 (OpR.mv S.ok rfl (S.g 6 rfl)) rfl rfl rfl rfl rfl rfl fun a w G S=>?_
  refine S.stepG 1 (OpR.mv S.ok rfl (S.g 5 rfl)) rfl rfl rfl rfl rfl rfl fun a w G S=>?_
  refine S.stepG 2 (OpR.nsub S.ok rfl (S.e 0 rfl) (rfl : _ = nv .i64 1) (by omega) (wr_i64 (by omega)) MT.self) rfl rfl rfl rfl rfl rfl fun a w G S=>?_
  refine S.stepG (τ:=PE (none) (MT.ex (nv .u32 (dig (l) (n - 1))))) 3 (OpR.ixL (i:=n - 1) S.ok rfl Tryz.underlying22 tS_141 (S.g 2 rfl) (S.e 0 rfl) rfl (dig_get (by first | omega | (simp;omega)))) rfl rfl rfl rfl rfl rfl fun a w G S=>?_
  refine S.stepG 4 (OpR.ldE S.ok rfl tS_141 (S.g 0 rfl)) rfl rfl rfl rfl rfl rfl fun a w G S=>?_
  refine S.stepG 5 (OpR.neql S.ok rfl (S.e 0 rfl) (rfl : _ = nv .u32 0) MT.self) rfl rfl rfl rfl rfl rfl fun a w G S=>?_
  refine S.s (τ:=BT (decide ((dig (l) (n - 1)) = 0))) (OpR.pick S.ok rfl (S.e 6 rfl) (S.g 0 rfl)) rfl fun a w G S=>?_
  refine wn hK ?_;clear hK K
  replace S:=S.d10.d9.d8.d7.d6.d5.d4.d3.d2.d1
  refine S.cond 0 rfl (fun hc3=>?_) (fun hc3=>?_)
  ·
   have hp4:=of_decide_eq_true hc3
   refine wp_skip ?_
   refine hK _ _ ?_;clear hK K
   refine wp_block ?_
   refine wp_region_lit ?_
   refine S.m rfl (S.g 1 rfl) rfl fun a w G S=>?_
   refine S.s (OpR.nsub S.ok rfl (S.e 0 rfl) (rfl : _ = nv .i64 1) (by omega) (wr_i64 (by omega)) MT.self) rfl fun a w G S=>?_
   replace S:=S.d3
   refine S.q rfl (S.g 0 rfl) rfl fun a w G S=>?_
   refine wpList_nil ?_
   replace S:=S.d2.d1
   exact ⟨(n - 1),(by omega),n - 1,_,rfl,(by omega),(trim_step ‹_› ‹_› hv),(S.keep [0,2,3]).keepB [] (by decide)⟩
  ·
   have hp5:=of_decide_eq_false hc3
   refine wp_exit (then_exit (then_exit (exit_same ?_)))
   clear hK K
   refine hK _ _ ?_;clear hK K
   refine wp_seq_k fun K hK=>?_
   refine wp_reg fun K hK=>?_
   refine S.m rfl (S.g 1 rfl) rfl fun a w G S=>?_
   refine S.s (OpR.neql S.ok rfl (S.e 0 rfl) (rfl : _ = nv .i64 0) MT.self) rfl fun a w G S=>?_
   refine wn hK ?_;clear hK K
   replace S:=S.d1
   refine S.cond 0 rfl (fun hc6=>?_) (fun hc6=>?_)
   ·
    have hp7:=of_decide_eq_true hc6
    refine wp_reg fun K hK=>?_
    replace S:=S.d3
    refine S.s (τ:=MT.ex (Value.slice none 0 0)) (OpR.asn S.ok rfl rfl) rfl fun a w G S=>?_
    refine wn hK ?_;clear hK K
    exact wp_ret (then_ret (S.retTmp rfl (SN_nil_of (S.e 0 rfl) (trim_zero ‹_› hv hl))))
   ·
    have hp8:=of_decide_eq_false hc6
    refine wp_skip ?_
    refine hK _ _ ?_;clear hK K
    refine wp_reg fun K hK=>?_
    refine S.s (τ:=EMP) (OpR.build0 S.ok rfl Tryz.underlying22 el_141) rfl fun a w G S=>?_
    refine S.m rfl (S.g 5 rfl) rfl fun a w G S=>?_
    refine S.m rfl (S.g 4 rfl) rfl fun a w G S=>?_
    refine S.s (τ:=SL (l.take (n))) (OpR.cutL S.ok rfl Tryz.underlying22 tS_141 (S.g 1 rfl) (S.e 0 rfl) rfl (by first | omega | (simp;omega))) rfl fun a w G S=>?_
    refine S.s (τ:=SL (l.take (n))) (OpR.appNew S.ok rfl Tryz.underlying22 el_141 (S.g 3 rfl) (S.g 0 rfl)) rfl fun a w G S=>?_
    replace S:=S.d8
    refine S.q rfl (S.g 0 rfl) rfl fun a w G S=>?_
    refine wn hK ?_;clear hK K
    replace S:=S.d5.d4.d3.d2.d1
    exact wp_ret (S.retTmp rfl (SL.toSN (S.g 0 rfl) (trim_words ‹_› (by first | omega | exact ‹_›) hn hv hl hwf) hlt))
 ·
  have hp9:=of_decide_eq_false hc1
  replace S:=S.boolIs 0 rfl hc1
  refine S.skipG 0 rfl rfl rfl rfl rfl rfl fun a w G S=>?_
  refine S.skipG 1 rfl rfl rfl rfl rfl rfl fun a w G S=>?_
  refine S.skipG 2 rfl rfl rfl rfl rfl rfl fun a w G S=>?_
  refine S.skipG 3 rfl rfl rfl rfl rfl rfl fun a w G S=>?_
  refine S.skipG 4 rfl rfl rfl rfl rfl rfl fun a w G S=>?_
  refine S.skipG 5 rfl rfl rfl rfl rfl rfl fun a w G S=>?_
  refine S.s (τ:=BT false) (OpR.pick S.ok rfl (S.e 6 rfl) rfl) rfl fun a w G S=>?_
  refine wn hK ?_;clear hK K
  replace S:=S.d10.d9.d8.d7.d6.d5.d4.d3.d2.d1
  refine wp_cond_false (S.e 0 rfl) ?_
  refine wp_exit (then_exit (then_exit (exit_same ?_)))
  clear hK K
  refine hK _ _ ?_;clear hK K
  refine wp_seq_k fun K hK=>?_
  refine wp_reg fun K hK=>?_
  refine S.m rfl (S.g 1 rfl) rfl fun a w G S=>?_
  refine S.s (OpR.neql S.ok rfl (S.e 0 rfl) (rfl : _ = nv .i64 0) MT.self) rfl fun a w G S=>?_
  refine wn hK ?_;clear hK K
  replace S:=S.d1
  refine S.cond 0 rfl (fun hc10=>?_) (fun hc10=>?_)
  ·
   have hp11:=of_decide_eq_true hc10
   refine wp_reg fun K hK=>?_
   replace S:=S.d3
   refine S.s (τ:=MT.ex (Value.slice none 0 0)) (OpR.asn S.ok rfl rfl) rfl fun a w G S=>?_
   refine wn hK ?_;clear hK K
   exact wp_ret (then_ret (S.retTmp rfl (SN_nil_of (S.e 0 rfl) (trim_zero ‹_› hv hl))))
  ·
   have hp12:=of_decide_eq_false hc10
   refine wp_skip ?_
   refine hK _ _ ?_;clear hK K
   refine wp_reg fun K hK=>?_
   refine S.s (τ:=EMP) (OpR.build0 S.ok rfl Tryz.underlying22 el_141) rfl fun a w G S=>?_
   refine S.m rfl (S.g 5 rfl) rfl fun a w G S=>?_
   refine S.m rfl (S.g 4 rfl) rfl fun a w G S=>?_
   refine S.s (τ:=SL (l.take (n))) (OpR.cutL S.ok rfl Tryz.underlying22 tS_141 (S.g 1 rfl) (S.e 0 rfl) rfl (by first | omega | (simp;omega))) rfl fun a w G S=>?_
   refine S.s (τ:=SL (l.take (n))) (OpR.appNew S.ok rfl Tryz.underlying22 el_141 (S.g 3 rfl) (S.g 0 rfl)) rfl fun a w G S=>?_
   replace S:=S.d8
   refine S.q rfl (S.g 0 rfl) rfl fun a w G S=>?_
   refine wn hK ?_;clear hK K
   replace S:=S.d5.d4.d3.d2.d1
   exact wp_ret (S.retTmp rfl (SL.toSN (S.g 0 rfl) (trim_words ‹_› (by first | omega | exact ‹_›) hn hv hl hwf) hlt))
theorem compare_ok {na nb x y : Nat} {v1 v2 : Value} {W0 : World} {G0 : Gh} (hok : Gok W0 G0) (h1 : (SN na x).t v1 G0) (h2 : (SN nb y).t v2 G0)  : Calls Tryz.prog 104 #[v1,v2] W0 (Ret W0 G0 (IT (cmpN x y))):=by
 have hla:=SL.lim (SN.toSL h1)
 have hlb:=SL.lim (SN.toSL h2)
 simp only [LIM] at hla hlb
 refine St.enter (N:=41) (L:=[(1,SN nb y),(0,SN na x)]) (args:=[v1,v2]) Tryz.func104 rfl rfl rfl hok (enter2 h1 h2) fun a S=>?_
 refine wp_reg fun K hK=>?_
 refine S.s (τ:=NT 0) (OpR.asn S.ok rfl (rfl : _ = nv .i64 0)) rfl fun a w G S=>?_
 refine wn hK ?_;clear hK K
 refine wp_seq_k fun K hK=>?_
 refine wp_reg fun K hK=>?_
 refine S.m rfl (S.g 2 rfl) rfl fun a w G S=>?_
 refine S.s (OpR.lenL S.ok rfl Tryz.underlying22 (SN.toSL (S.g 0 rfl)) MT.self) rfl fun a w G S=>?_
 refine S.m rfl (S.g 3 rfl) rfl fun a w G S=>?_
 refine S.s (OpR.lenL S.ok rfl Tryz.underlying22 (SN.toSL (S.g 0 rfl)) MT.self) rfl fun a w G S=>?_
 refine S.s (OpR.nneq S.ok rfl (S.e 2 rfl) (S.e 0 rfl) MT.self) rfl fun a w G S=>?_
 refine wn hK ?_;clear hK K
 replace S:=S.d4.d3.d2.d1
 refine S.cond 0 rfl (fun hc1=>?_) (fun hc1=>?_)
 ·
  have hp2:=of_decide_eq_true hc1
  refine wp_seq_k fun K hK=>?_
  refine wp_reg fun K hK=>?_
  refine S.m rfl (S.g 3 rfl) rfl fun a w G S=>?_
  refine S.s (OpR.lenL S.ok rfl Tryz.underlying22 (SN.toSL (S.g 0 rfl)) MT.self) rfl fun a w G S=>?_
  refine S.m rfl (S.g 4 rfl) rfl fun a w G S=>?_
  refine S.s (OpR.lenL S.ok rfl Tryz.underlying22 (SN.toSL (S.g 0 rfl)) MT.self) rfl fun a w G S=>?_
  refine S.s (OpR.nlss S.ok rfl (S.e 2 rfl) (S.e 0 rfl) MT.self) rfl fun a w G S=>?_
  refine wn hK ?_;clear hK K
  replace S:=S.d4.d3.d2.d1
  refine S.cond 0 rfl (fun hc3=>?_) (fun hc3=>?_)
  ·
   have hp4:=of_decide_eq_true hc3
   refine wp_reg fun K hK=>?_
   replace S:=S.d2
   refine S.s (τ:=IT (-1)) (OpR.asn S.ok rfl (rfl : _ = Value.int .i64 (-1))) rfl fun a w G S=>?_
   refine wn hK ?_;clear hK K
   exact wp_ret (then_ret (then_ret (S.retTmp rfl ((S.e 0 rfl).trans (iv_eq (cmp_of_lt (lt_of_len ‹_›)))))))
  ·
   have hp5:=of_decide_eq_false hc3
   refine wp_skip ?_
   refine hK _ _ ?_;clear hK K
   refine wp_reg fun K hK=>?_
   replace S:=S.d2
   refine S.s (τ:=NT 1) (OpR.asn S.ok rfl (rfl : _ = nv .i64 1)) rfl fun a w G S=>?_
   refine wn hK ?_;clear hK K
   exact wp_ret (then_ret (S.retTmp rfl ((S.e 0 rfl).trans (iv_eq (cmp_of_gt (lt_of_len (by omega)))))))
 ·
  have hp6:=of_decide_eq_false hc1
  refine wp_skip ?_
  refine hK _ _ ?_;clear hK K
  refine wp_seq_k fun K hK=>?_
  refine wp_reg fun K hK=>?_
  refine S.m rfl (S.g 3 rfl) rfl fun a w G S=>?_
  refine S.s (OpR.lenL S.ok rfl Tryz.underlying22 (SN.toSL (S.g 0 rfl)) MT.self) rfl fun a w G S=>?_
  refine S.s (τ:=IT ((((words (x)).length : Nat) : Int) - ((1 : Nat) : Int))) (OpR.isub S.ok rfl (S.e 0 rfl) (rfl : _ = nv .i64 1) (iw_i64 (by omega) (by omega))) rfl fun a w G S=>?_
  refine S.q rfl (S.g 0 rfl) rfl fun a w G S=>?_
  refine wn hK ?_;clear hK K
  replace S:=S.d3.d2.d1
  refine wp_block ?_
  replace S:=S.also (t:=5) (τ:=IT (((((words x).length) : Nat) : Int) - ((1 : Nat) : Int))) ((S.e 0 rfl).trans (iv_eq (by first | rfl | omega | (simp only [Nat.zero_add,Nat.add_zero];done) | (simp;done) | (push_cast;omega))))
  refine wp_loopJ (fun μ a w=>∃ (k : Nat) (G : Gh),μ = k ∧ (k ≤ (words x).length) ∧ (val ((words x).drop k) = val ((words y).drop k)) ∧  St W0 G0 41 [(5,IT (((k : Nat) : Int) - ((1 : Nat) : Int))),(10,BT (decide (((words (x)).length) ≠ ((words (y)).length)))),(4,NT 0),(1,SN nb y),(0,SN na x)] [] a w G) (((words x).length)) ⟨(words x).length,_,rfl,(Nat.le_refl _),(by rw [List.drop_length,List.drop_of_length_le (by omega)]),(S.keep [0,2,3,4,5]).keepB [] (by decide)⟩ ?_
  clear S
  intro μ a w ⟨k,G,hm,hk,he,S⟩
  refine wp_seq_k fun K hK=>?_
  refine wp_reg fun K hK=>?_
  refine S.m rfl (S.g 0 rfl) rfl fun a w G S=>?_
  refine S.s (OpR.igeq S.ok rfl (S.e 0 rfl) (rfl : _ = nv .i64 0) MT.self) rfl fun a w G S=>?_
  refine wn hK ?_;clear hK K
  replace S:=S.d1
  refine S.cond 0 rfl (fun hc7=>?_) (fun hc7=>?_)
  ·
   have hp8:=of_decide_eq_true hc7
   refine wp_skip ?_
   refine hK _ _ ?_;clear hK K
   refine wp_seq_k fun K hK=>?_
   refine wp_block ?_
   refine wp_seq_k fun K hK=>?_
   refine S.drawn [⟨23,.g (SN na x),[]⟩,⟨24,.g (IT (((k : Nat) : Int) - ((1 : Nat) : Int))),[]⟩,⟨25,.g (PE (none) (MT.ex (nv .u32 (dig (words (x)) (k - 1))))),[0,1]⟩,⟨26,.g (MT.ex (nv .u32 (dig (words (x)) (k - 1)))),[2]⟩,⟨27,.g (SN nb y),[]⟩,⟨28,.g (IT (((k : Nat) : Int) - ((1 : Nat) : Int))),[]⟩,⟨29,.g (PE (none) (MT.ex (nv .u32 (dig (words (y)) (k - 1))))),[4,5]⟩,⟨30,.g (MT.ex (nv .u32 (dig (words (y)) (k - 1)))),[6]⟩,⟨31,.g (BT (decide ((dig (words (x)) (k - 1)) ≠ (dig (words (y)) (k - 1))))),[3,7]⟩] mixedOrders (by kernel_rfl)
    ⟨fun a w G S=>.of rfl (OpR.mv S.ok rfl (S.g 5 rfl)),
     fun a w G S=>.of rfl (OpR.mv S.ok rfl (S.g 1 rfl)),
     fun a w G S=>.of rfl (OpR.ixL (i:=k - 1) S.ok rfl Tryz.underlying22 tS_141 (SN.toSL (S.g 0 rfl)) (S.e 1 rfl) (by omega) (dig_get (by first | omega | (simp;omega)))),
     fun a w G S=>.of rfl (OpR.ldE S.ok rfl tS_141 (S.g 0 rfl)),
     fun a w G S=>.of rfl (OpR.mv S.ok rfl (S.g 4 rfl)),
     fun a w G S=>.of rfl (OpR.mv S.ok rfl (S.g 1 rfl)),
     fun a w G S=>.of rfl (OpR.ixL (i:=k - 1) S.ok rfl Tryz.underlying22 tS_141 (SN.toSL (S.g 0 rfl)) (S.e 1 rfl) (by omega) (dig_get (by first | omega | (simp;omega)))),
     fun a w G S=>.of rfl (OpR.ldE S.ok rfl tS_141 (S.g 0 rfl)),
     fun a w G S=>.of rfl (OpR.nneq S.ok rfl (S.e 0 rfl) (S.e 1 rfl) MT.self),trivial⟩ fun β a w G S=>?_
   replace S : St W0 G0 41 [(31,BT (decide ((dig (words (x)) (k - 1)) ≠ (dig (words (y)) (k - 1))))),(20,BT (decide ((((k : Nat) : Int) - ((1 : Nat) : Int)) ≥ 0))),(5,IT (((k : Nat) : Int) - ((1 : Nat) : Int))),(10,BT (decide (((words (x)).length) ≠ ((words (y)).length)))),(4,NT 0),(1,SN nb y),(0,SN na x)] [] a _ _:=S.keep [0,9,10,11,12,13,14]
   refine wn hK ?_;clear hK K
   refine S.cond 0 rfl (fun hc9=>?_) (fun hc9=>?_)
   ·
    have hp10:=of_decide_eq_true hc9
    refine wp_seq_k fun K hK=>?_
    refine wp_seq_k fun K hK=>?_
    refine S.drawn [⟨32,.g (SN na x),[]⟩,⟨33,.g (IT (((k : Nat) : Int) - ((1 : Nat) : Int))),[]⟩,⟨34,.g (PE (none) (MT.ex (nv .u32 (dig (words (x)) (k - 1))))),[0,1]⟩,⟨35,.g (MT.ex (nv .u32 (dig (words (x)) (k - 1)))),[2]⟩,⟨36,.g (SN nb y),[]⟩,⟨37,.g (IT (((k : Nat) : Int) - ((1 : Nat) : Int))),[]⟩,⟨38,.g (PE (none) (MT.ex (nv .u32 (dig (words (y)) (k - 1))))),[4,5]⟩,⟨39,.g (MT.ex (nv .u32 (dig (words (y)) (k - 1)))),[6]⟩,⟨40,.g (BT (decide ((dig (words (x)) (k - 1)) < (dig (words (y)) (k - 1))))),[3,7]⟩] mixedOrders (by kernel_rfl)
     ⟨fun a w G S=>.of rfl (OpR.mv S.ok rfl (S.g 6 rfl)),
      fun a w G S=>.of rfl (OpR.mv S.ok rfl (S.g 2 rfl)),
      fun a w G S=>.of rfl (OpR.ixL (i:=k - 1) S.ok rfl Tryz.underlying22 tS_141 (SN.toSL (S.g 0 rfl)) (S.e 1 rfl) (by omega) (dig_get (by first | omega | (simp;omega)))),
      fun a w G S=>.of rfl (OpR.ldE S.ok rfl tS_141 (S.g 0 rfl)),
      fun a w G S=>.of rfl (OpR.mv S.ok rfl (S.g 5 rfl)),
      fun a w G S=>.of rfl (OpR.mv S.ok rfl (S.g 2 rfl)),
      fun a w G S=>.of rfl (OpR.ixL (i:=k - 1) S.ok rfl Tryz.underlying22 tS_141 (SN.toSL (S.g 0 rfl)) (S.e 1 rfl) (by omega) (dig_get (by first | omega | (simp;omega)))),
      fun a w G S=>.of rfl (OpR.ldE S.ok rfl tS_141 (S.g 0 rfl)),
      fun a w G S=>.of rfl (OpR.nlss S.ok rfl (S.e 0 rfl) (S.e 1 rfl) MT.self),trivial⟩ fun β a w G S=>?_
    replace S : St W0 G0 41 [(40,BT (decide ((dig (words (x)) (k - 1)) < (dig (words (y)) (k - 1))))),(31,BT (decide ((dig (words (x)) (k - 1)) ≠ (dig (words (y)) (k - 1))))),(20,BT (decide ((((k : Nat) : Int) - ((1 : Nat) : Int)) ≥ 0))),(5,IT (((k : Nat) : Int) - ((1 : Nat) : Int))),(10,BT (decide (((words (x)).length) ≠ ((words (y)).length)))),(4,NT 0),(1,SN nb y),(0,SN na x)] [] a _ _:=S.keep [0,9,10,11,12,13,14,15]
    refine wn hK ?_;clear hK K
    refine S.cond 0 rfl (fun hc11=>?_) (fun hc11=>?_)
    ·
     have hp12:=of_decide_eq_true hc11
     refine wp_reg fun K hK=>?_
     replace S:=S.d5
     refine S.s (τ:=IT (-1)) (OpR.asn S.ok rfl (rfl : _ = Value.int .i64 (-1))) rfl fun a w G S=>?_
     refine wn hK ?_;clear hK K
     exact wp_ret (then_ret (block_ret (then_ret (then_ret (block_ret (then_ret (S.retTmp rfl ((S.e 0 rfl).trans (iv_eq (cmp_of_lt (lt_of_dig (by omega) he ‹_›)))))))))))
    ·
     have hp13:=of_decide_eq_false hc11
     refine wp_skip ?_
     refine hK _ _ ?_;clear hK K
     refine wp_reg fun K hK=>?_
     replace S:=S.d5
     refine S.s (τ:=NT 1) (OpR.asn S.ok rfl (rfl : _ = nv .i64 1)) rfl fun a w G S=>?_
     refine wn hK ?_;clear hK K
     exact wp_ret (block_ret (then_ret (then_ret (block_ret (then_ret (S.retTmp rfl ((S.e 0 rfl).trans (iv_eq (cmp_of_gt (lt_of_dig (by omega) he.symm (by omega)))))))))))
   ·
    have hp14:=of_decide_eq_false hc9
    refine wp_skip ?_
    refine hK _ _ ?_;clear hK K
    refine wp_region_lit ?_
    refine S.m rfl (S.g 2 rfl) rfl fun a w G S=>?_
    refine S.s (τ:=IT ((((k : Nat) : Int) - ((1 : Nat) : Int)) - 1)) (OpR.isub S.ok rfl (S.e 0 rfl) (rfl : _ = nv .i64 1) (iw_i64 (by omega) (by omega))) rfl fun a w G S=>?_
    replace S:=S.d4
    refine S.q rfl (S.g 0 rfl) rfl fun a w G S=>?_
    refine wpList_nil ?_
    replace S:=S.d2.d1
    replace S:=S.also (t:=5) (τ:=IT ((((k - 1) : Nat) : Int) - ((1 : Nat) : Int))) ((S.e 0 rfl).trans (iv_eq (by first | rfl | omega | (simp only [Nat.zero_add,Nat.add_zero];done) | (simp;done) | (push_cast;omega))))
    exact ⟨(k - 1),(by omega),(k - 1),_,rfl,(by omega),(drop_step (by omega) he ‹_›),(S.keep [0,4,5,6,7]).keepB [] (by decide)⟩
  ·
   have hp15:=of_decide_eq_false hc7
   refine wp_exit (then_exit (then_exit (exit_same ?_)))
   clear hK K
   refine hK _ _ ?_;clear hK K
   refine wp_reg fun K hK=>?_
   replace S:=S.d3
   refine S.s (τ:=NT 0) (OpR.asn S.ok rfl (rfl : _ = nv .i64 0)) rfl fun a w G S=>?_
   refine wn hK ?_;clear hK K
   exact wp_ret (S.retTmp rfl ((S.e 0 rfl).trans (iv_eq (cmp_of_eq (eq_of_drop (by omega) he)))))
theorem plus_ok {na nb x y : Nat} {v1 v2 : Value} {W0 : World} {G0 : Gh} (hok : Gok W0 G0) (h1 : (SN na x).t v1 G0) (h2 : (SN nb y).t v2 G0) (hna : na ≤ BIG) (hnb : nb ≤ BIG) : Calls Tryz.prog 109 #[v1,v2] W0 (Ret W0 G0 (SN (max na nb + 1) (x + y))):=by
 have hla:=words_length_bits (SN.lt h1)
 have hlb:=words_length_bits (SN.lt h2)
 simp only [BIG] at hna hnb
 have ha:=SN.lt h1
 have hb:=SN.lt h2
 refine St.enter (N:=39) (L:=[(1,SN nb y),(0,SN na x)]) (args:=[v1,v2]) Tryz.func109 rfl rfl rfl hok (enter2 h1 h2) fun a S=>?_
 refine wp_reg fun K hK=>?_
 refine S.s (τ:=MT.ex (Value.slice none 0 0)) (OpR.asn S.ok rfl rfl) rfl fun a w G S=>?_
 refine wn hK ?_;clear hK K
 refine wp_reg fun K hK=>?_
 refine S.m rfl (S.g 2 rfl) rfl fun a w G S=>?_
 refine S.s (OpR.lenL S.ok rfl Tryz.underlying22 (SN.toSL (S.g 0 rfl)) MT.self) rfl fun a w G S=>?_
 refine S.m rfl (S.g 3 rfl) rfl fun a w G S=>?_
 refine S.s (OpR.lenL S.ok rfl Tryz.underlying22 (SN.toSL (S.g 0 rfl)) MT.self) rfl fun a w G S=>?_
 refine S.s (OpR.nmax S.ok rfl (S.e 2 rfl) (S.e 0 rfl) MT.self) rfl fun a w G S=>?_
 refine S.s (OpR.nadd S.ok rfl (S.e 0 rfl) (rfl : _ = nv .i64 1) (wr_i64 (by omega)) MT.self) rfl fun a w G S=>?_
 refine S.mkSlice (n:=(max ((words (x)).length) ((words (y)).length)) + 1) rfl rfl rfl Tryz.underlying22 el_141 (S.e 0 rfl) (S.e 0 rfl) rfl rfl (by omega) (by omega) rfl rfl fun b14 a w G S=>?_
 refine S.q rfl (S.g 0 rfl) rfl fun a w G S=>?_
 refine wn hK ?_;clear hK K
 replace S:=S.d7.d6.d5.d4.d3.d2.d1
 refine wp_reg fun K hK=>?_
 refine S.s (τ:=MT.ex (nv .u64 (0))) (OpR.asn S.ok rfl (rfl : _ = nv .u64 0)) rfl fun a w G S=>?_
 refine wn hK ?_;clear hK K
 refine wp_seq_k fun K hK=>?_
 refine wp_reg fun K hK=>?_
 refine S.m rfl (S.g 1 rfl) rfl fun a w G S=>?_
 refine S.s (OpR.lenA S.ok rfl Tryz.underlying22 (S.e 0 rfl) MT.self) rfl fun a w G S=>?_
 refine S.s (τ:=NT 0) (OpR.mv S.ok rfl (rfl : _ = nv .i64 0)) rfl fun a w G S=>?_
 refine wn hK ?_;clear hK K
 replace S:=S.d2
 refine wp_block ?_
 replace S:=S.castBox (τ':=MT.ex (Value.agg (ucells ((List.replicate ((max ((words (x)).length) ((words (y)).length)) + 1) 0))).toArray)) 0 rfl fun _ h _=>Eq.trans h (congrArg (fun l=>Value.agg (ucells l).toArray) (by simp))
 replace S:=S.n0
 refine wp_loopJ (fun μ a w=>∃ (k : Nat) (c : Nat) (o : List Nat) (G : Gh),μ = max (words x).length (words y).length + 1 - k ∧ (k ≤ max (words x).length (words y).length + 1) ∧ (c ≤ 1) ∧ (o.length = max (words x).length (words y).length + 1) ∧ (wfl o) ∧ (val (o.take k) + 4294967296 ^ k * c = val ((words x).take k) + val ((words y).take k)) ∧  St W0 G0 39 [(17,NT k),(16,NT ((max ((words (x)).length) ((words (y)).length)) + 1)),(6,MT.ex (nv .u64 (c))),(5,MT.ex (Value.slice (some ⟨b14,0,none⟩) ((max ((words (x)).length) ((words (y)).length)) + 1) ((max ((words (x)).length) ((words (y)).length)) + 1))),(4,MT.ex (Value.slice none 0 0)),(1,SN nb y),(0,SN na x)] [⟨b14,141,some ((max ((words (x)).length) ((words (y)).length)) + 1),MT.ex (Value.agg (ucells (o)).toArray)⟩] a w G) (max (words x).length (words y).length + 1 - 0) ⟨0,0,List.replicate ((max ((words (x)).length) ((words (y)).length)) + 1) 0,_,rfl,(by omega),(by omega),(by simp),(wfl_replicate _),(by simp [val]),(S.keep [0,1,2,3,4,5,6]).keepB [0] (by decide)⟩ ?_
 clear S
 intro μ a w ⟨k,c,o,G,hm,hk,hc,ho,hw,hv,S⟩
 have hda:=dig_lt (wfl_words x) k
 have hdb:=dig_lt (wfl_words y) k
 refine wp_reg fun K hK=>?_
 refine S.s (OpR.nlss S.ok rfl (S.e 0 rfl) (S.e 1 rfl) MT.self) rfl fun a w G S=>?_
 refine wn hK ?_;clear hK K
 refine wp_seq_k fun K hK=>?_
 refine S.cond 0 rfl (fun hc1=>?_) (fun hc1=>?_)
 ·
  have hp2:=of_decide_eq_true hc1
  refine wp_skip ?_
  refine hK _ _ ?_;clear hK K
  refine wp_seq_k fun K hK=>?_
  refine wp_block ?_
  refine wp_reg fun K hK=>?_
  refine S.m rfl (S.g 1 rfl) rfl fun a w G S=>?_
  refine S.q rfl (S.g 0 rfl) rfl fun a w G S=>?_
  refine wn hK ?_;clear hK K
  replace S:=S.d1
  refine wp_reg fun K hK=>?_
  refine S.m rfl (S.g 4 rfl) rfl fun a w G S=>?_
  refine S.m rfl (S.g 9 rfl) rfl fun a w G S=>?_
  refine S.m rfl (S.g 2 rfl) rfl fun a w G S=>?_
  refine S.s (τ:=MT.ex (nv .u64 (dig (words (x)) k))) (OpR.call2 rfl c_128 (word_ok S.ok (SN.toSL (S.g 1 rfl)) (S.g 0 rfl))) rfl fun a w G S=>?_
  refine S.m rfl (S.g 11 rfl) rfl fun a w G S=>?_
  refine S.m rfl (S.g 5 rfl) rfl fun a w G S=>?_
  refine S.s (τ:=MT.ex (nv .u64 (dig (words (y)) k))) (OpR.call2 rfl c_128 (word_ok S.ok (SN.toSL (S.g 1 rfl)) (S.g 0 rfl))) rfl fun a w G S=>?_
  refine S.s (OpR.nadd S.ok rfl (S.e 3 rfl) (S.e 0 rfl) (wr_u64 (by omega)) MT.self) rfl fun a w G S=>?_
  refine S.s (OpR.nadd S.ok rfl (S.e 7 rfl) (S.e 0 rfl) (wr_u64 (by omega)) MT.self) rfl fun a w G S=>?_
  replace S:=S.d13
  refine S.q rfl (S.g 0 rfl) rfl fun a w G S=>?_
  refine wn hK ?_;clear hK K
  replace S:=S.d9.d8.d7.d6.d5.d4.d3.d2.d1
  refine wp_reg fun K hK=>?_
  refine S.m rfl (S.g 5 rfl) rfl fun a w G S=>?_
  refine S.m rfl (S.g 2 rfl) rfl fun a w G S=>?_
  refine S.m rfl (S.g 2 rfl) rfl fun a w G S=>?_
  refine S.s (OpR.nconv32 S.ok rfl (S.e 0 rfl) it_147 it_141 MT.self) rfl fun a w G S=>?_
  refine S.s (τ:=MT.ex (Value.pointer (some ⟨b14,k,none⟩))) (OpR.ixA (i:=k) S.ok rfl Tryz.underlying22 tS_141 (S.e 3 rfl) (S.e 2 rfl) rfl (by first | omega | (simp;omega)) (ptr_eq (by simp only [Option.getD_none] <;> omega))) rfl fun a w G S=>?_
  refine S.setElem 0 (z:=(c + ((dig (words (x)) k) + (dig (words (y)) k))) % 4294967296) rfl rfl rfl rfl (S.e 0 rfl) tS_141 (S.e 1 rfl) rfl (by first | omega | (simp;omega)) fun w S=>?_
  replace S:=S.n0
  refine wn hK ?_;clear hK K
  replace S:=S.d4.d3.d2.d1.d0
  refine wp_region_lit ?_
  refine S.m rfl (S.g 0 rfl) rfl fun a w G S=>?_
  refine S.s (OpR.nshr S.ok rfl (S.e 0 rfl) (rfl : _ = nv .u64 32) (by decide) MT.self) rfl fun a w G S=>?_
  replace S:=S.d2
  refine S.q rfl (S.g 0 rfl) rfl fun a w G S=>?_
  refine wpList_nil ?_
  replace S:=S.d2.d1
  refine hK _ _ ?_;clear hK K
  refine wp_region_lit ?_
  refine S.s (OpR.nadd S.ok rfl (S.e 3 rfl) (rfl : _ = nv .i64 1) (wr_i64 (by omega)) MT.self) rfl fun a w G S=>?_
  replace S:=S.d4
  refine S.m rfl (S.g 0 rfl) rfl fun a w G S=>?_
  refine wpList_nil ?_
  replace S:=S.d1
  replace S:=S.also (t:=6) (τ:=MT.ex (nv .u64 (((c + ((dig (words (x)) k) + (dig (words (y)) k))) / 2 ^ 32)))) ((S.e 1 rfl).trans (nv_eq (by first | rfl | omega | (simp only [Nat.zero_add,Nat.add_zero];done) | (simp;done) | (push_cast;omega))))
  replace S:=S.castBox (τ':=MT.ex (Value.agg (ucells ((o.set (k) ((c + ((dig (words (x)) k) + (dig (words (y)) k))) % 4294967296)))).toArray)) 0 rfl fun _ h _=>Eq.trans h (congrArg (fun l=>Value.agg (ucells l).toArray) (by simp))
  replace S:=S.n0
  exact ⟨max (words x).length (words y).length + 1 - (k + 1),(by omega),k + 1,(c + ((dig (words (x)) k) + (dig (words (y)) k))) / 2 ^ 32,o.set (k) ((c + ((dig (words (x)) k) + (dig (words (y)) k))) % 4294967296),_,rfl,(by omega),(by omega),(by simpa using ho),(hw.set (by omega)),(add_step (by omega) hv),(S.keep [1,5,0,6,7,8,9]).keepB [0] (by decide)⟩
 ·
  have hp3:=of_decide_eq_false hc1
  refine wp_exit (then_exit (then_exit (exit_same ?_)))
  clear hK K
  refine hK _ _ ?_;clear hK K
  refine wp_reg fun K hK=>?_
  obtain ⟨vz4,Gz4,hz4,hs4,hg4,hle4,S⟩:=S.freeze 0 rfl
  have hsl4 : (SL (o)).t (Value.slice (some ⟨b14,0,none⟩) ((max ((words (x)).length) ((words (y)).length)) + 1) ((max ((words (x)).length) ((words (y)).length)) + 1)) Gz4:=SL_frozen hz4 hg4 ⟨ho.symm,Nat.le_refl _⟩ (by simp only [LIM];omega) (by assumption)
  replace S:=S.also (t:=5) (τ:=SL (o)) ((S.e 4 rfl).symm ▸ hsl4)
  replace S : St W0 G0 39 [(5,SL o),(18,BT (decide (k < ((max ((words (x)).length) ((words (y)).length)) + 1)))),(17,NT k),(16,NT ((max ((words (x)).length) ((words (y)).length)) + 1)),(6,MT.ex (nv .u64 (c))),(4,MT.ex (Value.slice none 0 0)),(1,SN nb y),(0,SN na x)] [] a _ _:=S.keep [0,1,2,3,4,6,7,8]
  refine S.m rfl (S.g 0 rfl) rfl fun a w G S=>?_
  refine S.s (τ:=SN (max na nb + 1) (x + y)) (OpR.call1 rfl c_127 (trim_ok S.ok (SL.asSV (S.g 0 rfl) ⟨add_fin ho ‹_› hk hv hc,add_lt_pow ha hb⟩))) rfl fun a w G S=>?_
  replace S:=S.d7
  refine S.q rfl (S.g 0 rfl) rfl fun a w G S=>?_
  refine wn hK ?_;clear hK K
  replace S:=S.d2.d1
  exact wp_ret (S.retTmp rfl (S.g 0 rfl))
theorem less_ok {na nb x y : Nat} {v1 v2 : Value} {W0 : World} {G0 : Gh} (hok : Gok W0 G0) (h1 : (SN na x).t v1 G0) (h2 : (SN nb y).t v2 G0) (hle : y ≤ x) : Calls Tryz.prog 110 #[v1,v2] W0 (Ret W0 G0 (SN na (x - y))):=by
 have hlim:=SL.lim (SN.toSL h1)
 have hx:=SN.lt h1
 simp only [LIM] at hlim
 refine St.enter (N:=38) (L:=[(1,SN nb y),(0,SN na x)]) (args:=[v1,v2]) Tryz.func110 rfl rfl rfl hok (enter2 h1 h2) fun a S=>?_
 refine wp_reg fun K hK=>?_
 refine S.s (τ:=MT.ex (Value.slice none 0 0)) (OpR.asn S.ok rfl rfl) rfl fun a w G S=>?_
 refine wn hK ?_;clear hK K
 refine wp_reg fun K hK=>?_
 refine S.m rfl (S.g 2 rfl) rfl fun a w G S=>?_
 refine S.s (OpR.lenL S.ok rfl Tryz.underlying22 (SN.toSL (S.g 0 rfl)) MT.self) rfl fun a w G S=>?_
 refine S.mkSlice (n:=(words (x)).length) rfl rfl rfl Tryz.underlying22 el_141 (S.e 0 rfl) (S.e 0 rfl) rfl rfl (by omega) (by omega) rfl rfl fun b11 a w G S=>?_
 refine S.q rfl (S.g 0 rfl) rfl fun a w G S=>?_
 refine wn hK ?_;clear hK K
 replace S:=S.d3.d2.d1
 refine wp_reg fun K hK=>?_
 refine S.s (τ:=MT.ex (nv .u64 (0))) (OpR.asn S.ok rfl (rfl : _ = nv .u64 0)) rfl fun a w G S=>?_
 refine wn hK ?_;clear hK K
 refine wp_seq_k fun K hK=>?_
 refine wp_reg fun K hK=>?_
 refine S.m rfl (S.g 1 rfl) rfl fun a w G S=>?_
 refine S.s (OpR.lenA S.ok rfl Tryz.underlying22 (S.e 0 rfl) MT.self) rfl fun a w G S=>?_
 refine S.s (τ:=NT 0) (OpR.mv S.ok rfl (rfl : _ = nv .i64 0)) rfl fun a w G S=>?_
 refine wn hK ?_;clear hK K
 replace S:=S.d2
 refine wp_block ?_
 replace S:=S.castBox (τ':=MT.ex (Value.agg (ucells ((List.replicate ((words (x)).length) 0))).toArray)) 0 rfl fun _ h _=>Eq.trans h (congrArg (fun l=>Value.agg (ucells l).toArray) (by simp))
 replace S:=S.n0
 refine wp_loopJ (fun μ a w=>∃ (k : Nat) (c : Nat) (o : List Nat) (G : Gh),μ = (words x).length - k ∧ (k ≤ (words x).length) ∧ (c ≤ 1) ∧ (o.length = (words x).length) ∧ (wfl o) ∧ (val (o.take k) + val ((words y).take k) = val ((words x).take k) + 4294967296 ^ k * c) ∧  St W0 G0 38 [(14,NT k),(13,NT ((words (x)).length)),(6,MT.ex (nv .u64 (c))),(5,MT.ex (Value.slice (some ⟨b11,0,none⟩) ((words (x)).length) ((words (x)).length))),(4,MT.ex (Value.slice none 0 0)),(1,SN nb y),(0,SN na x)] [⟨b11,141,some ((words (x)).length),MT.ex (Value.agg (ucells (o)).toArray)⟩] a w G) ((words x).length - 0) ⟨0,0,List.replicate ((words (x)).length) 0,_,rfl,(by omega),(by omega),(by simp),(wfl_replicate _),(by simp [val]),(S.keep [0,1,2,3,4,5,6]).keepB [0] (by decide)⟩ ?_
 clear S
 intro μ a w ⟨k,c,o,G,hm,hk,hc,ho,hw,hv,S⟩
 have hda:=dig_lt (wfl_words x) k
 have hdb:=dig_lt (wfl_words y) k
 refine wp_reg fun K hK=>?_
 refine S.s (OpR.nlss S.ok rfl (S.e 0 rfl) (S.e 1 rfl) MT.self) rfl fun a w G S=>?_
 refine wn hK ?_;clear hK K
 refine wp_seq_k fun K hK=>?_
 refine S.cond 0 rfl (fun hc1=>?_) (fun hc1=>?_)
 ·
  have hp2:=of_decide_eq_true hc1
  refine wp_skip ?_
  refine hK _ _ ?_;clear hK K
  refine wp_seq_k fun K hK=>?_
  refine wp_block ?_
  refine wp_reg fun K hK=>?_
  refine S.m rfl (S.g 1 rfl) rfl fun a w G S=>?_
  refine S.q rfl (S.g 0 rfl) rfl fun a w G S=>?_
  refine wn hK ?_;clear hK K
  replace S:=S.d1
  refine wp_seq_k fun K hK=>?_
  refine S.drawn [⟨17,.g (SN na x),[]⟩,⟨18,.g (NT k),[]⟩,⟨19,.g (PE (none) (MT.ex (nv .u32 (dig (words (x)) (k))))),[0,1]⟩,⟨20,.g (MT.ex (nv .u32 (dig (words (x)) (k)))),[2]⟩,⟨21,.g (MT.ex (nv .u64 (dig (words (x)) (k)))),[3]⟩,⟨22,.g (SN nb y),[]⟩,⟨23,.g (NT k),[]⟩,⟨24,.g (MT.ex (nv .u64 (dig (words (y)) k))),[5,6]⟩,⟨25,.g (MT.ex (nv .u64 (((dig (words (x)) (k)) + 18446744073709551616 - (dig (words (y)) k)) % 18446744073709551616))),[4,7]⟩,⟨26,.g (MT.ex (nv .u64 (c))),[]⟩,⟨27,.g (MT.ex (nv .u64 (((((dig (words (x)) (k)) + 18446744073709551616 - (dig (words (y)) k)) % 18446744073709551616) + 18446744073709551616 - c) % 18446744073709551616))),[8,9]⟩,⟨8,.g (MT.ex (nv .u64 (((((dig (words (x)) (k)) + 18446744073709551616 - (dig (words (y)) k)) % 18446744073709551616) + 18446744073709551616 - c) % 18446744073709551616))),[10]⟩] mixedOrders (by kernel_rfl)
   ⟨fun a w G S=>.of rfl (OpR.mv S.ok rfl (S.g 8 rfl)),
    fun a w G S=>.of rfl (OpR.mv S.ok rfl (S.g 0 rfl)),
    fun a w G S=>.of rfl (OpR.ixL (i:=k) S.ok rfl Tryz.underlying22 tS_141 (SN.toSL (S.g 0 rfl)) (S.e 1 rfl) rfl (dig_get (by first | omega | (simp;omega)))),
    fun a w G S=>.of rfl (OpR.ldE S.ok rfl tS_141 (S.g 0 rfl)),
    fun a w G S=>.of rfl (OpR.nconv S.ok rfl (S.e 0 rfl) it_141 it_147 (wr_u64 (by omega)) MT.self),
    fun a w G S=>.of rfl (OpR.mv S.ok rfl (S.g 7 rfl)),
    fun a w G S=>.of rfl (OpR.mv S.ok rfl (S.g 0 rfl)),
    fun a w G S=>.of rfl (OpR.call2 rfl c_128 (word_ok S.ok (SN.toSL (S.g 0 rfl)) (S.g 1 rfl))),
    fun a w G S=>.of rfl (OpR.nsubw S.ok rfl (S.e 0 rfl) (S.e 1 rfl) (by omega) MT.self),
    fun a w G S=>.of rfl (OpR.mv S.ok rfl (S.g 4 rfl)),
    fun a w G S=>.of rfl (OpR.nsubw S.ok rfl (S.e 0 rfl) (S.e 1 rfl) (by omega) MT.self),
    fun a w G S=>.of rfl (OpR.asn S.ok rfl (S.g 0 rfl)),trivial⟩ fun β a w G S=>?_
  replace S : St W0 G0 38 [(8,MT.ex (nv .u64 (((((dig (words (x)) (k)) + 18446744073709551616 - (dig (words (y)) k)) % 18446744073709551616) + 18446744073709551616 - c) % 18446744073709551616))),(7,NT k),(15,BT (decide (k < ((words (x)).length)))),(14,NT k),(13,NT ((words (x)).length)),(6,MT.ex (nv .u64 (c))),(5,MT.ex (Value.slice (some ⟨b11,0,none⟩) ((words (x)).length) ((words (x)).length))),(4,MT.ex (Value.slice none 0 0)),(1,SN nb y),(0,SN na x)] [⟨b11,141,some ((words (x)).length),MT.ex (Value.agg (ucells (o)).toArray)⟩] a _ _:=S.keep [0,12,13,14,15,16,17,18,19,20]
  refine wn hK ?_;clear hK K
  refine wp_reg fun K hK=>?_
  refine S.m rfl (S.g 6 rfl) rfl fun a w G S=>?_
  refine S.m rfl (S.g 2 rfl) rfl fun a w G S=>?_
  refine S.m rfl (S.g 2 rfl) rfl fun a w G S=>?_
  refine S.s (OpR.nconv32 S.ok rfl (S.e 0 rfl) it_147 it_141 MT.self) rfl fun a w G S=>?_
  refine S.s (τ:=MT.ex (Value.pointer (some ⟨b11,k,none⟩))) (OpR.ixA (i:=k) S.ok rfl Tryz.underlying22 tS_141 (S.e 3 rfl) (S.e 2 rfl) rfl (by first | omega | (simp;omega)) (ptr_eq (by simp only [Option.getD_none] <;> omega))) rfl fun a w G S=>?_
  refine S.setElem 0 (z:=(((((dig (words (x)) (k)) + 18446744073709551616 - (dig (words (y)) k)) % 18446744073709551616) + 18446744073709551616 - c) % 18446744073709551616) % 4294967296) rfl rfl rfl rfl (S.e 0 rfl) tS_141 (S.e 1 rfl) rfl (by first | omega | (simp;omega)) fun w S=>?_
  replace S:=S.n0
  refine wn hK ?_;clear hK K
  replace S:=S.d4.d3.d2.d1.d0
  refine wp_region_lit ?_
  refine S.m rfl (S.g 0 rfl) rfl fun a w G S=>?_
  refine S.s (OpR.nshr S.ok rfl (S.e 0 rfl) (rfl : _ = nv .u64 63) (by decide) MT.self) rfl fun a w G S=>?_
  replace S:=S.d7
  refine S.q rfl (S.g 0 rfl) rfl fun a w G S=>?_
  refine wpList_nil ?_
  replace S:=S.d2.d1
  refine hK _ _ ?_;clear hK K
  refine wp_region_lit ?_
  refine S.s (OpR.nadd S.ok rfl (S.e 4 rfl) (rfl : _ = nv .i64 1) (wr_i64 (by omega)) MT.self) rfl fun a w G S=>?_
  replace S:=S.d5
  refine S.m rfl (S.g 0 rfl) rfl fun a w G S=>?_
  refine wpList_nil ?_
  replace S:=S.d1
  replace S:=S.also (t:=6) (τ:=MT.ex (nv .u64 (((((((dig (words (x)) (k)) + 18446744073709551616 - (dig (words (y)) k)) % 18446744073709551616) + 18446744073709551616 - c) % 18446744073709551616) / 2 ^ 63)))) ((S.e 1 rfl).trans (nv_eq (by first | rfl | omega | (simp only [Nat.zero_add,Nat.add_zero];done) | (simp;done) | (push_cast;omega))))
  replace S:=S.castBox (τ':=MT.ex (Value.agg (ucells ((o.set (k) ((((((dig (words (x)) (k)) + 18446744073709551616 - (dig (words (y)) k)) % 18446744073709551616) + 18446744073709551616 - c) % 18446744073709551616) % 4294967296)))).toArray)) 0 rfl fun _ h _=>Eq.trans h (congrArg (fun l=>Value.agg (ucells l).toArray) (by simp))
  replace S:=S.n0
  exact ⟨(words x).length - (k + 1),(by omega),k + 1,(((((dig (words (x)) (k)) + 18446744073709551616 - (dig (words (y)) k)) % 18446744073709551616) + 18446744073709551616 - c) % 18446744073709551616) / 2 ^ 63,o.set (k) ((((((dig (words (x)) (k)) + 18446744073709551616 - (dig (words (y)) k)) % 18446744073709551616) + 18446744073709551616 - c) % 18446744073709551616) % 4294967296),_,rfl,(by omega),(sub_digit hda hdb hc).2,(by simpa using ho),(hw.set (by omega)),(sub_step (by omega) hda hdb hc hv),(S.keep [1,6,0,7,8,9,10]).keepB [0] (by decide)⟩
 ·
  have hp3:=of_decide_eq_false hc1
  refine wp_exit (then_exit (then_exit (exit_same ?_)))
  clear hK K
  refine hK _ _ ?_;clear hK K
  refine wp_reg fun K hK=>?_
  obtain ⟨vz4,Gz4,hz4,hs4,hg4,hle4,S⟩:=S.freeze 0 rfl
  have hsl4 : (SL (o)).t (Value.slice (some ⟨b11,0,none⟩) ((words (x)).length) ((words (x)).length)) Gz4:=SL_frozen hz4 hg4 ⟨ho.symm,Nat.le_refl _⟩ (by simp only [LIM];omega) (by assumption)
  replace S:=S.also (t:=5) (τ:=SL (o)) ((S.e 4 rfl).symm ▸ hsl4)
  replace S : St W0 G0 38 [(5,SL o),(15,BT (decide (k < ((words (x)).length)))),(14,NT k),(13,NT ((words (x)).length)),(6,MT.ex (nv .u64 (c))),(4,MT.ex (Value.slice none 0 0)),(1,SN nb y),(0,SN na x)] [] a _ _:=S.keep [0,1,2,3,4,6,7,8]
  refine S.m rfl (S.g 0 rfl) rfl fun a w G S=>?_
  refine S.s (τ:=SN na (x - y)) (OpR.call1 rfl c_127 (trim_ok S.ok (SL.asSV (S.g 0 rfl) ⟨sub_fin hle ho hw ‹_› hk hv hc,by omega⟩))) rfl fun a w G S=>?_
  replace S:=S.d7
  refine S.q rfl (S.g 0 rfl) rfl fun a w G S=>?_
  refine wn hK ?_;clear hK K
  replace S:=S.d2.d1
  exact wp_ret (S.retTmp rfl (S.g 0 rfl))
theorem times_ok {na nb x y : Nat} {v1 v2 : Value} {W0 : World} {G0 : Gh} (hok : Gok W0 G0) (h1 : (SN na x).t v1 G0) (h2 : (SN nb y).t v2 G0) (hn : na + nb ≤ BIG) : Calls Tryz.prog 107 #[v1,v2] W0 (Ret W0 G0 (SN (na + nb) (x * y))):=by
 have hla:=words_length_bits (SN.lt h1)
 have hlb:=words_length_bits (SN.lt h2)
 simp only [BIG] at hn
 have hx:=SN.lt h1
 have hy:=SN.lt h2
 refine St.enter (N:=67) (L:=[(1,SN nb y),(0,SN na x)]) (args:=[v1,v2]) Tryz.func107 rfl rfl rfl hok (enter2 h1 h2) fun a S=>?_
 refine wp_reg fun K hK=>?_
 refine S.s (τ:=MT.ex (Value.slice none 0 0)) (OpR.asn S.ok rfl rfl) rfl fun a w G S=>?_
 refine wn hK ?_;clear hK K
 refine wp_reg fun K hK=>?_
 refine S.m rfl (S.g 2 rfl) rfl fun a w G S=>?_
 refine S.s (OpR.lenL S.ok rfl Tryz.underlying22 (SN.toSL (S.g 0 rfl)) MT.self) rfl fun a w G S=>?_
 refine S.m rfl (S.g 3 rfl) rfl fun a w G S=>?_
 refine S.s (OpR.lenL S.ok rfl Tryz.underlying22 (SN.toSL (S.g 0 rfl)) MT.self) rfl fun a w G S=>?_
 refine S.s (OpR.nadd S.ok rfl (S.e 2 rfl) (S.e 0 rfl) (wr_i64 (by omega)) MT.self) rfl fun a w G S=>?_
 refine S.mkSlice (n:=((words (x)).length) + ((words (y)).length)) rfl rfl rfl Tryz.underlying22 el_141 (S.e 0 rfl) (S.e 0 rfl) rfl rfl (by omega) (by omega) rfl rfl fun b16 a w G S=>?_
 refine S.q rfl (S.g 0 rfl) rfl fun a w G S=>?_
 refine wn hK ?_;clear hK K
 replace S:=S.d6.d5.d4.d3.d2.d1
 refine wp_seq_k fun K hK=>?_
 refine wp_reg fun K hK=>?_
 refine S.m rfl (S.g 3 rfl) rfl fun a w G S=>?_
 refine S.s (OpR.lenL S.ok rfl Tryz.underlying22 (SN.toSL (S.g 0 rfl)) MT.self) rfl fun a w G S=>?_
 refine S.s (τ:=NT 0) (OpR.mv S.ok rfl (rfl : _ = nv .i64 0)) rfl fun a w G S=>?_
 refine wn hK ?_;clear hK K
 refine wp_block ?_
 replace S:=S.castBox (τ':=MT.ex (Value.agg (ucells ((List.replicate (((words (x)).length) + ((words (y)).length)) 0))).toArray)) 0 rfl fun _ h _=>Eq.trans h (congrArg (fun l=>Value.agg (ucells l).toArray) (by simp))
 replace S:=S.n0
 refine wp_loopJ (fun μ a w=>∃ (i : Nat) (o : List Nat) (G : Gh),μ = (words x).length - i ∧ (i ≤ (words x).length) ∧ (o.length = (words x).length + (words y).length) ∧ (wfl o) ∧ (val o = val ((words x).take i) * val (words y)) ∧ (∀ j,i + (words y).length ≤ j → dig o j = 0) ∧  St W0 G0 67 [(19,NT i),(18,NT ((words (x)).length)),(17,SN na x),(5,MT.ex (Value.slice (some ⟨b16,0,none⟩) (((words (x)).length) + ((words (y)).length)) (((words (x)).length) + ((words (y)).length)))),(4,MT.ex (Value.slice none 0 0)),(1,SN nb y),(0,SN na x)] [⟨b16,141,some (((words (x)).length) + ((words (y)).length)),MT.ex (Value.agg (ucells (o)).toArray)⟩] a w G) ((words x).length - 0) ⟨0,List.replicate (((words (x)).length) + ((words (y)).length)) 0,_,rfl,(by omega),(by simp),(wfl_replicate _),(by simp [val,val_replicate_zero]),(fun j _=>dig_replicate),(S.keep [0,1,2,3,4,5,6]).keepB [0] (by decide)⟩ ?_
 clear S
 intro μ a w ⟨i,o,G,hm,hi,ho,hw,hv,hz,S⟩
 have hdx:=dig_lt (wfl_words x) i
 refine wp_reg fun K hK=>?_
 refine S.s (OpR.nlss S.ok rfl (S.e 0 rfl) (S.e 1 rfl) MT.self) rfl fun a w G S=>?_
 refine wn hK ?_;clear hK K
 refine wp_seq_k fun K hK=>?_
 refine S.cond 0 rfl (fun hc1=>?_) (fun hc1=>?_)
 ·
  have hp2:=of_decide_eq_true hc1
  refine wp_skip ?_
  refine hK _ _ ?_;clear hK K
  refine wp_seq_k fun K hK=>?_
  refine wp_block ?_
  refine wp_reg fun K hK=>?_
  refine S.m rfl (S.g 1 rfl) rfl fun a w G S=>?_
  refine S.s (τ:=PE (none) (MT.ex (nv .u32 (dig (words (x)) (i))))) (OpR.ixL (i:=i) S.ok rfl Tryz.underlying22 tS_141 (SN.toSL (S.g 4 rfl)) (S.e 2 rfl) rfl (dig_get (by first | omega | (simp;omega)))) rfl fun a w G S=>?_
  refine S.s (OpR.ldE S.ok rfl tS_141 (S.g 0 rfl)) rfl fun a w G S=>?_
  refine S.q rfl (S.g 2 rfl) rfl fun a w G S=>?_
  refine S.q rfl (S.g 1 rfl) rfl fun a w G S=>?_
  refine wn hK ?_;clear hK K
  replace S:=S.d4.d3.d2
  refine wp_reg fun K hK=>?_
  refine S.s (τ:=MT.ex (nv .u64 (0))) (OpR.asn S.ok rfl (rfl : _ = nv .u64 0)) rfl fun a w G S=>?_
  refine wn hK ?_;clear hK K
  refine wp_seq_k fun K hK=>?_
  refine wp_reg fun K hK=>?_
  refine S.m rfl (S.g 9 rfl) rfl fun a w G S=>?_
  refine S.s (OpR.lenL S.ok rfl Tryz.underlying22 (SN.toSL (S.g 0 rfl)) MT.self) rfl fun a w G S=>?_
  refine S.s (τ:=NT 0) (OpR.mv S.ok rfl (rfl : _ = nv .i64 0)) rfl fun a w G S=>?_
  refine wn hK ?_;clear hK K
  refine wp_block ?_
  refine wp_loopJ (fun μ a w=>∃ (k : Nat) (c : Nat) (q : List Nat) (G : Gh),μ = (words y).length - k ∧ (k ≤ (words y).length) ∧ (c < 4294967296) ∧ (q.length = (words x).length + (words y).length) ∧ (wfl q) ∧ (val q + 4294967296 ^ (i + k) * c = val ((words x).take i) * val (words y) + 4294967296 ^ i * dig (words x) i * val ((words y).take k)) ∧ (∀ j,i + (words y).length ≤ j → dig q j = 0) ∧  St W0 G0 67 [(26,NT k),(25,NT ((words (y)).length)),(24,SN nb y),(8,MT.ex (nv .u64 (c))),(7,MT.ex (nv .u32 (dig (words (x)) (i)))),(6,NT i),(20,BT (decide (i < ((words (x)).length)))),(19,NT i),(18,NT ((words (x)).length)),(17,SN na x),(5,MT.ex (Value.slice (some ⟨b16,0,none⟩) (((words (x)).length) + ((words (y)).length)) (((words (x)).length) + ((words (y)).length)))),(4,MT.ex (Value.slice none 0 0)),(1,SN nb y),(0,SN na x)] [⟨b16,141,some (((words (x)).length) + ((words (y)).length)),MT.ex (Value.agg (ucells (q)).toArray)⟩] a w G) ((words y).length - 0) ⟨0,0,o,_,rfl,(by omega),(by omega),ho,hw,(by rw [hv];simp [val]),hz,(S.keep [0,1,2,3,4,5,6,7,8,9,10,11,12,13]).keepB [0] (by decide)⟩ ?_
  clear S
  intro μ a w ⟨k,c,q,G,hm,hk,hc,hq,hwq,hvq,hzq,S⟩
  have hdy:=dig_lt (wfl_words y) k
  have hdq:=dig_lt hwq (i + k)
  have hmb:=mul_bound hdx hdy hc hdq
  have hmb2:=mul_bound' hdx hdy hdq
  refine wp_reg fun K hK=>?_
  refine S.s (OpR.nlss S.ok rfl (S.e 0 rfl) (S.e 1 rfl) MT.self) rfl fun a w G S=>?_
  refine wn hK ?_;clear hK K
  refine wp_seq_k fun K hK=>?_
  refine S.cond 0 rfl (fun hc3=>?_) (fun hc3=>?_)
  ·
   have hp4:=of_decide_eq_true hc3
   refine wp_skip ?_
   refine hK _ _ ?_;clear hK K
   refine wp_seq_k fun K hK=>?_
   refine wp_block ?_
   refine wp_reg fun K hK=>?_
   refine S.m rfl (S.g 1 rfl) rfl fun a w G S=>?_
   refine S.s (τ:=PE (none) (MT.ex (nv .u32 (dig (words (y)) (k))))) (OpR.ixL (i:=k) S.ok rfl Tryz.underlying22 tS_141 (SN.toSL (S.g 4 rfl)) (S.e 2 rfl) rfl (dig_get (by first | omega | (simp;omega)))) rfl fun a w G S=>?_
   refine S.s (OpR.ldE S.ok rfl tS_141 (S.g 0 rfl)) rfl fun a w G S=>?_
   refine S.q rfl (S.g 2 rfl) rfl fun a w G S=>?_
   refine S.q rfl (S.g 1 rfl) rfl fun a w G S=>?_
   refine wn hK ?_;clear hK K
   replace S:=S.d4.d3.d2
   refine wp_reg fun K hK=>?_
   refine S.m rfl (S.g 6 rfl) rfl fun a w G S=>?_
   refine S.m rfl (S.g 8 rfl) rfl fun a w G S=>?_
   refine S.s (OpR.nconv S.ok rfl (S.e 0 rfl) it_141 it_147 (wr_u64 (by omega)) MT.self) rfl fun a w G S=>?_
   refine S.m rfl (S.g 3 rfl) rfl fun a w G S=>?_
   refine S.s (OpR.nconv S.ok rfl (S.e 0 rfl) it_141 it_147 (wr_u64 (by omega)) MT.self) rfl fun a w G S=>?_
   refine S.s (OpR.nmul S.ok rfl (S.e 2 rfl) (S.e 0 rfl) (wr_u64 (by omega)) MT.self) rfl fun a w G S=>?_
   refine S.m rfl (S.g 19 rfl) rfl fun a w G S=>?_
   refine S.m rfl (S.g 15 rfl) rfl fun a w G S=>?_
   refine S.m rfl (S.g 9 rfl) rfl fun a w G S=>?_
   refine S.s (OpR.nadd S.ok rfl (S.e 1 rfl) (S.e 0 rfl) (wr_i64 (by omega)) MT.self) rfl fun a w G S=>?_
   refine S.s (τ:=MT.ex (Value.pointer (some ⟨b16,i + k,none⟩))) (OpR.ixA (i:=i + k) S.ok rfl Tryz.underlying22 tS_141 (S.e 3 rfl) (S.e 0 rfl) rfl (by first | omega | (simp;omega)) (ptr_eq (by simp only [Option.getD_none] <;> omega))) rfl fun a w G S=>?_
   refine S.s (OpR.ldElem S.ok rfl (S.e 0 rfl) (S.box 0 rfl) tS_141 (dig_get (by first | omega | (simp;omega)))) rfl fun a w G S=>?_
   refine S.s (OpR.nconv S.ok rfl (S.e 0 rfl) it_141 it_147 (wr_u64 (by omega)) MT.self) rfl fun a w G S=>?_
   refine S.s (OpR.nadd S.ok rfl (S.e 7 rfl) (S.e 0 rfl) (wr_u64 (by omega)) MT.self) rfl fun a w G S=>?_
   refine S.s (OpR.nadd S.ok rfl (S.e 13 rfl) (S.e 0 rfl) (wr_u64 (by omega)) MT.self) rfl fun a w G S=>?_
   replace S:=S.d21
   refine S.q rfl (S.g 0 rfl) rfl fun a w G S=>?_
   refine wn hK ?_;clear hK K
   replace S:=S.d16.d15.d14.d13.d12.d11.d10.d9.d8.d7.d6.d5.d4.d3.d2.d1
   refine wp_reg fun K hK=>?_
   refine S.m rfl (S.g 12 rfl) rfl fun a w G S=>?_
   refine S.m rfl (S.g 8 rfl) rfl fun a w G S=>?_
   refine S.m rfl (S.g 3 rfl) rfl fun a w G S=>?_
   refine S.s (OpR.nadd S.ok rfl (S.e 1 rfl) (S.e 0 rfl) (wr_i64 (by omega)) MT.self) rfl fun a w G S=>?_
   refine S.m rfl (S.g 4 rfl) rfl fun a w G S=>?_
   refine S.s (OpR.nconv32 S.ok rfl (S.e 0 rfl) it_147 it_141 MT.self) rfl fun a w G S=>?_
   refine S.s (τ:=MT.ex (Value.pointer (some ⟨b16,i + k,none⟩))) (OpR.ixA (i:=i + k) S.ok rfl Tryz.underlying22 tS_141 (S.e 5 rfl) (S.e 2 rfl) rfl (by first | omega | (simp;omega)) (ptr_eq (by simp only [Option.getD_none] <;> omega))) rfl fun a w G S=>?_
   refine S.setElem 0 (z:=(c + (((dig (words (x)) (i)) * (dig (words (y)) (k))) + (dig (q) (i + k)))) % 4294967296) rfl rfl rfl rfl (S.e 0 rfl) tS_141 (S.e 1 rfl) rfl (by first | omega | (simp;omega)) fun w S=>?_
   replace S:=S.n0
   refine wn hK ?_;clear hK K
   replace S:=S.d6.d5.d4.d3.d2.d1.d0
   refine wp_region_lit ?_
   refine S.m rfl (S.g 0 rfl) rfl fun a w G S=>?_
   refine S.s (OpR.nshr S.ok rfl (S.e 0 rfl) (rfl : _ = nv .u64 32) (by decide) MT.self) rfl fun a w G S=>?_
   replace S:=S.d2
   refine S.q rfl (S.g 0 rfl) rfl fun a w G S=>?_
   refine wpList_nil ?_
   replace S:=S.d2.d1
   refine hK _ _ ?_;clear hK K
   refine wp_region_lit ?_
   refine S.s (OpR.nadd S.ok rfl (S.e 3 rfl) (rfl : _ = nv .i64 1) (wr_i64 (by omega)) MT.self) rfl fun a w G S=>?_
   replace S:=S.d4
   refine S.m rfl (S.g 0 rfl) rfl fun a w G S=>?_
   refine wpList_nil ?_
   replace S:=S.d1
   replace S:=S.also (t:=8) (τ:=MT.ex (nv .u64 (((c + (((dig (words (x)) (i)) * (dig (words (y)) (k))) + (dig (q) (i + k)))) / 2 ^ 32)))) ((S.e 1 rfl).trans (nv_eq (by first | rfl | omega | (simp only [Nat.zero_add,Nat.add_zero];done) | (simp;done) | (push_cast;omega))))
   replace S:=S.castBox (τ':=MT.ex (Value.agg (ucells ((q.set (i + k) ((c + (((dig (words (x)) (i)) * (dig (words (y)) (k))) + (dig (q) (i + k)))) % 4294967296)))).toArray)) 0 rfl fun _ h _=>Eq.trans h (congrArg (fun l=>Value.agg (ucells l).toArray) (by simp))
   replace S:=S.n0
   exact ⟨(words y).length - (k + 1),(by omega),k + 1,(c + (((dig (words (x)) (i)) * (dig (words (y)) (k))) + (dig (q) (i + k)))) / 2 ^ 32,q.set (i + k) ((c + (((dig (words (x)) (i)) * (dig (words (y)) (k))) + (dig (q) (i + k)))) % 4294967296),_,rfl,(by omega),(by omega),(by simpa using hq),(hwq.set (by omega)),(mul_step (by omega) hvq),(fun j hj=>by rw [dig_set (by omega),if_neg (by omega)];exact hzq j hj),(S.keep [1,5,6,0,7,8,9,10,11,12,13,14,15,16]).keepB [0] (by decide)⟩
  ·
   have hp5:=of_decide_eq_false hc3
   refine wp_exit (then_exit (then_exit (exit_same ?_)))
   clear hK K
   refine hK _ _ ?_;clear hK K
   refine wp_region_lit ?_
   refine S.m rfl (S.g 11 rfl) rfl fun a w G S=>?_
   refine S.m rfl (S.g 7 rfl) rfl fun a w G S=>?_
   refine S.m rfl (S.g 15 rfl) rfl fun a w G S=>?_
   refine S.s (OpR.lenL S.ok rfl Tryz.underlying22 (SN.toSL (S.g 0 rfl)) MT.self) rfl fun a w G S=>?_
   refine S.s (OpR.nadd S.ok rfl (S.e 2 rfl) (S.e 0 rfl) (wr_i64 (by omega)) MT.self) rfl fun a w G S=>?_
   refine S.m rfl (S.g 9 rfl) rfl fun a w G S=>?_
   refine S.s (OpR.nconv32 S.ok rfl (S.e 0 rfl) it_147 it_141 MT.self) rfl fun a w G S=>?_
   refine S.s (τ:=MT.ex (Value.pointer (some ⟨b16,i + ((words (y)).length),none⟩))) (OpR.ixA (i:=i + ((words (y)).length)) S.ok rfl Tryz.underlying22 tS_141 (S.e 6 rfl) (S.e 2 rfl) rfl (by first | omega | (simp;omega)) (ptr_eq (by simp only [Option.getD_none] <;> omega))) rfl fun a w G S=>?_
   refine S.setElem 0 (z:=c % 4294967296) rfl rfl rfl rfl (S.e 0 rfl) tS_141 (S.e 1 rfl) rfl (by first | omega | (simp;omega)) fun w S=>?_
   replace S:=S.n0
   refine wpList_nil ?_
   replace S:=S.d7.d6.d5.d4.d3.d2.d1.d0
   refine hK _ _ ?_;clear hK K
   refine wp_region_lit ?_
   refine S.s (OpR.nadd S.ok rfl (S.e 8 rfl) (rfl : _ = nv .i64 1) (wr_i64 (by omega)) MT.self) rfl fun a w G S=>?_
   replace S:=S.d9
   refine S.m rfl (S.g 0 rfl) rfl fun a w G S=>?_
   refine wpList_nil ?_
   replace S:=S.d1
   replace S:=S.castBox (τ':=MT.ex (Value.agg (ucells ((q.set (i + ((words (y)).length)) (c % 4294967296)))).toArray)) 0 rfl fun _ h _=>Eq.trans h (congrArg (fun l=>Value.agg (ucells l).toArray) (by simp))
   replace S:=S.n0
   exact ⟨(words x).length - (i + 1),(by omega),i + 1,q.set (i + ((words (y)).length)) (c % 4294967296),_,rfl,(by omega),(by simpa using hq),(hwq.set (by omega)),(mul_row' ‹_› hk hc (by omega) (hzq _ (by omega)) hvq),(fun j hj=>by rw [dig_set (by omega),if_neg (by omega)];exact hzq j (by omega)),(S.keep [0,9,10,11,12,13,14]).keepB [0] (by decide)⟩
 ·
  have hp6:=of_decide_eq_false hc1
  refine wp_exit (then_exit (then_exit (exit_same ?_)))
  clear hK K
  refine hK _ _ ?_;clear hK K
  refine wp_reg fun K hK=>?_
  obtain ⟨vz7,Gz7,hz7,hs7,hg7,hle7,S⟩:=S.freeze 0 rfl
  have hsl7 : (SL (o)).t (Value.slice (some ⟨b16,0,none⟩) (((words (x)).length) + ((words (y)).length)) (((words (x)).length) + ((words (y)).length))) Gz7:=SL_frozen hz7 hg7 ⟨ho.symm,Nat.le_refl _⟩ (by simp only [LIM];omega) (by assumption)
  replace S:=S.also (t:=5) (τ:=SL (o)) ((S.e 4 rfl).symm ▸ hsl7)
  replace S : St W0 G0 67 [(5,SL o),(20,BT (decide (i < ((words (x)).length)))),(19,NT i),(18,NT ((words (x)).length)),(17,SN na x),(4,MT.ex (Value.slice none 0 0)),(1,SN nb y),(0,SN na x)] [] a _ _:=S.keep [0,1,2,3,4,6,7,8]
  refine S.m rfl (S.g 0 rfl) rfl fun a w G S=>?_
  refine S.s (τ:=SN (na + nb) (x * y)) (OpR.call1 rfl c_127 (trim_ok S.ok (SL.asSV (S.g 0 rfl) ⟨times_fin ‹_› hi hv,mul_lt_pow hx hy⟩))) rfl fun a w G S=>?_
  replace S:=S.d7
  refine S.q rfl (S.g 0 rfl) rfl fun a w G S=>?_
  refine wn hK ?_;clear hK K
  replace S:=S.d2.d1
  exact wp_ret (S.retTmp rfl (S.g 0 rfl))
theorem short_ok {na x d : Nat} {v1 v2 : Value} {W0 : World} {G0 : Gh} (hok : Gok W0 G0) (h1 : (SN na x).t v1 G0) (h2 : (MT.ex (nv .u32 (d))).t v2 G0) (hd : 0 < d) (hd2 : d < 4294967296) : Calls Tryz.prog 131 #[v1,v2] W0 (Ret W0 G0 (MT.tup2 (SN na (x / d)) (MT.ex (nv .u32 (x % d))))):=by
 have hlim:=SL.lim (SN.toSL h1)
 have hx:=SN.lt h1
 simp only [LIM] at hlim
 refine St.enter (N:=43) (L:=[(1,MT.ex (nv .u32 (d))),(0,SN na x)]) (args:=[v1,v2]) Tryz.func131 rfl rfl rfl hok (enter2 h1 h2) fun a S=>?_
 refine wp_reg fun K hK=>?_
 refine S.s (τ:=MT.ex (Value.slice none 0 0)) (OpR.asn S.ok rfl rfl) rfl fun a w G S=>?_
 refine S.s (τ:=MT.ex (nv .u32 (0))) (OpR.asn S.ok rfl (rfl : _ = nv .u32 0)) rfl fun a w G S=>?_
 refine wn hK ?_;clear hK K
 refine wp_reg fun K hK=>?_
 refine S.m rfl (S.g 3 rfl) rfl fun a w G S=>?_
 refine S.s (OpR.lenL S.ok rfl Tryz.underlying22 (SN.toSL (S.g 0 rfl)) MT.self) rfl fun a w G S=>?_
 refine S.mkSlice (n:=(words (x)).length) rfl rfl rfl Tryz.underlying22 el_141 (S.e 0 rfl) (S.e 0 rfl) rfl rfl (by omega) (by omega) rfl rfl fun b11 a w G S=>?_
 refine S.q rfl (S.g 0 rfl) rfl fun a w G S=>?_
 refine wn hK ?_;clear hK K
 replace S:=S.d3.d2.d1
 refine wp_reg fun K hK=>?_
 refine S.s (τ:=MT.ex (nv .u64 (0))) (OpR.asn S.ok rfl (rfl : _ = nv .u64 0)) rfl fun a w G S=>?_
 refine wn hK ?_;clear hK K
 refine wp_seq_k fun K hK=>?_
 refine wp_reg fun K hK=>?_
 refine S.m rfl (S.g 5 rfl) rfl fun a w G S=>?_
 refine S.s (OpR.lenL S.ok rfl Tryz.underlying22 (SN.toSL (S.g 0 rfl)) MT.self) rfl fun a w G S=>?_
 refine S.s (τ:=IT ((((words (x)).length : Nat) : Int) - ((1 : Nat) : Int))) (OpR.isub S.ok rfl (S.e 0 rfl) (rfl : _ = nv .i64 1) (iw_i64 (by omega) (by omega))) rfl fun a w G S=>?_
 refine S.q rfl (S.g 0 rfl) rfl fun a w G S=>?_
 refine wn hK ?_;clear hK K
 replace S:=S.d3.d2.d1
 refine wp_block ?_
 replace S:=S.also (t:=8) (τ:=IT (((((words x).length) : Nat) : Int) - ((1 : Nat) : Int))) ((S.e 0 rfl).trans (iv_eq (by first | rfl | omega | (simp only [Nat.zero_add,Nat.add_zero];done) | (simp;done) | (push_cast;omega))))
 replace S:=S.castBox (τ':=MT.ex (Value.agg (ucells ((List.replicate ((words (x)).length) 0))).toArray)) 0 rfl fun _ h _=>Eq.trans h (congrArg (fun l=>Value.agg (ucells l).toArray) (by simp))
 replace S:=S.n0
 refine wp_loopJ (fun μ a w=>∃ (k : Nat) (c : Nat) (q : List Nat) (G : Gh),μ = k ∧ (k ≤ (words x).length) ∧ (c < d) ∧ (q.length = (words x).length) ∧ (wfl q) ∧ (val (q.drop k) * d + c = val ((words x).drop k)) ∧  St W0 G0 43 [(8,IT (((k : Nat) : Int) - ((1 : Nat) : Int))),(7,MT.ex (nv .u64 (c))),(6,MT.ex (Value.slice (some ⟨b11,0,none⟩) ((words (x)).length) ((words (x)).length))),(5,MT.ex (nv .u32 (0))),(4,MT.ex (Value.slice none 0 0)),(1,MT.ex (nv .u32 (d))),(0,SN na x)] [⟨b11,141,some ((words (x)).length),MT.ex (Value.agg (ucells (q)).toArray)⟩] a w G) (((words x).length)) ⟨(words x).length,0,List.replicate ((words (x)).length) 0,_,rfl,(Nat.le_refl _),(by omega),(by simp),(wfl_replicate _),(by rw [List.drop_of_length_le (by simp),List.drop_of_length_le (Nat.le_refl _)];simp [val]),(S.keep [0,2,3,4,5,6,7]).keepB [0] (by decide)⟩ ?_
 clear S
 intro μ a w ⟨k,c,q,G,hm,hk,hc,hq,hw,hv,S⟩
 have hdx:=dig_lt (wfl_words x) (k - 1)
 refine wp_seq_k fun K hK=>?_
 refine wp_reg fun K hK=>?_
 refine S.m rfl (S.g 0 rfl) rfl fun a w G S=>?_
 refine S.s (OpR.igeq S.ok rfl (S.e 0 rfl) (rfl : _ = nv .i64 0) MT.self) rfl fun a w G S=>?_
 refine wn hK ?_;clear hK K
 replace S:=S.d1
 refine S.cond 0 rfl (fun hc1=>?_) (fun hc1=>?_)
 ·
  have hp2:=of_decide_eq_true hc1
  refine wp_skip ?_
  refine hK _ _ ?_;clear hK K
  refine wp_seq_k fun K hK=>?_
  refine wp_block ?_
  refine wp_reg fun K hK=>?_
  refine S.m rfl (S.g 2 rfl) rfl fun a w G S=>?_
  refine S.s (OpR.nshl S.ok rfl (S.e 0 rfl) (rfl : _ = nv .u64 32) (by decide) (wr_u64 (by omega)) MT.self) rfl fun a w G S=>?_
  refine S.m rfl (S.g 9 rfl) rfl fun a w G S=>?_
  refine S.m rfl (S.g 4 rfl) rfl fun a w G S=>?_
  refine S.s (τ:=PE (none) (MT.ex (nv .u32 (dig (words (x)) (k - 1))))) (OpR.ixL (i:=k - 1) S.ok rfl Tryz.underlying22 tS_141 (SN.toSL (S.g 1 rfl)) (S.e 0 rfl) (by omega) (dig_get (by first | omega | (simp;omega)))) rfl fun a w G S=>?_
  refine S.s (OpR.ldE S.ok rfl tS_141 (S.g 0 rfl)) rfl fun a w G S=>?_
  refine S.s (OpR.nconv S.ok rfl (S.e 0 rfl) it_141 it_147 (wr_u64 (by omega)) MT.self) rfl fun a w G S=>?_
  refine S.s (τ:=MT.ex (nv .u64 (c * 4294967296 + dig (words x) (k - 1)))) (OpR.nor S.ok rfl (S.e 5 rfl) (S.e 0 rfl) (by omega) (by omega) (nv_eq (shl_or hdx))) rfl fun a w G S=>?_
  replace S:=S.d10
  refine S.q rfl (S.g 0 rfl) rfl fun a w G S=>?_
  refine wn hK ?_;clear hK K
  replace S:=S.d8.d7.d6.d5.d4.d3.d2.d1
  refine wp_reg fun K hK=>?_
  refine S.m rfl (S.g 3 rfl) rfl fun a w G S=>?_
  refine S.m rfl (S.g 3 rfl) rfl fun a w G S=>?_
  refine S.m rfl (S.g 2 rfl) rfl fun a w G S=>?_
  refine S.m rfl (S.g 9 rfl) rfl fun a w G S=>?_
  refine S.s (OpR.nconv S.ok rfl (S.e 0 rfl) it_141 it_147 (wr_u64 (by omega)) MT.self) rfl fun a w G S=>?_
  refine S.s (OpR.nquo S.ok rfl (S.e 2 rfl) (S.e 0 rfl) (by omega) (wr_u64 (Nat.lt_of_le_of_lt (Nat.div_le_self _ _) (by omega))) MT.self) rfl fun a w G S=>?_
  refine S.s (OpR.nconv32 S.ok rfl (S.e 0 rfl) it_147 it_141 MT.self) rfl fun a w G S=>?_
  refine S.s (τ:=MT.ex (Value.pointer (some ⟨b11,k - 1,none⟩))) (OpR.ixA (i:=k - 1) S.ok rfl Tryz.underlying22 tS_141 (S.e 6 rfl) (S.e 5 rfl) (by omega) (by first | omega | (simp;omega)) (ptr_eq (by simp only [Option.getD_none] <;> omega))) rfl fun a w G S=>?_
  refine S.setElem 0 (z:=((c * 4294967296 + dig (words x) (k - 1)) / d) % 4294967296) rfl rfl rfl rfl (S.e 0 rfl) tS_141 (S.e 1 rfl) rfl (by first | omega | (simp;omega)) fun w S=>?_
  replace S:=S.n0
  refine wn hK ?_;clear hK K
  replace S:=S.d7.d6.d5.d4.d3.d2.d1.d0
  refine wp_region_lit ?_
  refine S.m rfl (S.g 0 rfl) rfl fun a w G S=>?_
  refine S.m rfl (S.g 7 rfl) rfl fun a w G S=>?_
  refine S.s (OpR.nconv S.ok rfl (S.e 0 rfl) it_141 it_147 (wr_u64 (by omega)) MT.self) rfl fun a w G S=>?_
  refine S.s (OpR.nrem S.ok rfl (S.e 2 rfl) (S.e 0 rfl) (by omega) MT.self) rfl fun a w G S=>?_
  replace S:=S.d4
  refine S.q rfl (S.g 0 rfl) rfl fun a w G S=>?_
  refine wpList_nil ?_
  replace S:=S.d4.d3.d2.d1
  refine hK _ _ ?_;clear hK K
  refine wp_region_lit ?_
  refine S.m rfl (S.g 2 rfl) rfl fun a w G S=>?_
  refine S.s (τ:=IT ((((k : Nat) : Int) - ((1 : Nat) : Int)) - 1)) (OpR.isub S.ok rfl (S.e 0 rfl) (rfl : _ = nv .i64 1) (iw_i64 (by omega) (by omega))) rfl fun a w G S=>?_
  replace S:=S.d4
  refine S.q rfl (S.g 0 rfl) rfl fun a w G S=>?_
  refine wpList_nil ?_
  replace S:=S.d2.d1
  replace S:=S.also (t:=8) (τ:=IT ((((k - 1) : Nat) : Int) - ((1 : Nat) : Int))) ((S.e 0 rfl).trans (iv_eq (by first | rfl | omega | (simp only [Nat.zero_add,Nat.add_zero];done) | (simp;done) | (push_cast;omega))))
  replace S:=S.also (t:=7) (τ:=MT.ex (nv .u64 (((c * 4294967296 + dig (words x) (k - 1)) % d)))) ((S.e 2 rfl).trans (nv_eq (by first | rfl | omega | (simp only [Nat.zero_add,Nat.add_zero];done) | (simp;done) | (push_cast;omega))))
  replace S:=S.castBox (τ':=MT.ex (Value.agg (ucells ((q.set (k - 1) (((c * 4294967296 + dig (words x) (k - 1)) / d) % 4294967296)))).toArray)) 0 rfl fun _ h _=>Eq.trans h (congrArg (fun l=>Value.agg (ucells l).toArray) (by simp))
  replace S:=S.n0
  exact ⟨(k - 1),(by omega),(k - 1),(c * 4294967296 + dig (words x) (k - 1)) % d,q.set (k - 1) (((c * 4294967296 + dig (words x) (k - 1)) / d) % 4294967296),_,rfl,(by omega),(Nat.mod_lt _ hd),(by simpa using hq),(hw.set (Nat.mod_lt _ (by omega))),(short_step (by omega) (by omega) hd hc hd2 hdx hv).1,(S.keep [1,0,5,6,7,8,9]).keepB [0] (by decide)⟩
 ·
  have hp3:=of_decide_eq_false hc1
  refine wp_exit (then_exit (then_exit (exit_same ?_)))
  clear hK K
  refine hK _ _ ?_;clear hK K
  refine wp_reg fun K hK=>?_
  obtain ⟨vz4,Gz4,hz4,hs4,hg4,hle4,S⟩:=S.freeze 0 rfl
  have hsl4 : (SL (q)).t (Value.slice (some ⟨b11,0,none⟩) ((words (x)).length) ((words (x)).length)) Gz4:=SL_frozen hz4 hg4 ⟨hq.symm,Nat.le_refl _⟩ (by simp only [LIM];omega) (by assumption)
  replace S:=S.also (t:=6) (τ:=SL (q)) ((S.e 3 rfl).symm ▸ hsl4)
  replace S : St W0 G0 43 [(6,SL q),(16,BT (decide ((((k : Nat) : Int) - ((1 : Nat) : Int)) ≥ 0))),(8,IT (((k : Nat) : Int) - ((1 : Nat) : Int))),(7,MT.ex (nv .u64 (c))),(5,MT.ex (nv .u32 (0))),(4,MT.ex (Value.slice none 0 0)),(1,MT.ex (nv .u32 (d))),(0,SN na x)] [] a _ _:=S.keep [0,1,2,3,5,6,7,8]
  refine S.m rfl (S.g 0 rfl) rfl fun a w G S=>?_
  refine S.s (τ:=SN na (x / d)) (OpR.call1 rfl c_127 (trim_ok S.ok (SL.asSV (S.g 0 rfl) ⟨(short_fin (by omega) hc hv).1,div_lt_pow hx⟩))) rfl fun a w G S=>?_
  refine S.m rfl (S.g 5 rfl) rfl fun a w G S=>?_
  refine S.s (OpR.nconv32 S.ok rfl (S.e 0 rfl) it_147 it_141 MT.self) rfl fun a w G S=>?_
  replace S:=S.d9
  refine S.q rfl (S.g 2 rfl) rfl fun a w G S=>?_
  replace S:=S.d9
  refine S.q rfl (S.g 1 rfl) rfl fun a w G S=>?_
  refine wn hK ?_;clear hK K
  replace S:=S.d5.d4.d3.d2
  exact wp_ret (S.retTmp2 rfl (S.g 1 rfl) ((S.e 0 rfl).trans (nv_eq (by rw [Nat.mod_eq_of_lt (by omega)];exact (short_fin (by omega) hc hv).2))))
end Go.Proofs.YtpbkcbnghhodiaaGreat
namespace Go.Proofs.YtpbkcbnghhodiaaGreat
open Go.RowKit (Below)
section
variable {P : Program} {o : Oper} {a : Act} {w : World} {G : Gh} {τ : MT} {x y : Operand} {t t' : TypeId} {m n : Nat}
theorem bv_or32 {m n : Nat} (hm : m < 4294967296) (hn : n < 4294967296) : Value.int .u32 (IntKind.u32.wrap ((BitVec.ofInt IntKind.u32.bits (m : Int) ||| BitVec.ofInt IntKind.u32.bits (n : Int)).toNat : Int)) = nv .u32 (m ||| n):=by
  have h1 : (BitVec.ofInt 32 (m : Int)).toNat = m:=by simp;omega
  have h2 : (BitVec.ofInt 32 (n : Int)).toNat = n:=by simp;omega
  show Value.int .u32 (IntKind.u32.wrap ((BitVec.ofInt 32 (m : Int) ||| BitVec.ofInt 32 (n : Int)).toNat : Int)) = _
  rw [BitVec.toNat_or,h1,h2]
  have : m ||| n < 2 ^ 32:=Nat.or_lt_two_pow (by omega) (by omega)
  rw [IntWalk.u32_in _ (by omega)]
theorem OpR.nor32 (hok : Gok w G) (ho : o.op = .binOp .or t x y t') (hx : a.eval x = nv .u32 m) (hy : a.eval y = nv .u32 n) (hm : m < 4294967296) (hn : n < 4294967296) (h : τ.t (nv .u32 (m ||| n)) G) : OpR P o a w G τ :=
  .bits hok ho hx hy (.inr ⟨rfl,by have:=bv_or32 hm hn;rw [this];exact h⟩)
end
theorem pow_le_32 {s : Nat} (hs : s < 32) : 2 ^ s ≤ 2147483648:=by
  have : 2 ^ s ≤ 2 ^ 31:=Nat.pow_le_pow_right (by omega) (by omega)
  omega
theorem pow_split {s : Nat} (hs : s < 32) : 2 ^ s * 2 ^ (32 - s) = 4294967296:=by
  rw [← Nat.pow_add,show s + (32 - s) = 32 from by omega]
theorem shl_bound {x s : Nat} (hx : x < 4294967296) (hs : s < 32) : x * 2 ^ s < 18446744073709551616:=by
  have h:=pow_le_32 hs
  have : x * 2 ^ s ≤ 4294967295 * 2147483648:=Nat.mul_le_mul (by omega) h
  omega
theorem up_or {d x s : Nat} (hd : d < 2 ^ s) (hs : s < 32) : d ||| x * 2 ^ s % 4294967296 = d + x * 2 ^ s % 4294967296:=by
  have e : x * 2 ^ s % 4294967296 = (x % 2 ^ (32 - s)) * 2 ^ s:=by
    rw [← pow_split hs,Nat.mul_comm (2 ^ s) (2 ^ (32 - s)),Nat.mul_mod_mul_right]
  rw [e,Nat.or_comm,or_shift hd,Nat.add_comm]
theorem up_step {q lx : List Nat} {k s : Nat} (hk : k + 1 < q.length) (hs : s < 32) (hd : dig q k < 2 ^ s) (hx : dig lx k < 4294967296) (h : val (q.take k) + 4294967296 ^ k * dig q k = val (lx.take k) * 2 ^ s) :
    val (((q.set k (dig q k + dig lx k * 2 ^ s % 4294967296)).set (k + 1) (dig lx k * 2 ^ s / 2 ^ 32 % 4294967296)).take (k + 1)) + 4294967296 ^ (k + 1) * dig ((q.set k (dig q k + dig lx k * 2 ^ s % 4294967296)).set (k + 1) (dig lx k * 2 ^ s / 2 ^ 32 % 4294967296)) (k + 1) = val (lx.take (k + 1)) * 2 ^ s ∧
    dig ((q.set k (dig q k + dig lx k * 2 ^ s % 4294967296)).set (k + 1) (dig lx k * 2 ^ s / 2 ^ 32 % 4294967296)) (k + 1) < 2 ^ s ∧ dig q k + dig lx k * 2 ^ s % 4294967296 < 4294967296:=by
  have hp:=pow_split hs
  have hb : dig lx k * 2 ^ s / 2 ^ 32 < 2 ^ s:=by
    rw [Nat.div_lt_iff_lt_mul (by decide),Nat.mul_comm (2 ^ s)]
    exact Nat.mul_lt_mul_of_pos_right (by omega) (Nat.pow_pos (by omega))
  have hb2 : dig lx k * 2 ^ s / 2 ^ 32 % 4294967296 = dig lx k * 2 ^ s / 2 ^ 32:=Nat.mod_eq_of_lt (by have:=pow_le_32 hs;omega)
  have hlow : dig lx k * 2 ^ s % 4294967296 ≤ 4294967296 - 2 ^ s:=by
    have e : dig lx k * 2 ^ s % 4294967296 = (dig lx k % 2 ^ (32 - s)) * 2 ^ s:=by
      rw [← pow_split hs,Nat.mul_comm (2 ^ s) (2 ^ (32 - s)),Nat.mul_mod_mul_right]
    have h1 : dig lx k % 2 ^ (32 - s) + 1 ≤ 2 ^ (32 - s):=Nat.mod_lt _ (Nat.pow_pos (by omega))
    have h2:=Nat.mul_le_mul_right (2 ^ s) h1
    rw [Nat.add_mul,Nat.one_mul,Nat.mul_comm (2 ^ (32 - s)),hp] at h2
    omega
  have ht : ((q.set k (dig q k + dig lx k * 2 ^ s % 4294967296)).set (k + 1) (dig lx k * 2 ^ s / 2 ^ 32 % 4294967296)).take (k + 1) = (q.set k (dig q k + dig lx k * 2 ^ s % 4294967296)).take (k + 1):=by
    rw [List.take_set_of_le (Nat.le_refl _)]
  rw [ht,val_take_set (by omega),dig_set (by simpa using hk),if_pos rfl,hb2,val_take_dig]
  have hps:=pow_le_32 hs
  refine ⟨?_,hb,by have:=Nat.pow_pos (n:=s) (show 0 < 2 by decide);omega⟩
  have e : dig lx k * 2 ^ s % 4294967296 + 4294967296 * (dig lx k * 2 ^ s / 2 ^ 32) = dig lx k * 2 ^ s:=by omega
  generalize dig lx k * 2 ^ s % 4294967296 = r at *
  generalize dig lx k * 2 ^ s / 2 ^ 32 = u at *
  rw [Nat.pow_succ,Nat.add_mul,← h,Nat.mul_assoc (4294967296 ^ k) (dig lx k),← e]
  simp only [Nat.mul_add,Nat.mul_assoc]
  omega
theorem up_fin {q lx : List Nat} {k s : Nat} (hk : ¬ k < lx.length) (hk' : k ≤ lx.length) (hq : q.length = lx.length + 1) (h : val (q.take k) + 4294967296 ^ k * dig q k = val (lx.take k) * 2 ^ s) : val q = val lx * 2 ^ s:=by
  have e : k = lx.length:=by omega
  subst e
  have h1:=val_take_dig q lx.length
  rw [List.take_of_length_le (by omega)] at h1
  rw [h1,h,List.take_length]
theorem down_or {d e : Nat} (hd : d < 4294967296) : d ||| e * 2 ^ 32 = d + e * 4294967296:=by
  rw [Nat.or_comm,or_shift (by omega)];omega
theorem down_digit {l : List Nat} {k s : Nat} (hs : s < 32) (h0 : dig l k < 4294967296) : val (l.drop k) / 2 ^ s = (dig l k + dig l (k + 1) * 4294967296) / 2 ^ s % 4294967296 + 4294967296 * (val (l.drop (k + 1)) / 2 ^ s):=by
  have h1:=val_drop_dig l k;have h2:=val_drop_dig l (k + 1)
  have hp:=pow_split hs
  have hpos : 0 < 2 ^ s:=Nat.pow_pos (by omega)
  generalize hR : val (l.drop (k + 1 + 1)) = R at *
  generalize val (l.drop (k + 1)) = V1 at *
  generalize val (l.drop k) = V at *
  generalize dig l k = a at *
  generalize dig l (k + 1) = b at *
  have e1 : V / 2 ^ s % 4294967296 = (a + b * 4294967296) / 2 ^ s % 4294967296:=by
    have : V = (a + b * 4294967296) + 2 ^ s * (2 ^ (32 - s) * 4294967296 * R):=by
      rw [h1,h2,← Nat.mul_assoc,← Nat.mul_assoc,hp,Nat.mul_add,Nat.mul_assoc];omega
    rw [this,Nat.add_mul_div_left _ _ hpos,Nat.mul_comm (2 ^ (32 - s)) 4294967296,Nat.mul_assoc,Nat.add_mul_mod_self_left]
  have e2 : V / 2 ^ s / 4294967296 = V1 / 2 ^ s:=by
    rw [Nat.div_div_eq_div_mul,Nat.mul_comm,← Nat.div_div_eq_div_mul]
    congr 1;omega
  have:=Nat.div_add_mod (V / 2 ^ s) 4294967296
  rw [e1,e2] at this
  omega
theorem down_step {q l : List Nat} {k s : Nat} (hk : k < q.length) (hs : s < 32) (h0 : dig l k < 4294967296) (h : val (q.take k) + 4294967296 ^ k * (val (l.drop k) / 2 ^ s) = val l / 2 ^ s) :
    val ((q.set k ((dig l k + dig l (k + 1) * 4294967296) / 2 ^ s % 4294967296)).take (k + 1)) + 4294967296 ^ (k + 1) * (val (l.drop (k + 1)) / 2 ^ s) = val l / 2 ^ s:=by
  rw [val_take_set hk,← h,down_digit hs h0,Nat.pow_succ,Nat.mul_add,Nat.mul_assoc]
  omega
theorem down_fin {q l : List Nat} {k s : Nat} (hk : ¬ k < l.length) (hk' : k ≤ l.length) (hq : q.length = l.length) (h : val (q.take k) + 4294967296 ^ k * (val (l.drop k) / 2 ^ s) = val l / 2 ^ s) : val q = val l / 2 ^ s:=by
  have e : k = l.length:=by omega
  subst e
  rw [List.take_of_length_le (by omega),List.drop_length] at h
  simpa [val] using h
theorem dig_drop {l : List Nat} {i k : Nat} : dig (l.drop i) k = dig l (i + k):=by unfold dig;simp
theorem drop_set_seg {l : List Nat} {i k x : Nat} : (l.set (i + k) x).drop i = (l.drop i).set k x:=by
  rw [List.drop_set,if_neg (by omega)];congr 1;omega
theorem seg_take_set {l : List Nat} {i k x : Nat} (hk : i + k < l.length) : val (((l.set (i + k) x).drop i).take (k + 1)) = val ((l.drop i).take k) + 4294967296 ^ k * x:=by
  rw [drop_set_seg,val_take_set (by simp;omega)]
theorem seg_take_dig {l : List Nat} {i k : Nat} : val ((l.drop i).take (k + 1)) = val ((l.drop i).take k) + 4294967296 ^ k * dig l (i + k):=by
  rw [val_take_dig,dig_drop]
theorem take_set_far {l : List Nat} {i j x : Nat} (h : i ≤ j) : (l.set j x).take i = l.take i:=List.take_set_of_le h
theorem drop_set_far {l : List Nat} {i j x : Nat} (h : j < i) : (l.set j x).drop i = l.drop i:=by
  rw [List.drop_set,if_pos h]
theorem drop_eq_succ {l m : List Nat} {i : Nat} (h : l.drop i = m.drop i) : l.drop (i + 1) = m.drop (i + 1):=by
  have:=congrArg (fun l=>l.drop 1) h
  simpa [List.drop_drop] using this
theorem dig_of_drop {l m : List Nat} {i : Nat} (h : l.drop i = m.drop i) : dig l i = dig m i:=by
  have:=congrArg (fun l=>dig l 0) h
  simpa [dig_drop] using this
theorem rem_step {l us vs : List Nat} {off k C c q : Nat} (hk : off + k < l.length) (hdu : dig us (off + k) < 4294967296) (hc : c ≤ 1) (he : dig l (off + k) = dig us (off + k))
    (h : val ((l.drop off).take k) + q * val (vs.take k) = val ((us.drop off).take k) + 4294967296 ^ k * (C + c)) :
    val (((l.set (off + k) (((dig l (off + k) + 18446744073709551616 - (C + q * dig vs k) % 4294967296) % 18446744073709551616 + 18446744073709551616 - c) % 18446744073709551616 % 4294967296)).drop off).take (k + 1)) + q * val (vs.take (k + 1)) =
      val ((us.drop off).take (k + 1)) + 4294967296 ^ (k + 1) * ((C + q * dig vs k) / 2 ^ 32 + ((dig l (off + k) + 18446744073709551616 - (C + q * dig vs k) % 4294967296) % 18446744073709551616 + 18446744073709551616 - c) % 18446744073709551616 / 2 ^ 63):=by
  rw [seg_take_set hk,seg_take_dig,val_take_dig,he]
  have e1:=(sub_digit (da:=dig us (off + k)) (db:=(C + q * dig vs k) % 4294967296) (c:=c) hdu (Nat.mod_lt _ (by decide)) hc).1
  have e2 : (C + q * dig vs k) % 4294967296 + 4294967296 * ((C + q * dig vs k) / 2 ^ 32) = C + q * dig vs k:=by omega
  generalize ((dig us (off + k) + 18446744073709551616 - (C + q * dig vs k) % 4294967296) % 18446744073709551616 + 18446744073709551616 - c) % 18446744073709551616 % 4294967296 = r at *
  generalize ((dig us (off + k) + 18446744073709551616 - (C + q * dig vs k) % 4294967296) % 18446744073709551616 + 18446744073709551616 - c) % 18446744073709551616 / 2 ^ 63 = s at *
  generalize (C + q * dig vs k) / 2 ^ 32 = t at *
  generalize (C + q * dig vs k) % 4294967296 = z at *
  have e3 : q * (val (vs.take k) + 4294967296 ^ k * dig vs k) = q * val (vs.take k) + 4294967296 ^ k * (q * dig vs k):=by
    rw [Nat.mul_add];congr 1;simp [Nat.mul_left_comm]
  rw [e3,Nat.pow_succ]
  generalize 4294967296 ^ k = B at *
  have h1 : B * (r + z + c) = B * (dig us (off + k) + 4294967296 * s):=by rw [e1]
  have h2 : B * (z + 4294967296 * t) = B * (C + q * dig vs k):=by rw [e2]
  rw [Nat.mul_assoc]
  simp only [Nat.mul_add] at *
  omega
theorem back_step {l us vs : List Nat} {off k c : Nat} (hk : off + k < l.length) (he : dig l (off + k) = dig us (off + k))
    (h : val ((l.drop off).take k) + 4294967296 ^ k * c = val ((us.drop off).take k) + val (vs.take k)) :
    val (((l.set (off + k) ((c + (dig l (off + k) + dig vs k)) % 4294967296)).drop off).take (k + 1)) + 4294967296 ^ (k + 1) * ((c + (dig l (off + k) + dig vs k)) / 2 ^ 32) = val ((us.drop off).take (k + 1)) + val (vs.take (k + 1)):=by
  rw [seg_take_set hk,seg_take_dig,val_take_dig,he]
  have e : (c + (dig us (off + k) + dig vs k)) % 4294967296 + 4294967296 * ((c + (dig us (off + k) + dig vs k)) / 2 ^ 32) = c + (dig us (off + k) + dig vs k):=by omega
  generalize (c + (dig us (off + k) + dig vs k)) % 4294967296 = r at *
  generalize (c + (dig us (off + k) + dig vs k)) / 2 ^ 32 = s at *
  rw [Nat.pow_succ]
  generalize 4294967296 ^ k = B at *
  have h2 : B * (r + 4294967296 * s) = B * (c + (dig us (off + k) + dig vs k)):=by rw [e]
  rw [Nat.mul_assoc]
  simp only [Nat.mul_add] at *
  omega
theorem carry_bound {C q d : Nat} (hC : C < 4294967296) (hq : q < 4294967296) (hd : d < 4294967296) : C + q * d < 18446744073709551616 ∧ (C + q * d) / 2 ^ 32 < 4294967296:=by
  have : q * d ≤ 4294967295 * 4294967295:=Nat.mul_le_mul (by omega) (by omega)
  omega
end Go.Proofs.YtpbkcbnghhodiaaGreat
namespace Go.Proofs.YtpbkcbnghhodiaaGreat
set_option maxHeartbeats 1000000
set_option maxRecDepth 100000
open Go.RowKit (Below)
theorem up_ok {na x s : Nat} {v1 v2 : Value} {W0 : World} {G0 : Gh} (hok : Gok W0 G0) (h1 : (SN na x).t v1 G0) (h2 : (NT s).t v2 G0) (hs : s < 32) : Calls Tryz.prog 133 #[v1,v2] W0 (RetB W0 G0 (mkS ((words x).length + 1)) 141 (some ((words x).length + 1)) (ARR ((words x).length + 1) (fun l=>wfl l ∧ val l = x * 2 ^ s))):=by
 have hlim:=SL.lim (SN.toSL h1)
 simp only [LIM] at hlim
 refine St.enter (N:=41) (L:=[(1,NT s),(0,SN na x)]) (args:=[v1,v2]) Tryz.func133 rfl rfl rfl hok (enter2 h1 h2) fun a S=>?_
 refine wp_reg fun K hK=>?_
 refine S.s (τ:=MT.ex (Value.slice none 0 0)) (OpR.asn S.ok rfl rfl) rfl fun a w G S=>?_
 refine wn hK ?_;clear hK K
 refine wp_reg fun K hK=>?_
 refine S.m rfl (S.g 2 rfl) rfl fun a w G S=>?_
 refine S.s (OpR.lenL S.ok rfl Tryz.underlying22 (SN.toSL (S.g 0 rfl)) MT.self) rfl fun a w G S=>?_
 refine S.s (OpR.nadd S.ok rfl (S.e 0 rfl) (rfl : _ = nv .i64 1) (wr_i64 (by omega)) MT.self) rfl fun a w G S=>?_
 refine S.mkSlice (n:=((words (x)).length) + 1) rfl rfl rfl Tryz.underlying22 el_141 (S.e 0 rfl) (S.e 0 rfl) rfl rfl (by omega) (by omega) rfl rfl fun b12 a w G S=>?_
 refine S.q rfl (S.g 0 rfl) rfl fun a w G S=>?_
 refine wn hK ?_;clear hK K
 replace S:=S.d4.d3.d2.d1
 refine wp_seq_k fun K hK=>?_
 refine wp_reg fun K hK=>?_
 refine S.m rfl (S.g 3 rfl) rfl fun a w G S=>?_
 refine S.s (OpR.lenL S.ok rfl Tryz.underlying22 (SN.toSL (S.g 0 rfl)) MT.self) rfl fun a w G S=>?_
 refine S.s (τ:=NT 0) (OpR.mv S.ok rfl (rfl : _ = nv .i64 0)) rfl fun a w G S=>?_
 refine wn hK ?_;clear hK K
 refine wp_block ?_
 replace S:=S.castBox (τ':=MT.ex (Value.agg (ucells ((List.replicate (((words (x)).length) + 1) 0))).toArray)) 0 rfl fun _ h _=>Eq.trans h (congrArg (fun l=>Value.agg (ucells l).toArray) (by simp))
 replace S:=S.n0
 refine wp_loopJ (fun μ a w=>∃ (k : Nat) (q : List Nat) (G : Gh),μ = (words x).length - k ∧ (k ≤ (words x).length) ∧ (q.length = (words x).length + 1) ∧ (wfl q) ∧ (dig q k < 2 ^ s) ∧ (val (q.take k) + 4294967296 ^ k * dig q k = val ((words x).take k) * 2 ^ s) ∧  St W0 G0 41 [(15,NT k),(14,NT ((words (x)).length)),(13,SN na x),(5,MT.ex (Value.slice (some ⟨b12,0,none⟩) (((words (x)).length) + 1) (((words (x)).length) + 1))),(4,MT.ex (Value.slice none 0 0)),(1,NT s),(0,SN na x)] [⟨b12,141,some (((words (x)).length) + 1),MT.ex (Value.agg (ucells (q)).toArray)⟩] a w G) ((words x).length - 0) ⟨0,List.replicate (((words (x)).length) + 1) 0,_,rfl,(by omega),(by simp),(wfl_replicate _),(by rw [dig_replicate];exact Nat.pow_pos (by omega)),(by rw [dig_replicate];simp [val]),(S.keep [0,1,2,3,4,5,6]).keepB [0] (by decide)⟩ ?_
 clear S
 intro μ a w ⟨k,q,G,hm,hk,hq,hw,hd,hv,S⟩
 have hdx:=dig_lt (wfl_words x) k
 have hdq:=dig_lt hw k
 have hus:=fun hk=>up_step (q:=q) (lx:=words x) (k:=k) hk hs hd hdx hv
 refine wp_reg fun K hK=>?_
 refine S.s (OpR.nlss S.ok rfl (S.e 0 rfl) (S.e 1 rfl) MT.self) rfl fun a w G S=>?_
 refine wn hK ?_;clear hK K
 refine wp_seq_k fun K hK=>?_
 refine S.cond 0 rfl (fun hc1=>?_) (fun hc1=>?_)
 ·
  have hp2:=of_decide_eq_true hc1
  refine wp_skip ?_
  refine hK _ _ ?_;clear hK K
  refine wp_seq_k fun K hK=>?_
  refine wp_block ?_
  refine wp_reg fun K hK=>?_
  refine S.m rfl (S.g 1 rfl) rfl fun a w G S=>?_
  refine S.s (τ:=PE (none) (MT.ex (nv .u32 (dig (words (x)) (k))))) (OpR.ixL (i:=k) S.ok rfl Tryz.underlying22 tS_141 (SN.toSL (S.g 4 rfl)) (S.e 2 rfl) rfl (dig_get (by first | omega | (simp;omega)))) rfl fun a w G S=>?_
  refine S.s (OpR.ldE S.ok rfl tS_141 (S.g 0 rfl)) rfl fun a w G S=>?_
  refine S.q rfl (S.g 2 rfl) rfl fun a w G S=>?_
  refine S.q rfl (S.g 1 rfl) rfl fun a w G S=>?_
  refine wn hK ?_;clear hK K
  replace S:=S.d4.d3.d2
  refine wp_reg fun K hK=>?_
  refine S.m rfl (S.g 0 rfl) rfl fun a w G S=>?_
  refine S.s (OpR.nconv S.ok rfl (S.e 0 rfl) it_141 it_147 (wr_u64 (by omega)) MT.self) rfl fun a w G S=>?_
  refine S.m rfl (S.g 10 rfl) rfl fun a w G S=>?_
  refine S.s (OpR.nshl S.ok rfl (S.e 1 rfl) (S.e 0 rfl) (by simp only [IntKind.bits];omega) (wr_u64 (shl_bound hdx hs)) MT.self) rfl fun a w G S=>?_
  refine S.q rfl (S.g 0 rfl) rfl fun a w G S=>?_
  refine wn hK ?_;clear hK K
  replace S:=S.d5.d4.d3.d2.d1
  refine wp_reg fun K hK=>?_
  refine S.m rfl (S.g 6 rfl) rfl fun a w G S=>?_
  refine S.m rfl (S.g 2 rfl) rfl fun a w G S=>?_
  refine S.s (τ:=MT.ex (Value.pointer (some ⟨b12,k,none⟩))) (OpR.ixA (i:=k) S.ok rfl Tryz.underlying22 tS_141 (S.e 1 rfl) (S.e 0 rfl) rfl (by first | omega | (simp;omega)) (ptr_eq (by simp only [Option.getD_none] <;> omega))) rfl fun a w G S=>?_
  refine S.s (OpR.ldElem S.ok rfl (S.e 0 rfl) (S.box 0 rfl) tS_141 (dig_get (by first | omega | (simp;omega)))) rfl fun a w G S=>?_
  refine S.m rfl (S.g 4 rfl) rfl fun a w G S=>?_
  refine S.s (OpR.nconv32 S.ok rfl (S.e 0 rfl) it_147 it_141 MT.self) rfl fun a w G S=>?_
  refine S.s (τ:=MT.ex (nv .u32 (dig q k + dig (words x) k * 2 ^ s % 4294967296))) (OpR.nor32 S.ok rfl (S.e 2 rfl) (S.e 0 rfl) (by omega) (Nat.mod_lt _ (by decide)) (nv_eq (up_or hd hs))) rfl fun a w G S=>?_
  refine S.s (τ:=MT.ex (Value.pointer (some ⟨b12,k,none⟩))) (OpR.ixA (i:=k) S.ok rfl Tryz.underlying22 tS_141 (S.e 6 rfl) (S.e 5 rfl) rfl (by first | omega | (simp;omega)) (ptr_eq (by simp only [Option.getD_none] <;> omega))) rfl fun a w G S=>?_
  refine S.setElem 0 (z:=dig q k + dig (words x) k * 2 ^ s % 4294967296) rfl rfl rfl rfl (S.e 0 rfl) tS_141 (S.e 1 rfl) rfl (by first | omega | (simp;omega)) fun w S=>?_
  replace S:=S.n0
  refine wn hK ?_;clear hK K
  replace S:=S.d7.d6.d5.d4.d3.d2.d1.d0
  refine wp_region_lit ?_
  refine S.m rfl (S.g 6 rfl) rfl fun a w G S=>?_
  refine S.m rfl (S.g 2 rfl) rfl fun a w G S=>?_
  refine S.s (OpR.nadd S.ok rfl (S.e 0 rfl) (rfl : _ = nv .i64 1) (wr_i64 (by omega)) MT.self) rfl fun a w G S=>?_
  refine S.m rfl (S.g 3 rfl) rfl fun a w G S=>?_
  refine S.s (OpR.nshr S.ok rfl (S.e 0 rfl) (rfl : _ = nv .u64 32) (by decide) MT.self) rfl fun a w G S=>?_
  refine S.s (OpR.nconv32 S.ok rfl (S.e 0 rfl) it_147 it_141 MT.self) rfl fun a w G S=>?_
  refine S.s (τ:=MT.ex (Value.pointer (some ⟨b12,k + 1,none⟩))) (OpR.ixA (i:=k + 1) S.ok rfl Tryz.underlying22 tS_141 (S.e 5 rfl) (S.e 3 rfl) rfl (by first | omega | (simp;omega)) (ptr_eq (by simp only [Option.getD_none] <;> omega))) rfl fun a w G S=>?_
  refine S.setElem 0 (z:=(((dig (words (x)) (k)) * 2 ^ s) / 2 ^ 32) % 4294967296) rfl rfl rfl rfl (S.e 0 rfl) tS_141 (S.e 1 rfl) rfl (by first | omega | (simp;omega)) fun w S=>?_
  replace S:=S.n0
  refine wpList_nil ?_
  replace S:=S.d6.d5.d4.d3.d2.d1.d0
  refine hK _ _ ?_;clear hK K
  refine wp_region_lit ?_
  refine S.s (OpR.nadd S.ok rfl (S.e 3 rfl) (rfl : _ = nv .i64 1) (wr_i64 (by omega)) MT.self) rfl fun a w G S=>?_
  replace S:=S.d4
  refine S.m rfl (S.g 0 rfl) rfl fun a w G S=>?_
  refine wpList_nil ?_
  replace S:=S.d1
  replace S:=S.castBox (τ':=MT.ex (Value.agg (ucells (((q.set (k) (dig q k + dig (words x) k * 2 ^ s % 4294967296)).set (k + 1) ((((dig (words (x)) (k)) * 2 ^ s) / 2 ^ 32) % 4294967296)))).toArray)) 0 rfl fun _ h _=>Eq.trans h (congrArg (fun l=>Value.agg (ucells l).toArray) (by simp))
  replace S:=S.n0
  exact ⟨(words x).length - (k + 1),(by omega),k + 1,(q.set (k) (dig q k + dig (words x) k * 2 ^ s % 4294967296)).set (k + 1) ((((dig (words (x)) (k)) * 2 ^ s) / 2 ^ 32) % 4294967296),_,rfl,(by omega),(by simpa using hq),((hw.set (hus (by omega)).2.2).set (Nat.mod_lt _ (by decide))),(hus (by omega)).2.1,(hus (by omega)).1,(S.keep [0,4,5,6,7,8,9]).keepB [0] (by decide)⟩
 ·
  have hp3:=of_decide_eq_false hc1
  refine wp_exit (then_exit (then_exit (exit_same ?_)))
  clear hK K
  refine hK _ _ ?_;clear hK K
  refine wp_reg fun K hK=>?_
  refine S.m rfl (S.g 4 rfl) rfl fun a w G S=>?_
  replace S:=S.d6
  refine S.q rfl (S.g 0 rfl) rfl fun a w G S=>?_
  refine wn hK ?_;clear hK K
  replace S:=S.d1
  exact wp_ret (S.retArr 0 rfl (S.e 0 rfl) rfl hq ⟨hw,(up_fin ‹_› hk hq hv).trans (by rw [val_words])⟩)
theorem down_ok {na x s : Nat} {v1 v2 : Value} {W0 : World} {G0 : Gh} (hok : Gok W0 G0) (h1 : (SV na x).t v1 G0) (h2 : (NT s).t v2 G0) (hs : s < 32) : Calls Tryz.prog 136 #[v1,v2] W0 (Ret W0 G0 (SN na (x / 2 ^ s))):=by
 obtain ⟨hlt,l,hl,h1⟩:=h1
 have hlim:=SL.lim h1
 have hwf:=SL.wf h1
 simp only [LIM] at hlim
 refine St.enter (N:=35) (L:=[(1,NT s),(0,SL l)]) (args:=[v1,v2]) Tryz.func136 rfl rfl rfl hok (enter2 h1 h2) fun a S=>?_
 refine wp_reg fun K hK=>?_
 refine S.s (τ:=MT.ex (Value.slice none 0 0)) (OpR.asn S.ok rfl rfl) rfl fun a w G S=>?_
 refine wn hK ?_;clear hK K
 refine wp_reg fun K hK=>?_
 refine S.m rfl (S.g 2 rfl) rfl fun a w G S=>?_
 refine S.s (OpR.lenL S.ok rfl Tryz.underlying22 (S.g 0 rfl) MT.self) rfl fun a w G S=>?_
 refine S.mkSlice (n:=l.length) rfl rfl rfl Tryz.underlying22 el_141 (S.e 0 rfl) (S.e 0 rfl) rfl rfl (by omega) (by omega) rfl rfl fun b9 a w G S=>?_
 refine S.q rfl (S.g 0 rfl) rfl fun a w G S=>?_
 refine wn hK ?_;clear hK K
 replace S:=S.d3.d2.d1
 refine wp_seq_k fun K hK=>?_
 refine wp_reg fun K hK=>?_
 refine S.m rfl (S.g 3 rfl) rfl fun a w G S=>?_
 refine S.s (OpR.lenL S.ok rfl Tryz.underlying22 (S.g 0 rfl) MT.self) rfl fun a w G S=>?_
 refine S.s (τ:=NT 0) (OpR.mv S.ok rfl (rfl : _ = nv .i64 0)) rfl fun a w G S=>?_
 refine wn hK ?_;clear hK K
 replace S:=S.d2
 refine wp_block ?_
 replace S:=S.castBox (τ':=MT.ex (Value.agg (ucells ((List.replicate (l.length) 0))).toArray)) 0 rfl fun _ h _=>Eq.trans h (congrArg (fun l=>Value.agg (ucells l).toArray) (by simp))
 replace S:=S.n0
 refine wp_loopJ (fun μ a w=>∃ (k : Nat) (q : List Nat) (G : Gh),μ = l.length - k ∧ (k ≤ l.length) ∧ (q.length = l.length) ∧ (wfl q) ∧ (val (q.take k) + 4294967296 ^ k * (val (l.drop k) / 2 ^ s) = val l / 2 ^ s) ∧  St W0 G0 35 [(12,NT k),(11,NT l.length),(5,MT.ex (Value.slice (some ⟨b9,0,none⟩) (l.length) (l.length))),(4,MT.ex (Value.slice none 0 0)),(1,NT s),(0,SL l)] [⟨b9,141,some (l.length),MT.ex (Value.agg (ucells (q)).toArray)⟩] a w G) (l.length - 0) ⟨0,List.replicate (l.length) 0,_,rfl,(by omega),(by simp),(wfl_replicate _),(by simp [val]),(S.keep [0,1,2,3,4,5]).keepB [0] (by decide)⟩ ?_
 clear S
 intro μ a w ⟨k,q,G,hm,hk,hq,hw,hv,S⟩
 have hd0:=dig_lt hwf k
 have hd1:=dig_lt hwf (k + 1)
 refine wp_reg fun K hK=>?_
 refine S.s (OpR.nlss S.ok rfl (S.e 0 rfl) (S.e 1 rfl) MT.self) rfl fun a w G S=>?_
 refine wn hK ?_;clear hK K
 refine wp_seq_k fun K hK=>?_
 refine S.cond 0 rfl (fun hc1=>?_) (fun hc1=>?_)
 ·
  have hp2:=of_decide_eq_true hc1
  refine wp_skip ?_
  refine hK _ _ ?_;clear hK K
  refine wp_seq_k fun K hK=>?_
  refine wp_block ?_
  refine wp_reg fun K hK=>?_
  refine S.m rfl (S.g 1 rfl) rfl fun a w G S=>?_
  refine S.q rfl (S.g 0 rfl) rfl fun a w G S=>?_
  refine wn hK ?_;clear hK K
  replace S:=S.d1
  refine S.drawn [⟨15,.g (MT.ex (Value.slice (some ⟨b9,0,none⟩) (l.length) (l.length))),[]⟩,⟨16,.g (NT k),[]⟩,⟨17,.g (SL l),[]⟩,⟨18,.g (NT k),[]⟩,⟨19,.g (PE (none) (MT.ex (nv .u32 (dig (l) (k))))),[2,3]⟩,⟨20,.g (MT.ex (nv .u32 (dig (l) (k)))),[4]⟩,⟨21,.g (MT.ex (nv .u64 (dig (l) (k)))),[5]⟩,⟨22,.g (SL l),[]⟩,⟨23,.g (NT k),[]⟩,⟨24,.g (NT (k + 1)),[8]⟩,⟨25,.g (MT.ex (nv .u64 (dig l (k + 1)))),[7,9]⟩,⟨26,.g (MT.ex (nv .u64 ((dig l (k + 1)) * 2 ^ 32))),[10]⟩,⟨27,.g (MT.ex (nv .u64 (dig l k + dig l (k + 1) * 4294967296))),[6,11]⟩,⟨28,.g (NT s),[]⟩,⟨29,.g (MT.ex (nv .u64 ((dig l k + dig l (k + 1) * 4294967296) / 2 ^ s))),[12,13]⟩,⟨30,.g (MT.ex (nv .u32 (((dig l k + dig l (k + 1) * 4294967296) / 2 ^ s) % 4294967296))),[14]⟩,⟨31,.g (MT.ex (Value.pointer (some ⟨b9,k,none⟩))),[0,1]⟩] mixedOrders (by kernel_rfl)
   ⟨fun a w G S=>.of rfl (OpR.mv S.ok rfl (S.g 4 rfl)),
    fun a w G S=>.of rfl (OpR.mv S.ok rfl (S.g 0 rfl)),
    fun a w G S=>.of rfl (OpR.mv S.ok rfl (S.g 7 rfl)),
    fun a w G S=>.of rfl (OpR.mv S.ok rfl (S.g 0 rfl)),
    fun a w G S=>.of rfl (OpR.ixL (i:=k) S.ok rfl Tryz.underlying22 tS_141 (S.g 0 rfl) (S.e 1 rfl) rfl (dig_get (by first | omega | (simp;omega)))),
    fun a w G S=>.of rfl (OpR.ldE S.ok rfl tS_141 (S.g 0 rfl)),
    fun a w G S=>.of rfl (OpR.nconv S.ok rfl (S.e 0 rfl) it_141 it_147 (wr_u64 (by omega)) MT.self),
    fun a w G S=>.of rfl (OpR.mv S.ok rfl (S.g 7 rfl)),
    fun a w G S=>.of rfl (OpR.mv S.ok rfl (S.g 0 rfl)),
    fun a w G S=>.of rfl (OpR.nadd S.ok rfl (S.e 0 rfl) (rfl : _ = nv .i64 1) (wr_i64 (by omega)) MT.self),
    fun a w G S=>.of rfl (OpR.call2 rfl c_128 (word_ok S.ok (S.g 0 rfl) (S.g 1 rfl))),
    fun a w G S=>.of rfl (OpR.nshl S.ok rfl (S.e 0 rfl) (rfl : _ = nv .u64 32) (by decide) (wr_u64 (by omega)) MT.self),
    fun a w G S=>.of rfl (OpR.nor S.ok rfl (S.e 0 rfl) (S.e 1 rfl) (by omega) (by omega) (nv_eq (down_or hd0))),
    fun a w G S=>.of rfl (OpR.mv S.ok rfl (S.g 6 rfl)),
    fun a w G S=>.of rfl (OpR.nshr S.ok rfl (S.e 0 rfl) (S.e 1 rfl) (by simp only [IntKind.bits];omega) MT.self),
    fun a w G S=>.of rfl (OpR.nconv32 S.ok rfl (S.e 0 rfl) it_147 it_141 MT.self),
    fun a w G S=>.of rfl (OpR.ixA (i:=k) S.ok rfl Tryz.underlying22 tS_141 (S.e 0 rfl) (S.e 1 rfl) rfl (by first | omega | (simp;omega)) (ptr_eq (by simp only [Option.getD_none] <;> omega))),trivial⟩ fun β a w G S=>?_
  replace S : St W0 G0 35 [(31,MT.ex (Value.pointer (some ⟨b9,k,none⟩))),(30,MT.ex (nv .u32 (((dig l k + dig l (k + 1) * 4294967296) / 2 ^ s) % 4294967296))),(13,BT (decide (k < l.length))),(12,NT k),(11,NT l.length),(5,MT.ex (Value.slice (some ⟨b9,0,none⟩) (l.length) (l.length))),(4,MT.ex (Value.slice none 0 0)),(1,NT s),(0,SL l)] [⟨b9,141,some (l.length),MT.ex (Value.agg (ucells (q)).toArray)⟩] a _ _:=S.keep [0,1,18,19,20,21,22,23,24]
  refine S.setElem 0 (z:=((dig l k + dig l (k + 1) * 4294967296) / 2 ^ s) % 4294967296) rfl rfl rfl rfl (S.e 0 rfl) tS_141 (S.e 1 rfl) rfl (by first | omega | (simp;omega)) fun w S=>?_
  replace S:=S.n0
  refine wpList_nil ?_
  replace S:=S.d1.d0
  refine hK _ _ ?_;clear hK K
  refine wp_region_lit ?_
  refine S.s (OpR.nadd S.ok rfl (S.e 1 rfl) (rfl : _ = nv .i64 1) (wr_i64 (by omega)) MT.self) rfl fun a w G S=>?_
  replace S:=S.d2
  refine S.m rfl (S.g 0 rfl) rfl fun a w G S=>?_
  refine wpList_nil ?_
  replace S:=S.d1
  replace S:=S.castBox (τ':=MT.ex (Value.agg (ucells ((q.set (k) (((dig l k + dig l (k + 1) * 4294967296) / 2 ^ s) % 4294967296)))).toArray)) 0 rfl fun _ h _=>Eq.trans h (congrArg (fun l=>Value.agg (ucells l).toArray) (by simp))
  replace S:=S.n0
  exact ⟨l.length - (k + 1),(by omega),k + 1,q.set (k) (((dig l k + dig l (k + 1) * 4294967296) / 2 ^ s) % 4294967296),_,rfl,(by omega),(by simpa using hq),(hw.set (Nat.mod_lt _ (by decide))),(down_step (by omega) hs hd0 hv),(S.keep [0,2,3,4,5,6]).keepB [0] (by decide)⟩
 ·
  have hp3:=of_decide_eq_false hc1
  refine wp_exit (then_exit (then_exit (exit_same ?_)))
  clear hK K
  refine hK _ _ ?_;clear hK K
  refine wp_reg fun K hK=>?_
  obtain ⟨vz4,Gz4,hz4,hs4,hg4,hle4,S⟩:=S.freeze 0 rfl
  have hsl4 : (SL (q)).t (Value.slice (some ⟨b9,0,none⟩) (l.length) (l.length)) Gz4:=SL_frozen hz4 hg4 ⟨hq.symm,Nat.le_refl _⟩ (by simp only [LIM];omega) (by assumption)
  replace S:=S.also (t:=5) (τ:=SL (q)) ((S.e 3 rfl).symm ▸ hsl4)
  replace S : St W0 G0 35 [(5,SL q),(13,BT (decide (k < l.length))),(12,NT k),(11,NT l.length),(4,MT.ex (Value.slice none 0 0)),(1,NT s),(0,SL l)] [] a _ _:=S.keep [0,1,2,3,5,6,7]
  refine S.m rfl (S.g 0 rfl) rfl fun a w G S=>?_
  refine S.s (τ:=SN na (x / 2 ^ s)) (OpR.call1 rfl c_127 (trim_ok S.ok (SL.asSV (S.g 0 rfl) ⟨(down_fin ‹_› hk hq hv).trans (by rw [hl]),div_lt_pow hlt⟩))) rfl fun a w G S=>?_
  replace S:=S.d6
  refine S.q rfl (S.g 0 rfl) rfl fun a w G S=>?_
  refine wn hK ?_;clear hK K
  replace S:=S.d2.d1
  exact wp_ret (S.retTmp rfl (S.g 0 rfl))
theorem remove_ok {nu off len cap q : Nat} {us vs : List Nat} {v1 v2 v3 : Value} {ws : World} {Gs : Gh} {W0 : World} {G0 : Gh} {bu : Nat} {Br : List BX} (S0 : St W0 G0 0 [] (⟨bu,141,some (nu),MT.ex (Value.agg (ucells us).toArray)⟩ :: Br) ⟨#[],[]⟩ ws Gs) (h1 : (MT.ex (Value.slice (some ⟨bu,off,none⟩) (len) (cap))).t v1 Gs) (h2 : (SL vs).t v2 Gs) (h3 : (MT.ex (nv .u64 (q))).t v3 Gs) (hq : q < 4294967296) (husl : us.length = nu) (husw : wfl us) (hol : off + len ≤ nu) (hnu : nu ≤ LIM) : Calls Tryz.prog 134 #[v1,v2,v3] ws (RetM W0 G0 Gs (⟨bu,141,some (nu),MT.ex (Value.agg (ucells us).toArray)⟩ :: Br) 0 bu 141 (nu) (fun v l=>wfl l ∧ l.take off = us.take off ∧ l.drop (off + len) = us.drop (off + len) ∧ ∃ C c,c ≤ 1 ∧ v = .bool (decide (c = 1)) ∧ val ((l.drop off).take len) + q * val (vs.take len) = val ((us.drop off).take len) + 4294967296 ^ len * (C + c) ∧ (vs.length < len → C = 0))):=by
 have hwf:=SL.wf h2
 simp only [LIM] at hnu
 refine St.enterM (N:=46) (L:=[(2,MT.ex (nv .u64 (q))),(1,SL vs),(0,MT.ex (Value.slice (some ⟨bu,off,none⟩) (len) (cap)))]) (args:=[v1,v2,v3]) S0 Tryz.func134 rfl rfl rfl (enter3 h1 h2 h3) fun a S=>?_
 replace S:=S.also (t:=9999) (τ:=GLE Gs) (Gle.refl Gs)
 refine wp_reg fun K hK=>?_
 refine S.s (τ:=BT false) (OpR.asn S.ok rfl rfl) rfl fun a w G S=>?_
 refine wn hK ?_;clear hK K
 refine wp_reg fun K hK=>?_
 refine S.s (τ:=MT.ex (nv .u64 (0))) (OpR.asn S.ok rfl (rfl : _ = nv .u64 0)) rfl fun a w G S=>?_
 refine S.s (τ:=MT.ex (nv .u64 (0))) (OpR.asn S.ok rfl (rfl : _ = nv .u64 0)) rfl fun a w G S=>?_
 refine wn hK ?_;clear hK K
 refine wp_seq_k fun K hK=>?_
 refine wp_reg fun K hK=>?_
 refine S.m rfl (S.g 6 rfl) rfl fun a w G S=>?_
 refine S.s (OpR.lenA S.ok rfl Tryz.underlying22 (S.e 0 rfl) MT.self) rfl fun a w G S=>?_
 refine S.s (τ:=NT 0) (OpR.mv S.ok rfl (rfl : _ = nv .i64 0)) rfl fun a w G S=>?_
 refine wn hK ?_;clear hK K
 replace S:=S.d2
 refine wp_block ?_
 refine wp_loopJ (fun μ a w=>∃ (k : Nat) (C : Nat) (c : Nat) (l : List Nat) (G : Gh),μ = len - k ∧ (k ≤ len) ∧ (C < 4294967296) ∧ (c ≤ 1) ∧ (l.length = nu) ∧ (wfl l) ∧ (l.take off = us.take off) ∧ (l.drop (off + k) = us.drop (off + k)) ∧ (val ((l.drop off).take k) + q * val (vs.take k) = val ((us.drop off).take k) + 4294967296 ^ k * (C + c)) ∧ (vs.length < k → C = 0) ∧  St W0 G0 46 [(13,NT k),(12,NT len),(8,MT.ex (nv .u64 (c))),(7,MT.ex (nv .u64 (C))),(6,BT false),(9999,GLE Gs),(2,MT.ex (nv .u64 (q))),(1,SL vs),(0,MT.ex (Value.slice (some ⟨bu,off,none⟩) (len) (cap)))] (⟨bu,141,some (nu),MT.ex (Value.agg (ucells (l)).toArray)⟩ :: Br) a w G) (len - 0) ⟨0,0,0,us,_,rfl,(by omega),(by omega),(by omega),husl,husw,rfl,rfl,(by simp [val]),(fun h=>by omega),S.keep [0,1,2,3,4,5,6,7,8]⟩ ?_
 clear S
 intro μ a w ⟨k,C,c,l,G,hm,hk,hC,hc,hl,hw,hA,hB,hv,hz,S⟩
 have hdv:=dig_lt hwf k
 have hdl:=dig_lt hw (off + k)
 have hcb:=carry_bound hC hq hdv
 have hdu:=dig_lt husw (off + k)
 refine wp_reg fun K hK=>?_
 refine S.s (OpR.nlss S.ok rfl (S.e 0 rfl) (S.e 1 rfl) MT.self) rfl fun a w G S=>?_
 refine wn hK ?_;clear hK K
 refine wp_seq_k fun K hK=>?_
 refine S.cond 0 rfl (fun hc1=>?_) (fun hc1=>?_)
 ·
  have hp2:=of_decide_eq_true hc1
  refine wp_skip ?_
  refine hK _ _ ?_;clear hK K
  refine wp_seq_k fun K hK=>?_
  refine wp_block ?_
  refine wp_reg fun K hK=>?_
  refine S.m rfl (S.g 1 rfl) rfl fun a w G S=>?_
  refine S.q rfl (S.g 0 rfl) rfl fun a w G S=>?_
  refine wn hK ?_;clear hK K
  replace S:=S.d1
  refine wp_reg fun K hK=>?_
  refine S.m rfl (S.g 5 rfl) rfl fun a w G S=>?_
  refine S.m rfl (S.g 9 rfl) rfl fun a w G S=>?_
  refine S.m rfl (S.g 11 rfl) rfl fun a w G S=>?_
  refine S.m rfl (S.g 3 rfl) rfl fun a w G S=>?_
  refine S.s (τ:=MT.ex (nv .u64 (dig vs k))) (OpR.call2 rfl c_128 (word_ok S.ok (S.g 1 rfl) (S.g 0 rfl))) rfl fun a w G S=>?_
  refine S.s (OpR.nmul S.ok rfl (S.e 3 rfl) (S.e 0 rfl) (wr_u64 (by have:=hcb.1;omega)) MT.self) rfl fun a w G S=>?_
  refine S.s (OpR.nadd S.ok rfl (S.e 5 rfl) (S.e 0 rfl) (wr_u64 hcb.1) MT.self) rfl fun a w G S=>?_
  replace S:=S.d12
  refine S.q rfl (S.g 0 rfl) rfl fun a w G S=>?_
  refine wn hK ?_;clear hK K
  replace S:=S.d7.d6.d5.d4.d3.d2.d1
  refine wp_reg fun K hK=>?_
  refine S.m rfl (S.g 10 rfl) rfl fun a w G S=>?_
  refine S.m rfl (S.g 2 rfl) rfl fun a w G S=>?_
  refine S.s (τ:=MT.ex (Value.pointer (some ⟨bu,off + k,none⟩))) (OpR.ixA (i:=k) S.ok rfl Tryz.underlying22 tS_141 (S.e 1 rfl) (S.e 0 rfl) rfl (by first | omega | (simp;omega)) (ptr_eq (by simp only [Option.getD_none] <;> omega))) rfl fun a w G S=>?_
  refine S.s (OpR.ldElem S.ok rfl (S.e 0 rfl) (S.box 0 rfl) tS_141 (dig_get (by first | omega | (simp;omega)))) rfl fun a w G S=>?_
  refine S.s (OpR.nconv S.ok rfl (S.e 0 rfl) it_141 it_147 (wr_u64 (by omega)) MT.self) rfl fun a w G S=>?_
  refine S.m rfl (S.g 5 rfl) rfl fun a w G S=>?_
  refine S.s (OpR.nconv32 S.ok rfl (S.e 0 rfl) it_147 it_141 MT.self) rfl fun a w G S=>?_
  refine S.s (OpR.nconv S.ok rfl (S.e 0 rfl) it_141 it_147 (wr_u64 (by omega)) MT.self) rfl fun a w G S=>?_
  refine S.s (OpR.nsubw S.ok rfl (S.e 3 rfl) (S.e 0 rfl) (by omega) MT.self) rfl fun a w G S=>?_
  refine S.m rfl (S.g 14 rfl) rfl fun a w G S=>?_
  refine S.s (OpR.nsubw S.ok rfl (S.e 1 rfl) (S.e 0 rfl) (by omega) MT.self) rfl fun a w G S=>?_
  refine S.q rfl (S.g 0 rfl) rfl fun a w G S=>?_
  refine wn hK ?_;clear hK K
  replace S:=S.d11.d10.d9.d8.d7.d6.d5.d4.d3.d2.d1
  refine wp_reg fun K hK=>?_
  refine S.m rfl (S.g 11 rfl) rfl fun a w G S=>?_
  refine S.m rfl (S.g 3 rfl) rfl fun a w G S=>?_
  refine S.m rfl (S.g 2 rfl) rfl fun a w G S=>?_
  refine S.s (OpR.nconv32 S.ok rfl (S.e 0 rfl) it_147 it_141 MT.self) rfl fun a w G S=>?_
  refine S.s (τ:=MT.ex (Value.pointer (some ⟨bu,off + k,none⟩))) (OpR.ixA (i:=k) S.ok rfl Tryz.underlying22 tS_141 (S.e 3 rfl) (S.e 2 rfl) rfl (by first | omega | (simp;omega)) (ptr_eq (by simp only [Option.getD_none] <;> omega))) rfl fun a w G S=>?_
  refine S.setElem 0 (z:=(((((dig (l) (off + k)) + 18446744073709551616 - ((C + (q * (dig vs k))) % 4294967296)) % 18446744073709551616) + 18446744073709551616 - c) % 18446744073709551616) % 4294967296) rfl rfl rfl rfl (S.e 0 rfl) tS_141 (S.e 1 rfl) rfl (by first | omega | (simp;omega)) fun w S=>?_
  replace S:=S.n0
  refine wn hK ?_;clear hK K
  replace S:=S.d4.d3.d2.d1.d0
  refine wp_reg fun K hK=>?_
  refine S.m rfl (S.g 0 rfl) rfl fun a w G S=>?_
  refine S.s (OpR.nshr S.ok rfl (S.e 0 rfl) (rfl : _ = nv .u64 63) (by decide) MT.self) rfl fun a w G S=>?_
  replace S:=S.d8
  refine S.q rfl (S.g 0 rfl) rfl fun a w G S=>?_
  refine wn hK ?_;clear hK K
  replace S:=S.d2.d1
  refine wp_region_lit ?_
  refine S.m rfl (S.g 2 rfl) rfl fun a w G S=>?_
  refine S.s (OpR.nshr S.ok rfl (S.e 0 rfl) (rfl : _ = nv .u64 32) (by decide) MT.self) rfl fun a w G S=>?_
  replace S:=S.d4
  refine S.q rfl (S.g 0 rfl) rfl fun a w G S=>?_
  refine wpList_nil ?_
  replace S:=S.d2.d1
  refine hK _ _ ?_;clear hK K
  refine wp_region_lit ?_
  refine S.s (OpR.nadd S.ok rfl (S.e 5 rfl) (rfl : _ = nv .i64 1) (wr_i64 (by omega)) MT.self) rfl fun a w G S=>?_
  replace S:=S.d6
  refine S.m rfl (S.g 0 rfl) rfl fun a w G S=>?_
  refine wpList_nil ?_
  replace S:=S.d1
  replace S:=S.also (t:=8) (τ:=MT.ex (nv .u64 (((((((dig (l) (off + k)) + 18446744073709551616 - ((C + (q * (dig vs k))) % 4294967296)) % 18446744073709551616) + 18446744073709551616 - c) % 18446744073709551616) / 2 ^ 63)))) ((S.e 2 rfl).trans (nv_eq (by first | rfl | omega | (simp only [Nat.zero_add,Nat.add_zero];done) | (simp;done) | (push_cast;omega))))
  replace S:=S.also (t:=7) (τ:=MT.ex (nv .u64 (((C + (q * (dig vs k))) / 2 ^ 32)))) ((S.e 2 rfl).trans (nv_eq (by first | rfl | omega | (simp only [Nat.zero_add,Nat.add_zero];done) | (simp;done) | (push_cast;omega))))
  replace S:=S.castBox (τ':=MT.ex (Value.agg (ucells ((l.set (off + k) ((((((dig (l) (off + k)) + 18446744073709551616 - ((C + (q * (dig vs k))) % 4294967296)) % 18446744073709551616) + 18446744073709551616 - c) % 18446744073709551616) % 4294967296)))).toArray)) 0 rfl fun _ h _=>Eq.trans h (congrArg (fun l=>Value.agg (ucells l).toArray) (by simp))
  replace S:=S.n0
  exact ⟨len - (k + 1),(by omega),k + 1,(C + (q * (dig vs k))) / 2 ^ 32,(((((dig (l) (off + k)) + 18446744073709551616 - ((C + (q * (dig vs k))) % 4294967296)) % 18446744073709551616) + 18446744073709551616 - c) % 18446744073709551616) / 2 ^ 63,l.set (off + k) ((((((dig (l) (off + k)) + 18446744073709551616 - ((C + (q * (dig vs k))) % 4294967296)) % 18446744073709551616) + 18446744073709551616 - c) % 18446744073709551616) % 4294967296),_,rfl,(by omega),hcb.2,(sub_digit hdl (Nat.mod_lt _ (by decide)) hc).2,(by simpa using hl),(hw.set (Nat.mod_lt _ (by decide))),(by rw [take_set_far (by omega)];exact hA),(by rw [← Nat.add_assoc,drop_set_far (by omega)];exact drop_eq_succ hB),(rem_step (by omega) hdu hc (dig_of_drop hB) hv),(fun h=>by rw [dig_out (l:=vs) (by omega),Nat.mul_zero,Nat.add_zero];omega),S.keep [2,8,1,0,9,10,11,12,13]⟩
 ·
  have hp3:=of_decide_eq_false hc1
  refine wp_exit (then_exit (then_exit (exit_same ?_)))
  clear hK K
  refine hK _ _ ?_;clear hK K
  refine wp_reg fun K hK=>?_
  refine S.m rfl (S.g 3 rfl) rfl fun a w G S=>?_
  refine S.s (OpR.neql S.ok rfl (S.e 0 rfl) (rfl : _ = nv .u64 1) MT.self) rfl fun a w G S=>?_
  replace S:=S.d7
  refine S.q rfl (S.g 0 rfl) rfl fun a w G S=>?_
  refine wn hK ?_;clear hK K
  replace S:=S.d2.d1
  exact wp_ret (S.retM rfl (S.e 0 rfl) ⟨hw,hA,by rw [show off + len = off + k from by omega];exact hB,C,c,hc,rfl,by rw [show len = k from by omega];exact hv,fun h=>hz (by omega)⟩ hl (S.g 6 rfl))
theorem back_ok {nu off len cap : Nat} {us vs : List Nat} {v1 v2 : Value} {ws : World} {Gs : Gh} {W0 : World} {G0 : Gh} {bu : Nat} {Br : List BX} (S0 : St W0 G0 0 [] (⟨bu,141,some (nu),MT.ex (Value.agg (ucells us).toArray)⟩ :: Br) ⟨#[],[]⟩ ws Gs) (h1 : (MT.ex (Value.slice (some ⟨bu,off,none⟩) (len) (cap))).t v1 Gs) (h2 : (SL vs).t v2 Gs) (husl : us.length = nu) (husw : wfl us) (hol : off + len ≤ nu) (hnu : nu ≤ LIM) : Calls Tryz.prog 135 #[v1,v2] ws (RetM W0 G0 Gs (⟨bu,141,some (nu),MT.ex (Value.agg (ucells us).toArray)⟩ :: Br) 0 bu 141 (nu) (fun v l=>wfl l ∧ l.take off = us.take off ∧ l.drop (off + len) = us.drop (off + len) ∧ ∃ c,c ≤ 1 ∧ val ((l.drop off).take len) + 4294967296 ^ len * c = val ((us.drop off).take len) + val (vs.take len))):=by
 have hwf:=SL.wf h2
 simp only [LIM] at hnu
 refine St.enterM (N:=30) (L:=[(1,SL vs),(0,MT.ex (Value.slice (some ⟨bu,off,none⟩) (len) (cap)))]) (args:=[v1,v2]) S0 Tryz.func135 rfl rfl rfl (enter2 h1 h2) fun a S=>?_
 replace S:=S.also (t:=9999) (τ:=GLE Gs) (Gle.refl Gs)
 refine wp_reg fun K hK=>?_
 refine S.s (τ:=MT.ex (nv .u64 (0))) (OpR.asn S.ok rfl (rfl : _ = nv .u64 0)) rfl fun a w G S=>?_
 refine wn hK ?_;clear hK K
 refine wp_reg fun K hK=>?_
 refine S.m rfl (S.g 3 rfl) rfl fun a w G S=>?_
 refine S.s (OpR.lenA S.ok rfl Tryz.underlying22 (S.e 0 rfl) MT.self) rfl fun a w G S=>?_
 refine S.s (τ:=NT 0) (OpR.mv S.ok rfl (rfl : _ = nv .i64 0)) rfl fun a w G S=>?_
 refine wn hK ?_;clear hK K
 replace S:=S.d2
 refine wp_block ?_
 refine wp_loopJ (fun μ a w=>∃ (k : Nat) (c : Nat) (l : List Nat) (G : Gh),μ = len - k ∧ (k ≤ len) ∧ (c ≤ 1) ∧ (l.length = nu) ∧ (wfl l) ∧ (l.take off = us.take off) ∧ (l.drop (off + k) = us.drop (off + k)) ∧ (val ((l.drop off).take k) + 4294967296 ^ k * c = val ((us.drop off).take k) + val (vs.take k)) ∧  St W0 G0 30 [(8,NT k),(7,NT len),(4,MT.ex (nv .u64 (c))),(9999,GLE Gs),(1,SL vs),(0,MT.ex (Value.slice (some ⟨bu,off,none⟩) (len) (cap)))] (⟨bu,141,some (nu),MT.ex (Value.agg (ucells (l)).toArray)⟩ :: Br) a w G) (len - 0) ⟨0,0,us,_,rfl,(by omega),(by omega),husl,husw,rfl,rfl,(by simp [val]),S.keep [0,1,2,3,4,5]⟩ ?_
 clear S
 intro μ a w ⟨k,c,l,G,hm,hk,hc,hl,hw,hA,hB,hv,S⟩
 have hdv:=dig_lt hwf k
 have hdl:=dig_lt hw (off + k)
 refine wp_reg fun K hK=>?_
 refine S.s (OpR.nlss S.ok rfl (S.e 0 rfl) (S.e 1 rfl) MT.self) rfl fun a w G S=>?_
 refine wn hK ?_;clear hK K
 refine wp_seq_k fun K hK=>?_
 refine S.cond 0 rfl (fun hc1=>?_) (fun hc1=>?_)
 ·
  have hp2:=of_decide_eq_true hc1
  refine wp_skip ?_
  refine hK _ _ ?_;clear hK K
  refine wp_seq_k fun K hK=>?_
  refine wp_block ?_
  refine wp_reg fun K hK=>?_
  refine S.m rfl (S.g 1 rfl) rfl fun a w G S=>?_
  refine S.q rfl (S.g 0 rfl) rfl fun a w G S=>?_
  refine wn hK ?_;clear hK K
  replace S:=S.d1
  refine wp_seq_k fun K hK=>?_
  refine S.drawn [⟨11,.g (MT.ex (nv .u64 (c))),[]⟩,⟨12,.g (MT.ex (Value.slice (some ⟨bu,off,none⟩) (len) (cap))),[]⟩,⟨13,.g (NT k),[]⟩,⟨14,.g (MT.ex (Value.pointer (some ⟨bu,off + k,none⟩))),[1,2]⟩,⟨15,.g (MT.ex (nv .u32 (dig (l) (off + k)))),[3]⟩,⟨16,.g (MT.ex (nv .u64 (dig (l) (off + k)))),[4]⟩,⟨17,.g (SL vs),[]⟩,⟨18,.g (NT k),[]⟩,⟨19,.g (MT.ex (nv .u64 (dig vs k))),[6,7]⟩,⟨20,.g (MT.ex (nv .u64 ((dig (l) (off + k)) + (dig vs k)))),[5,8]⟩,⟨21,.g (MT.ex (nv .u64 (c + ((dig (l) (off + k)) + (dig vs k))))),[0,9]⟩] mixedOrders (by kernel_rfl)
   ⟨fun a w G S=>.of rfl (OpR.mv S.ok rfl (S.g 4 rfl)),
    fun a w G S=>.of rfl (OpR.mv S.ok rfl (S.g 7 rfl)),
    fun a w G S=>.of rfl (OpR.mv S.ok rfl (S.g 0 rfl)),
    fun a w G S=>.of rfl (OpR.ixA (i:=k) S.ok rfl Tryz.underlying22 tS_141 (S.e 0 rfl) (S.e 1 rfl) rfl (by first | omega | (simp;omega)) (ptr_eq (by simp only [Option.getD_none] <;> omega))),
    fun a w G S=>.of rfl (OpR.ldElem S.ok rfl (S.e 0 rfl) (S.box 0 rfl) tS_141 (dig_get (by first | omega | (simp;omega)))),
    fun a w G S=>.of rfl (OpR.nconv S.ok rfl (S.e 0 rfl) it_141 it_147 (wr_u64 (by omega)) MT.self),
    fun a w G S=>.of rfl (OpR.mv S.ok rfl (S.g 6 rfl)),
    fun a w G S=>.of rfl (OpR.mv S.ok rfl (S.g 0 rfl)),
    fun a w G S=>.of rfl (OpR.call2 rfl c_128 (word_ok S.ok (S.g 0 rfl) (S.g 1 rfl))),
    fun a w G S=>.of rfl (OpR.nadd S.ok rfl (S.e 0 rfl) (S.e 1 rfl) (wr_u64 (by omega)) MT.self),
    fun a w G S=>.of rfl (OpR.nadd S.ok rfl (S.e 0 rfl) (S.e 1 rfl) (wr_u64 (by omega)) MT.self),trivial⟩ fun β a w G S=>?_
  replace S : St W0 G0 30 [(21,MT.ex (nv .u64 (c + ((dig (l) (off + k)) + (dig vs k))))),(5,NT k),(9,BT (decide (k < len))),(8,NT k),(7,NT len),(4,MT.ex (nv .u64 (c))),(9999,GLE Gs),(1,SL vs),(0,MT.ex (Value.slice (some ⟨bu,off,none⟩) (len) (cap)))] (⟨bu,141,some (nu),MT.ex (Value.agg (ucells (l)).toArray)⟩ :: Br) a _ _:=S.keep [0,11,12,13,14,15,16,17,18]
  replace S:=S.d5
  refine S.q rfl (S.g 0 rfl) rfl fun a w G S=>?_
  refine wn hK ?_;clear hK K
  replace S:=S.d1
  refine wp_reg fun K hK=>?_
  refine S.m rfl (S.g 7 rfl) rfl fun a w G S=>?_
  refine S.m rfl (S.g 2 rfl) rfl fun a w G S=>?_
  refine S.m rfl (S.g 2 rfl) rfl fun a w G S=>?_
  refine S.s (OpR.nconv32 S.ok rfl (S.e 0 rfl) it_147 it_141 MT.self) rfl fun a w G S=>?_
  refine S.s (τ:=MT.ex (Value.pointer (some ⟨bu,off + k,none⟩))) (OpR.ixA (i:=k) S.ok rfl Tryz.underlying22 tS_141 (S.e 3 rfl) (S.e 2 rfl) rfl (by first | omega | (simp;omega)) (ptr_eq (by simp only [Option.getD_none] <;> omega))) rfl fun a w G S=>?_
  refine S.setElem 0 (z:=(c + ((dig (l) (off + k)) + (dig vs k))) % 4294967296) rfl rfl rfl rfl (S.e 0 rfl) tS_141 (S.e 1 rfl) rfl (by first | omega | (simp;omega)) fun w S=>?_
  replace S:=S.n0
  refine wn hK ?_;clear hK K
  replace S:=S.d4.d3.d2.d1.d0
  refine wp_region_lit ?_
  refine S.m rfl (S.g 0 rfl) rfl fun a w G S=>?_
  refine S.s (OpR.nshr S.ok rfl (S.e 0 rfl) (rfl : _ = nv .u64 32) (by decide) MT.self) rfl fun a w G S=>?_
  replace S:=S.d2
  refine S.q rfl (S.g 0 rfl) rfl fun a w G S=>?_
  refine wpList_nil ?_
  replace S:=S.d2.d1
  refine hK _ _ ?_;clear hK K
  refine wp_region_lit ?_
  refine S.s (OpR.nadd S.ok rfl (S.e 3 rfl) (rfl : _ = nv .i64 1) (wr_i64 (by omega)) MT.self) rfl fun a w G S=>?_
  replace S:=S.d4
  refine S.m rfl (S.g 0 rfl) rfl fun a w G S=>?_
  refine wpList_nil ?_
  replace S:=S.d1
  replace S:=S.also (t:=4) (τ:=MT.ex (nv .u64 (((c + ((dig (l) (off + k)) + (dig vs k))) / 2 ^ 32)))) ((S.e 1 rfl).trans (nv_eq (by first | rfl | omega | (simp only [Nat.zero_add,Nat.add_zero];done) | (simp;done) | (push_cast;omega))))
  replace S:=S.castBox (τ':=MT.ex (Value.agg (ucells ((l.set (off + k) ((c + ((dig (l) (off + k)) + (dig vs k))) % 4294967296)))).toArray)) 0 rfl fun _ h _=>Eq.trans h (congrArg (fun l=>Value.agg (ucells l).toArray) (by simp))
  replace S:=S.n0
  exact ⟨len - (k + 1),(by omega),k + 1,(c + ((dig (l) (off + k)) + (dig vs k))) / 2 ^ 32,l.set (off + k) ((c + ((dig (l) (off + k)) + (dig vs k))) % 4294967296),_,rfl,(by omega),(by omega),(by simpa using hl),(hw.set (Nat.mod_lt _ (by decide))),(by rw [take_set_far (by omega)];exact hA),(by rw [← Nat.add_assoc,drop_set_far (by omega)];exact drop_eq_succ hB),(back_step (by omega) (dig_of_drop hB) hv),S.keep [1,5,0,6,7,8]⟩
 ·
  have hp3:=of_decide_eq_false hc1
  refine wp_exit (then_exit (then_exit (exit_same ?_)))
  clear hK K
  exact ret_of_normal (S.retM0 rfl ⟨hw,hA,by rw [show off + len = off + k from by omega];exact hB,c,hc,by rw [show len = k from by omega];exact hv⟩ hl (S.g 4 rfl))
end Go.Proofs.YtpbkcbnghhodiaaGreat
namespace Go.Proofs.YtpbkcbnghhodiaaGreat
open Go.RowKit (Below)
def blen (n : Nat) : Nat:=if n = 0 then 0 else Nat.log2 n + 1
theorem lt_blen (n : Nat) : n < 2 ^ blen n:=by
  unfold blen;split
  · rename_i h;subst h;simp
  · exact Nat.lt_log2_self
theorem blen_le {n k : Nat} (h : n < 2 ^ k) : blen n ≤ k:=by
  unfold blen;split
  · omega
  · rename_i h0;exact (Nat.log2_lt h0).2 h
theorem blen_pos {n : Nat} (h : n ≠ 0) : 0 < blen n:=by unfold blen;rw [if_neg h];omega
theorem blen_ge {n k : Nat} (h : 2 ^ k ≤ n) : k < blen n:=by
  rcases Nat.lt_or_ge k (blen n) with h1 | h1
  · exact h1
  · have h2:=lt_blen n
    have : 2 ^ blen n ≤ 2 ^ k:=Nat.pow_le_pow_right (by omega) h1
    omega
theorem blen_shift {n s : Nat} (h : 2 ^ s ≤ n) : blen n = s + blen (n / 2 ^ s):=by
  have hp : 0 < 2 ^ s:=Nat.pow_pos (by omega)
  have hq : n / 2 ^ s ≠ 0:=by have:=Nat.div_pos h hp;omega
  apply Nat.le_antisymm
  · refine blen_le ?_
    have h1:=lt_blen (n / 2 ^ s)
    rw [Nat.pow_add,Nat.mul_comm]
    exact (Nat.div_lt_iff_lt_mul hp).1 h1
  · have h1 : 2 ^ (blen (n / 2 ^ s) - 1) ≤ n / 2 ^ s := by
      unfold blen;rw [if_neg hq];exact Nat.log2_self_le hq
    have h2 : 2 ^ (blen (n / 2 ^ s) - 1) * 2 ^ s ≤ n:=(Nat.le_div_iff_mul_le hp).1 h1
    rw [← Nat.pow_add] at h2
    have:=blen_ge h2
    have:=blen_pos hq
    omega
section
variable {P : Program} {o : Oper} {a : Act} {w : World} {G : Gh} {τ : MT} {W0 : World} {G0 : Gh} {N : Nat} {L : List (Nat × MT)} {B : List BX}
theorem OpR.idxTab {x y : Operand} {t z : Nat} {k : IntKind} {s : ByteArray} {f : Nat → Nat} (hok : Gok w G) (ho : o.op = .index t x y) (ht : P.underlying t = some .string) (hx : a.eval x = .string s) (hy : a.eval y = nv k z) (hz : z < 256)
    (hs : ((List.range 256).all fun z=>(s[z]?.map UInt8.toNat) == some (f z)) = true) (h : τ.t (nv .u8 (f z)) G) : OpR P o a w G τ:=by
  have h1:=List.all_eq_true.1 hs z (by simpa using hz)
  simp only [beq_iff_eq] at h1
  cases hb : s[z]? with
  | none=>rw [hb] at h1;cases h1
  | some b =>
    rw [hb] at h1
    have h2 : b.toNat = f z:=by simpa using h1
    refine .run hok (v:=nv .u8 (f z)) ?_ h
    have e : (if (0 : Int) ≤ (z : Int) then s[(z : Int).toNat]? else none) = some b:=by rw [if_pos (by omega)];simpa using hb
    simp only [execOp,ho,Instr.index,hx,hy,Sem.run_bind,asIntOf,Sem.run_pure,Result.andThen_ok,run_underlying ht,e,h2]
theorem OpR.cutX {x y z : Operand} {t e b c n lo hi : Nat} {k k' : IntKind} {m m' : Int} (hok : Gok w G) (ho : o.op = .slice t x (some y) (some z) none) (ht : P.underlying t = some (.slice e)) (hs : tyS P e none = true)
    (hx : a.eval x = .slice (some ⟨b,0,none⟩) n c) (hy : a.eval y = .int k m) (hz : a.eval z = .int k' m') (hm : m = (lo : Int)) (hm' : m' = (hi : Int)) (h1 : lo ≤ hi) (h2 : hi ≤ c) (h3 : lo < c) (h : τ.t (.slice (some ⟨b,lo,none⟩) (hi - lo) (c - lo)) G) : OpR P o a w G τ:=by
  subst hm hm'
  refine .run hok (v:=.slice (some ⟨b,lo,none⟩) (hi - lo) (c - lo)) ?_ h
  have hne : ¬ c = lo:=by omega
  simp [execOp,ho,hx,hy,hz,Instr.sliceAt,run_underlying ht,Instr.slice,Instr.sliceBounds,Instr.sliceBound,asIntOf,h1,h2,tyS_size hs,hne,addr_add]
def ARS (n : Nat) (p : List Nat → Prop) (j : Nat) : MT where
  t:=fun v G=>∃ l : List Nat,l.length = n ∧ p l ∧ (SL (l.take j)).t v G
  mono:=by rintro v G G' hle ⟨l,h1,h2,h3⟩;exact ⟨l,h1,h2,(SL _).mono hle h3⟩
theorem RetB.toRet {n : Nat} {ty : TypeId} {p : List Nat → Prop} (hn : n ≤ LIM) (hw : ∀ l, p l → wfl l) {e : Ending} {w' : World} (h : RetB w G (mkS n) ty (some n) (ARR n p) e w') :
    Ret w G (ARS n p n) e w':=by
  obtain ⟨b,G',rfl,hb,hN,hg,v,hv,hs,l,rfl,hl,hp⟩:=h
  have hle : Gle G' (Gput G' b (.cells (ucells l).toArray ty (0,0))):=fun k o hk=>by
    unfold Gput;split
    · rename_i e;subst e;rw [hg] at hk;cases hk
    · exact hk
  refine ⟨mkS n b,Gput G' b (.cells (ucells l).toArray ty (0,0)),rfl,⟨l,hl,hp,?_⟩,hN.below,fun k hk=>?_,hN.le.trans hle,fun k o hk=>?_⟩
  · rw [List.take_of_length_le (by omega)]
    exact SL_frozen (ty:=ty) (u:=.agg (ucells l).toArray) rfl (by simp [Gput,Value.cells]) ⟨hl.symm,Nat.le_refl _⟩ (by omega) (hw l hp)
  · unfold Gput;rw [if_neg (by omega)];exact hN.agree k hk
  · unfold Gput at hk;split at hk
    · rename_i e;subst e;cases hk;exact hv
    · exact hN.ok k o hk
theorem OpR.cutAR {x y : Operand} {t e n j : Nat} {k : IntKind} {p : List Nat → Prop} (hok : Gok w G) (ho : o.op = .slice t x none (some y) none) (ht : P.underlying t = some (.slice e)) (hs : tyS P e none = true)
    (hx : (ARS n p n).t (a.eval x) G) (hy : a.eval y = nv k j) (hj : j ≤ n) : OpR P o a w G (ARS n p j):=by
  obtain ⟨l,hl,hp,hx⟩:=hx
  rw [List.take_of_length_le (by omega)] at hx
  exact (OpR.cutL hok ho ht hs hx hy rfl (by omega)).conv' fun v G h=>⟨l,hl,hp,h⟩
theorem St.stepM2 {ops : Array Oper} {rest : List Oper} {Q : Exit → Act → World → Prop} (S : St W0 G0 N L B a w G) (i : Nat) {d f bu n : Nat} {ty : TypeId} {x y : Operand} {ats : Array TypeId} {p : Value → List Nat → Prop} (ho : o.op = .call { callee := .value (.func f), args := #[x, y], argTypes := ats }) (hd : o.dst = some d) (hg : o.guard = none)
    (hc : callable P f = true) (h : Calls P f #[a.eval x,a.eval y] w (RetM W0 G0 G B i bu ty n p)) (hdN : (decide (d < N)) = true) (hf : fresh d L = true)
    (K : ∀ v l a' w' G',p v l → l.length = n → St W0 G0 N ((d,.ex v) :: L) (B.set i ⟨bu,ty,some n,.ex (.agg (ucells l).toArray)⟩) a' w' G' → wpList P ops Q rest a' w') : wpList P ops Q (o :: rest) a w:=S.stepM i ho hd hg hc (by simpa using h) hdN hf K
theorem St.stepM3 {ops : Array Oper} {rest : List Oper} {Q : Exit → Act → World → Prop} (S : St W0 G0 N L B a w G) (i : Nat) {d f bu n : Nat} {ty : TypeId} {x y z : Operand} {ats : Array TypeId} {p : Value → List Nat → Prop} (ho : o.op = .call { callee := .value (.func f), args := #[x, y, z], argTypes := ats }) (hd : o.dst = some d) (hg : o.guard = none)
    (hc : callable P f = true) (h : Calls P f #[a.eval x,a.eval y,a.eval z] w (RetM W0 G0 G B i bu ty n p)) (hdN : (decide (d < N)) = true) (hf : fresh d L = true)
    (K : ∀ v l a' w' G',p v l → l.length = n → St W0 G0 N ((d,.ex v) :: L) (B.set i ⟨bu,ty,some n,.ex (.agg (ucells l).toArray)⟩) a' w' G' → wpList P ops Q rest a' w') : wpList P ops Q (o :: rest) a w:=S.stepM i ho hd hg hc (by simpa using h) hdN hf K
end
theorem SN.cast {v : Value} {G : Gh} {n n' m m' : Nat} (h : (SN n m).t v G) (e : m = m') (hm : m' < 2 ^ n') : (SN n' m').t v G:=⟨hm,e ▸ h.2⟩
theorem cmpN_neg {a b : Nat} : cmpN a b < 0 ↔ a < b:=by unfold cmpN;split <;> (try split) <;> omega
theorem dig_zero_one {y : Nat} (h : (words y).length = 1) : dig (words y) 0 = y:=by
  have h1:=val_words y
  match hw : words y,h with
  | [d],_=>rw [hw] at h1;simp [val] at h1;simp [dig,h1]
theorem dig_last_pos {y : Nat} (h : y ≠ 0) : dig (words y) ((words y).length - 1) ≠ 0:=by
  obtain ⟨d,h1,h2⟩:=words_last h
  rw [List.getLast?_eq_getElem?] at h1
  simpa [dig,h1] using h2
theorem len_pos {y : Nat} (h : y ≠ 0) : 0 < (words y).length:=List.length_pos_iff.2 fun e=>h (words_nil_iff.1 e)
structure DG (b v1 v2 vr u0 u1 u2 ur D V U : Nat) : Prop where
  hV : V = (v1 * b + v2) * D + vr
  hU : U = ((u0 * b + u1) * b + u2) * D + ur
  hvr : vr < D
  hur : ur < D
  h1 : 0 < v1
  h1b : v1 < b
  h2b : v2 < b
  hu1 : u1 < b
  hu2 : u2 < b
  hlt : U < V * b
section
variable {b v1 v2 vr u0 u1 u2 ur D V U g r : Nat}
theorem DG.D_pos (h : DG b v1 v2 vr u0 u1 u2 ur D V U) : 0 < D:=by have:=h.hvr;omega
theorem DG.V_pos (h : DG b v1 v2 vr u0 u1 u2 ur D V U) : 0 < V:=by
  rw [h.hV]
  have hb : 0 < b:=by have:=h.h1b;omega
  have : 0 < (v1 * b + v2) * D:=Nat.mul_pos (Nat.add_pos_left (Nat.mul_pos h.h1 hb) _) h.D_pos
  omega
theorem DG.q_lt (h : DG b v1 v2 vr u0 u1 u2 ur D V U) : U / V < b:=(Nat.div_lt_iff_lt_mul h.V_pos).2 (by rw [Nat.mul_comm];exact h.hlt)
theorem DG.u0_le (h : DG b v1 v2 vr u0 u1 u2 ur D V U) : u0 ≤ v1:=by
  rcases Nat.lt_or_ge v1 u0 with hc | hc
  · exfalso
    have hlt:=h.hlt
    rw [h.hU,h.hV] at hlt
    have hvr:=h.hvr
    have h2:=h.h2b
    have e0 : (v1 + 1) * b * b ≤ (u0 * b + u1) * b + u2:=by
      have e : (v1 + 1) * b * b ≤ u0 * b * b:=Nat.mul_le_mul_right _ (Nat.mul_le_mul_right _ hc)
      rw [Nat.add_mul (u0 * b) u1 b];omega
    have e1 : ((v1 + 1) * b * b) * D ≤ ((u0 * b + u1) * b + u2) * D:=Nat.mul_le_mul_right _ e0
    have e2 : ((v1 * b + v2) * D + vr) * b ≤ ((v1 * b + v2 + 1) * D) * b:=by
      refine Nat.mul_le_mul_right _ ?_
      rw [Nat.add_mul (v1 * b + v2) 1 D];omega
    have e3 : ((v1 * b + v2 + 1) * D) * b ≤ ((v1 + 1) * b * b) * D:=by
      rw [Nat.mul_right_comm]
      refine Nat.mul_le_mul_right _ (Nat.mul_le_mul_right _ ?_)
      rw [Nat.add_mul v1 1 b];omega
    omega
  · exact hc
theorem DG.step (h : DG b v1 v2 vr u0 u1 u2 ur D V U) (hg : g * v1 + r = u0 * b + u1) (ht : b ≤ g ∨ r * b + u2 < g * v2) (hq : U / V ≤ g) : U / V ≤ g - 1 ∧ 0 < g:=by
  have hlt:=h.q_lt
  rcases ht with ht | ht
  · generalize U / V = x at *;omega
  · have hg0 : 0 < g := by
      rcases Nat.eq_zero_or_pos g with e | e
      · subst e;omega
      · exact e
    refine ⟨?_,hg0⟩
    have : U < g * V:=by
      rw [h.hV,h.hU,← hg]
      have hur:=h.hur
      have e1 : ((g * v1 + r) * b + u2 + 1) * D ≤ (g * (v1 * b + v2)) * D:=by
        refine Nat.mul_le_mul_right _ ?_
        rw [Nat.mul_add,Nat.add_mul,← Nat.mul_assoc];omega
      rw [Nat.add_mul _ 1 D] at e1
      rw [Nat.mul_add,← Nat.mul_assoc]
      omega
    have:=(Nat.div_lt_iff_lt_mul h.V_pos).2 this
    exact Nat.le_sub_one_of_lt this
theorem DG.fin (h : DG b v1 v2 vr u0 u1 u2 ur D V U) (hg : g * v1 + r = u0 * b + u1) (ht : b ≤ r ∨ (g < b ∧ g * v2 ≤ r * b + u2)) : g < b ∧ g ≤ U / V + 1:=by
  have hgB : g < b:=by
    rcases ht with ht | ht
    · rcases Nat.lt_or_ge g b with hc | hc
      · exact hc
      · exfalso
        have h0:=h.u0_le;have h1:=h.hu1
        have e1 : b * v1 ≤ g * v1:=Nat.mul_le_mul_right _ hc
        have e2 : u0 * b ≤ v1 * b:=Nat.mul_le_mul_right _ h0
        have e3 : v1 * b = b * v1:=Nat.mul_comm _ _
        omega
    · exact ht.1
  refine ⟨hgB,?_⟩
  have ht' : g * v2 ≤ r * b + u2:=by
    rcases ht with ht | ht
    · have e1 : g * v2 ≤ b * b:=Nat.mul_le_mul (by omega) (by have:=h.h2b;omega)
      have e2 : b * b ≤ r * b:=Nat.mul_le_mul_right _ ht
      omega
    · exact ht.2
  rcases Nat.eq_zero_or_pos g with e | hg0
  · rw [e];exact Nat.zero_le _
  have hle : (g - 1) * V ≤ U:=by
    have e1 : (g * (v1 * b + v2)) * D ≤ ((u0 * b + u1) * b + u2) * D:=by
      refine Nat.mul_le_mul_right _ ?_
      rw [← hg,Nat.mul_add,Nat.add_mul,← Nat.mul_assoc];omega
    have hvr:=h.hvr
    have e2 : g * V ≤ (g * (v1 * b + v2)) * D + g * D:=by
      rw [h.hV,Nat.mul_add,← Nat.mul_assoc]
      have : g * vr ≤ g * D:=Nat.mul_le_mul_left _ (by omega)
      omega
    have e3 : g * D ≤ V:=by
      rw [h.hV]
      have e5 : b ≤ v1 * b:=Nat.le_mul_of_pos_left _ h.h1
      have : g * D ≤ (v1 * b + v2) * D:=Nat.mul_le_mul_right _ (by omega)
      omega
    have e4 : (g - 1) * V + V = g * V:=by
      have : (g - 1 + 1) * V = (g - 1) * V + V:=by rw [Nat.add_mul,Nat.one_mul]
      rw [← this,Nat.sub_add_cancel hg0]
    have hU:=h.hU
    omega
  exact Nat.sub_le_iff_le_add.1 ((Nat.le_div_iff_mul_le h.V_pos).2 hle)
end
theorem xsl_eq {b i j n m c d : Nat} (h1 : i = j) (h2 : n = m) (h3 : c = d) : Value.slice (some ⟨b,i,none⟩) n c = Value.slice (some ⟨b,j,none⟩) m d:=by rw [h1,h2,h3]
theorem len32_a {t : Nat} : 0 + blen t = blen t:=Nat.zero_add _
theorem len32_b {t : Nat} (h : 256 ≤ t) : 0 + 8 + blen (t / 2 ^ 8) = blen t:=by rw [blen_shift (n:=t) (s:=8) (by omega)]
theorem len32_c {t : Nat} (h : 65536 ≤ t) : 16 + blen (t / 2 ^ 16) = blen t:=by rw [blen_shift (n:=t) (s:=16) (by omega)]
theorem len32_d {t : Nat} (h : 65536 ≤ t) (h2 : 256 ≤ t / 2 ^ 16) : 16 + 8 + blen (t / 2 ^ 16 / 2 ^ 8) = blen t:=by
  rw [blen_shift (n:=t) (s:=16) (by omega),blen_shift (n:=t / 2 ^ 16) (s:=8) (by omega)];omega
theorem shift_ok {y s : Nat} (hy : y ≠ 0) (hs : s = 32 - blen (dig (words y) ((words y).length - 1))) : s < 32 ∧ y * 2 ^ s < 4294967296 ^ (words y).length:=by
  have htop:=dig_last_pos hy
  have hlt:=dig_lt (wfl_words y) ((words y).length - 1)
  have hb:=blen_le (n:=dig (words y) ((words y).length - 1)) (k:=32) (by omega)
  have hp:=blen_pos htop
  have hl:=lt_blen (dig (words y) ((words y).length - 1))
  have hL:=len_pos hy
  refine ⟨by omega,?_⟩
  have hsplit:=val_split (words y) ((words y).length - 1)
  rw [val_words,val_drop_dig,Nat.sub_add_cancel hL,List.drop_length] at hsplit
  simp only [val,Nat.mul_zero,Nat.add_zero] at hsplit
  have hlow:=val_lt ((wfl_words y).take ((words y).length - 1))
  have hl2 : ((words y).take ((words y).length - 1)).length = (words y).length - 1:=by simp
  rw [hl2] at hlow
  generalize dig (words y) ((words y).length - 1) = t at *
  generalize hB : 4294967296 ^ ((words y).length - 1) = B at *
  have hpow : 4294967296 ^ (words y).length = B * 4294967296:=by rw [← hB,← Nat.pow_succ];congr 1;omega
  have e1 : (t + 1) * 2 ^ s ≤ 4294967296:=by
    have : (t + 1) * 2 ^ s ≤ 2 ^ blen t * 2 ^ s:=Nat.mul_le_mul_right _ hl
    rw [← Nat.pow_add,show blen t + s = 32 from by omega] at this
    exact this
  have e2 : y * 2 ^ s < (B * (t + 1)) * 2 ^ s:=by
    refine Nat.mul_lt_mul_of_pos_right ?_ (Nat.pow_pos (by decide))
    rw [Nat.mul_add];omega
  rw [hpow]
  have e3 : (B * (t + 1)) * 2 ^ s ≤ B * 4294967296:=by rw [Nat.mul_assoc];exact Nat.mul_le_mul_left _ e1
  omega
theorem v_facts {y s : Nat} {l : List Nat} (hy : y ≠ 0) (hL : 2 ≤ (words y).length) (hlt : y * 2 ^ s < 4294967296 ^ (words y).length) (hl : l.length = (words y).length + 1) (hp : wfl l ∧ val l = y * 2 ^ s) :
    (l.take (words y).length).length = (words y).length ∧ wfl (l.take (words y).length) ∧ val (l.take (words y).length) = y * 2 ^ s ∧ dig (l.take (words y).length) ((l.take (words y).length).length - 1) ≠ 0:=by
  have h1 : (l.take (words y).length).length = (words y).length:=by simp;omega
  have h2:=hp.1.take (words y).length
  have h3 : val (l.take (words y).length) = y * 2 ^ s:=by
    have h4:=val_split l (words y).length
    rw [hp.2] at h4
    rcases Nat.eq_zero_or_pos (val (l.drop (words y).length)) with h5 | h5
    · rw [h5] at h4;omega
    · have : 4294967296 ^ (words y).length * 1 ≤ 4294967296 ^ (words y).length * val (l.drop (words y).length):=Nat.mul_le_mul_left _ h5
      omega
  refine ⟨h1,h2,h3,fun e=>?_⟩
  have h4:=val_split (l.take (words y).length) ((l.take (words y).length).length - 1)
  rw [val_drop_dig,e,Nat.sub_add_cancel (by omega),List.drop_length] at h4
  simp only [val,Nat.mul_zero,Nat.add_zero,Nat.zero_add] at h4
  have h5:=val_lt (h2.take ((l.take (words y).length).length - 1))
  rw [← h4,h3,List.length_take,h1] at h5
  have h6:=pow_le_words hy
  have h7 : y * 1 ≤ y * 2 ^ s:=Nat.mul_le_mul_left _ (Nat.pow_pos (by decide))
  have h8 : min ((words y).length - 1) (words y).length = (words y).length - 1:=by omega
  rw [h8] at h5
  omega
theorem div_start {x y s : Nat} {us vs : List Nat} (hs : s < 32) (hus : val us = x * 2 ^ s) (hvs : val vs = y * 2 ^ s) (hy : y ≠ 0) (hle : (words y).length ≤ (words x).length) (hL : vs.length = (words y).length) :
    val us < val vs * 4294967296 ^ ((words x).length + 1 - vs.length):=by
  have h1:=val_lt (wfl_words x)
  rw [val_words] at h1
  have h2:=pow_le_words hy
  have h3:=len_pos hy
  rw [hus,hvs,hL,Nat.mul_right_comm]
  refine Nat.mul_lt_mul_of_pos_right ?_ (Nat.pow_pos (by decide))
  have h4 : 4294967296 ^ ((words y).length - 1) * 4294967296 ^ ((words x).length + 1 - (words y).length) ≤ y * 4294967296 ^ ((words x).length + 1 - (words y).length):=Nat.mul_le_mul_right _ h2
  rw [← Nat.pow_add,show (words y).length - 1 + ((words x).length + 1 - (words y).length) = (words x).length from by omega] at h4
  omega
theorem ring1 (D p q t : Nat) : t + D * (q + 4294967296 * p) = (p * 4294967296 + q) * D + t:=by grind
theorem ring2 (D p q r t M : Nat) : t + D * r + D * M * q + D * M * M * p = ((p * M + q) * M + r) * D + t:=by grind
theorem ring3 (A B U V g Q M m : Nat) (h : V * g + m = U) : A + B * m + V * (B * (g + M * Q)) = A + B * U + V * (B * M * Q):=by grind
theorem mkDG {l vs : List Nat} {j : Nat} (hL : 2 ≤ vs.length) (hw : wfl vs) (htop : dig vs (vs.length - 1) ≠ 0) (hlw : wfl l) (hlt : val l < val vs * 4294967296 ^ (j + 1)) :
    DG 4294967296 (dig vs (vs.length - 1)) (dig vs (vs.length - 2)) (val (vs.take (vs.length - 2))) (dig l (j + vs.length)) (dig l (j + (vs.length - 1))) (dig l (j + (vs.length - 2))) (val ((l.drop j).take (vs.length - 2)))
      (4294967296 ^ (vs.length - 2)) (val vs) (val ((l.drop j).take (vs.length + 1))):=by
  have hsV : val vs = (dig vs (vs.length - 1) * 4294967296 + dig vs (vs.length - 2)) * 4294967296 ^ (vs.length - 2) + val (vs.take (vs.length - 2)):=by
    have h1:=val_split vs (vs.length - 2)
    have h2:=val_drop_dig vs (vs.length - 2)
    have h3:=val_drop_dig vs (vs.length - 2 + 1)
    rw [show vs.length - 2 + 1 = vs.length - 1 from by omega] at h2 h3
    rw [show vs.length - 1 + 1 = vs.length from by omega,List.drop_length] at h3
    simp only [val,Nat.mul_zero,Nat.add_zero] at h3
    rw [h2,h3] at h1
    rw [h1]
    exact ring1 _ _ _ _
  have hsU : val ((l.drop j).take (vs.length + 1)) = ((dig l (j + vs.length) * 4294967296 + dig l (j + (vs.length - 1))) * 4294967296 + dig l (j + (vs.length - 2))) * 4294967296 ^ (vs.length - 2) + val ((l.drop j).take (vs.length - 2)):=by
    have h1:=seg_take_dig (l:=l) (i:=j) (k:=vs.length)
    have h2:=seg_take_dig (l:=l) (i:=j) (k:=vs.length - 1)
    have h3:=seg_take_dig (l:=l) (i:=j) (k:=vs.length - 2)
    rw [show vs.length - 1 + 1 = vs.length from by omega] at h2
    rw [show vs.length - 2 + 1 = vs.length - 1 from by omega] at h3
    rw [h1,h2,h3]
    have e1 : 4294967296 ^ vs.length = 4294967296 ^ (vs.length - 2) * 4294967296 * 4294967296:=by
      rw [← Nat.pow_succ,← Nat.pow_succ];congr 1;omega
    have e2 : 4294967296 ^ (vs.length - 1) = 4294967296 ^ (vs.length - 2) * 4294967296:=by
      rw [← Nat.pow_succ];congr 1;omega
    rw [e1,e2]
    exact ring2 _ _ _ _ _ _
  refine ⟨hsV,hsU,?_,?_,by omega,dig_lt hw _,dig_lt hw _,dig_lt hlw _,dig_lt hlw _,?_⟩
  · exact Nat.lt_of_lt_of_le (val_lt (hw.take _)) (Nat.pow_le_pow_right (by decide) (by rw [List.length_take];omega))
  · exact Nat.lt_of_lt_of_le (val_lt ((hlw.drop j).take _)) (Nat.pow_le_pow_right (by decide) (by rw [List.length_take];omega))
  · have h1:=val_split l j
    have h2:=val_split (l.drop j) (vs.length + 1)
    have h3 : 4294967296 ^ j * val ((l.drop j).take (vs.length + 1)) ≤ val l:=by
      rw [h1,h2,Nat.mul_add];omega
    have h4 : 4294967296 ^ j * val ((l.drop j).take (vs.length + 1)) < 4294967296 ^ j * (val vs * 4294967296):=by
      rw [Nat.pow_succ,← Nat.mul_assoc,Nat.mul_right_comm,Nat.mul_comm (val vs * 4294967296)] at hlt
      omega
    exact Nat.lt_of_mul_lt_mul_left h4
theorem digit_hit {V U g x C c L : Nat} {vs : List Nat} (hV : val vs = V) (hV0 : 0 < V) (hL : vs.length = L) (hc : c = 0) (hC : vs.length < L + 1 → C = 0) (h : x + g * val (vs.take (L + 1)) = U + 4294967296 ^ (L + 1) * (C + c)) (hle : U / V ≤ g) : g = U / V ∧ x = U % V:=by
  rw [List.take_of_length_le (by omega),hV,hC (by omega),hc,Nat.add_zero,Nat.mul_zero,Nat.add_zero] at h
  have h1 : g ≤ U / V:=(Nat.le_div_iff_mul_le hV0).2 (by omega)
  have h2 : g = U / V:=Nat.le_antisymm h1 hle
  refine ⟨h2,?_⟩
  have h3:=Nat.div_add_mod U V
  rw [← h2,Nat.mul_comm] at h3
  omega
theorem digit_back {V U g x z C c c2 L : Nat} {vs : List Nat} (hV : val vs = V) (hV0 : 0 < V) (hw : wfl vs) (hL : vs.length = L) (hc : c = 1) (hC : vs.length < L + 1 → C = 0) (h : x + g * val (vs.take (L + 1)) = U + 4294967296 ^ (L + 1) * (C + c)) (hx : x < 4294967296 ^ (L + 1)) (hz : z < 4294967296 ^ (L + 1))
    (hle : g ≤ U / V + 1) (h2 : z + 4294967296 ^ (L + 1) * c2 = x + val (vs.take (L + 1))) (hc2 : c2 ≤ 1) : g - 1 = U / V ∧ 0 < g ∧ z = U % V:=by
  rw [List.take_of_length_le (by omega),hV] at h h2
  rw [hC (by omega),hc,Nat.zero_add,Nat.mul_one] at h
  have hpow : 4294967296 ^ L ≤ 4294967296 ^ (L + 1):=Nat.pow_le_pow_right (by decide) (Nat.le_succ L)
  have hVb : V < 4294967296 ^ L:=by rw [← hV,← hL];exact val_lt hw
  generalize 4294967296 ^ (L + 1) = B at *
  generalize 4294967296 ^ L = B1 at *
  have h3 : U < g * V:=by omega
  have h4 : U / V < g:=(Nat.div_lt_iff_lt_mul hV0).2 h3
  have h5 : g = U / V + 1:=by generalize U / V = q at *;omega
  have h6:=Nat.div_add_mod U V
  have h7:=Nat.mod_lt U hV0
  rw [h5,Nat.add_mul,Nat.one_mul,Nat.mul_comm (U / V)] at h
  generalize V * (U / V) = q at *
  generalize U % V = m at *
  refine ⟨by generalize U / V = q2 at *;omega,by generalize U / V = q2 at *;omega,?_⟩
  by_cases h0 : c2 = 0
  · subst h0;omega
  · have : c2 = 1:=by omega
    subst this;omega
theorem div_step {l l' qq vs : List Nat} {j x g : Nat} (hw : wfl vs) (hlw : wfl l) (hlw' : wfl l') (hlt : val l < val vs * 4294967296 ^ (j + 1)) (hinv : val l + val vs * (4294967296 ^ (j + 1) * val (qq.drop (j + 1))) = x) (hV0 : 0 < val vs) (hq : j < qq.length)
    (hA : l'.take j = l.take j) (hB : l'.drop (j + (vs.length + 1)) = l.drop (j + (vs.length + 1))) (hg : g = val ((l.drop j).take (vs.length + 1)) / val vs) (hgB : g < 4294967296) (hz : val ((l'.drop j).take (vs.length + 1)) = val ((l.drop j).take (vs.length + 1)) % val vs) :
    val l' + val vs * (4294967296 ^ j * val ((qq.set j (g % 4294967296)).drop j)) = x ∧ val l' < val vs * 4294967296 ^ j:=by
  have s1:=val_split l j;have s2:=val_split (l.drop j) (vs.length + 1)
  have s1':=val_split l' j;have s2':=val_split (l'.drop j) (vs.length + 1)
  rw [List.drop_drop] at s2 s2'
  rw [hA] at s1';rw [hB] at s2'
  have hVb:=val_lt hw
  have hR : val (l.drop (j + (vs.length + 1))) = 0:=by
    rcases Nat.eq_zero_or_pos (val (l.drop (j + (vs.length + 1)))) with h | h
    · exact h
    · exfalso
      have e1 : 4294967296 ^ (vs.length + 1) * 1 ≤ 4294967296 ^ (vs.length + 1) * val (l.drop (j + (vs.length + 1))):=Nat.mul_le_mul_left _ h
      have e2 : 4294967296 ^ j * 4294967296 ^ (vs.length + 1) ≤ 4294967296 ^ j * val (l.drop j):=Nat.mul_le_mul_left _ (by omega)
      have e3 : val vs * 4294967296 ^ (j + 1) ≤ 4294967296 ^ vs.length * 4294967296 ^ (j + 1):=Nat.mul_le_mul_right _ (by omega)
      have e4 : 4294967296 ^ vs.length * 4294967296 ^ (j + 1) = 4294967296 ^ j * 4294967296 ^ (vs.length + 1):=by rw [← Nat.pow_add,← Nat.pow_add];congr 1;omega
      omega
  rw [hR,Nat.mul_zero,Nat.add_zero] at s2 s2'
  rw [hz] at s2'
  rw [s2'] at s1';rw [s2] at s1
  have hlow:=val_lt (hlw.take j)
  have hlow2 : 4294967296 ^ (l.take j).length ≤ 4294967296 ^ j:=Nat.pow_le_pow_right (by decide) (by simp;omega)
  have hm:=Nat.mod_lt (val ((l.drop j).take (vs.length + 1))) hV0
  have hdm:=Nat.div_add_mod (val ((l.drop j).take (vs.length + 1))) (val vs)
  rw [← hg] at hdm
  rw [val_drop_set hq,Nat.mod_eq_of_lt hgB]
  generalize val ((l.drop j).take (vs.length + 1)) % val vs = m at *
  generalize val ((l.drop j).take (vs.length + 1)) = U at *
  generalize val (qq.drop (j + 1)) = Q at *
  generalize val vs = V at *
  generalize val (l.take j) = A at *
  rw [Nat.pow_succ] at hinv
  generalize 4294967296 ^ (l.take j).length = B0 at *
  generalize 4294967296 ^ j = B at *
  constructor
  · rw [s1',← hinv,s1]
    exact ring3 _ _ _ _ _ _ _ _ hdm
  · rw [s1']
    have : B * (m + 1) ≤ B * V:=Nat.mul_le_mul_left _ hm
    rw [Nat.mul_add,Nat.mul_one] at this
    rw [Nat.mul_comm V]
    omega
theorem div_fin {l qq vs : List Nat} {k x y s : Nat} (hk : k = 0) (hvs : val vs = y * 2 ^ s) (hlt : val l < val vs * 4294967296 ^ k) (hinv : val l + val vs * (4294967296 ^ k * val (qq.drop k)) = x * 2 ^ s) : val qq = x / y ∧ val l / 2 ^ s = x % y:=by
  subst hk
  simp only [Nat.pow_zero,Nat.one_mul,Nat.mul_one,List.drop_zero] at hlt hinv
  rw [hvs] at hlt hinv
  have hp : 0 < 2 ^ s:=Nat.pow_pos (by decide)
  have hy : 0 < y:=by
    rcases Nat.eq_zero_or_pos y with h | h
    · subst h;simp at hlt
    · exact h
  have h1 : (x * 2 ^ s) / (y * 2 ^ s) = x / y:=Nat.mul_div_mul_right _ _ hp
  have h2 : (x * 2 ^ s) % (y * 2 ^ s) = x % y * 2 ^ s:=Nat.mul_mod_mul_right _ _ _
  rw [← hinv] at h1 h2
  rw [Nat.add_mul_div_left _ _ (Nat.mul_pos hy hp),Nat.div_eq_of_lt hlt,Nat.zero_add] at h1
  rw [Nat.add_mul_mod_self_left,Nat.mod_eq_of_lt hlt] at h2
  exact ⟨h1,by rw [h2];exact Nat.mul_div_cancel _ hp⟩
end Go.Proofs.YtpbkcbnghhodiaaGreat
namespace Go.Proofs.YtpbkcbnghhodiaaGreat
open Go.RowKit (Below)
section
variable {P : Program} {W0 : World} {G0 : Gh} {N : Nat} {L : List (Nat × MT)} {B : List BX} {a : Act} {w : World} {G : Gh} {o : Oper}
theorem wanted_ofU {ops : Array Oper} {j dj : Nat} {b : Bool} (S : St W0 G0 N L B a w G) (k : Nat) (hg : o.guard = some (j, b)) (hj : (ops[j]?).bind (·.dst) = some dj) (hk : L[k]? = some (dj, .ex undef)) :
    Region.wanted o (yielded ops a.tmps) = false:=by
  have he:=S.e k hk
  simp only [Region.wanted,hg,yielded,hj]
  by_cases hlt : dj < a.tmps.size
  · have hx : a.tmps[dj] = undef:=by simpa [tm,hlt] using he
    simp [hlt,hx,undef]
  · simp [hlt]
theorem St.skipU {ops : Array Oper} {rest : List Oper} {Q : Exit → Act → World → Prop} (S : St W0 G0 N L B a w G) {d j dj : Nat} {b : Bool} (k : Nat) (hd : o.dst = some d) (hg : o.guard = some (j, b)) (hj : (ops[j]?).bind (·.dst) = some dj)
    (hk : L[k]? = some (dj,.ex undef)) (hdN : (decide (d < N)) = true) (hf : fresh d L = true)
    (K : ∀ a' w' G',St W0 G0 N ((d,.ex undef) :: L) B a' w' G' → wpList P ops Q rest a' w') : wpList P ops Q (o :: rest) a w:=by
  refine wpList_step fun K' hK=>?_
  rw [if_neg (by rw [wanted_ofU S k hg hj hk];simp),hd]
  exact hK _ _ (K _ _ _ (S.put (of_decide_eq_true hdN) hf rfl (Nxt.refl S.ok)))
end
theorem up_im {na x s : Nat} {v1 v2 : Value} {W0 : World} {G0 : Gh} (hok : Gok W0 G0) (h1 : (SN na x).t v1 G0) (h2 : (MT.ex (nv .i64 s)).t v2 G0) (hs : s < 32) (hna : na ≤ BIG) :
    Calls Tryz.prog 133 #[v1,v2] W0 (Ret W0 G0 (ARS ((words x).length + 1) (fun l=>wfl l ∧ val l = x * 2 ^ s) ((words x).length + 1))) :=
  Calls.mono (up_ok hok h1 h2 hs) fun _ _ h=>RetB.toRet (by have:=words_length_bits (SN.lt h1);simp only [BIG] at hna;simp only [LIM];omega) (fun _ h=>h.1) h
theorem fill1 {a : Act} {x : Operand} {z : Nat} (h : a.eval x = nv .u32 z) : Instr.fill (fun i=>some (i,1)) (List.replicate 1 (u32 0)).toArray ((#[(0,x)].map fun (i,x)=>(i,a.eval x)).toList) = some (ucells [z]).toArray:=by
  have e : (#[(0,x)].map fun (i,x)=>(i,a.eval x)).toList = [(0,nv .u32 z)]:=by simp [h]
  rw [e];rfl
theorem fill2 {a : Act} {x x2 : Operand} {z z2 : Nat} (h : a.eval x = nv .u32 z) (h2 : a.eval x2 = nv .u32 z2) : Instr.fill (fun i=>some (i,1)) (List.replicate 2 (u32 0)).toArray ((#[(0,x),(1,x2)].map fun (i,x)=>(i,a.eval x)).toList) = some (ucells [z,z2]).toArray:=by
  have e : (#[(0,x),(1,x2)].map fun (i,x)=>(i,a.eval x)).toList = [(0,nv .u32 z),(1,nv .u32 z2)]:=by simp [h,h2]
  rw [e];rfl
theorem DG.init {b v1 v2 vr u0 u1 u2 ur D V U : Nat} (h : DG b v1 v2 vr u0 u1 u2 ur D V U) : U / V ≤ (u0 * b + u1) / v1:=by
  have hb : 0 < b:=by have:=h.h1b;omega
  have hD:=h.D_pos
  have h1 : v1 * (b * D) ≤ V:=by
    rw [h.hV]
    have : v1 * (b * D) = v1 * b * D:=by rw [Nat.mul_assoc]
    rw [this,Nat.add_mul];omega
  have h2 : U / (b * D) = u0 * b + u1:=by
    have h3 : U / D = (u0 * b + u1) * b + u2:=by
      rw [h.hU,Nat.mul_comm,Nat.mul_add_div hD,Nat.div_eq_of_lt h.hur,Nat.add_zero]
    rw [Nat.mul_comm b D,← Nat.div_div_eq_div_mul,h3,Nat.mul_comm _ b,Nat.mul_add_div hb,Nat.div_eq_of_lt h.hu2,Nat.add_zero]
  have h4 : U / V ≤ U / (v1 * (b * D)):=Nat.div_le_div_left h1 (Nat.mul_pos h.h1 (Nat.mul_pos hb hD))
  rw [Nat.mul_comm v1,← Nat.div_div_eq_div_mul,h2] at h4
  exact h4
theorem dg_next {g v r h : Nat} (hg : 0 < g) (e : g * v + r = h) : (g - 1) * v + (r + v) = h:=by
  obtain ⟨g,rfl⟩ : ∃ j,g = j + 1:=⟨g - 1,by omega⟩
  rw [← e,Nat.add_mul,Nat.add_sub_cancel];omega
theorem dg_bound {g v r u0 u1 : Nat} (e : g * v + r = u0 * 4294967296 + u1) (hv : 0 < v) (h0 : u0 < 4294967296) (h1 : u1 < 4294967296) : g < 18446744073709551616:=by
  have:=Nat.le_mul_of_pos_right g hv
  omega
theorem mul32_lt {m n : Nat} (hm : m < 4294967296) (hn : n < 4294967296) : m * n < 18446744073709551616:=Nat.mul_lt_mul'' hm hn
theorem digit_pos {x g Y U R C c : Nat} (hc : c = 1) (h : x + g * Y = U + R * (C + c)) (hx : x < R) : 0 < g:=by
  rcases Nat.eq_zero_or_pos g with e | e
  · subst e;subst hc
    rw [Nat.zero_mul,Nat.mul_add,Nat.mul_one] at h
    omega
  · exact e
theorem seg_lt {l : List Nat} {i n : Nat} (h : wfl l) : val ((l.drop i).take n) < 4294967296 ^ n :=
  Nat.lt_of_lt_of_le (val_lt ((h.drop i).take n)) (Nat.pow_le_pow_right (by decide) (by rw [List.length_take];omega))
theorem div_ub {l vs : List Nat} {k y s nb : Nat} (hk : k = 0) (hvs : val vs = y * 2 ^ s) (hlt : val l < val vs * 4294967296 ^ k) (hs : s < 32) (hy : y < 2 ^ nb) : val l < 2 ^ (nb + 32):=by
  subst hk
  rw [Nat.pow_zero,Nat.mul_one,hvs] at hlt
  exact Nat.lt_trans hlt (mul_lt_pow hy (Nat.pow_lt_pow_right (by decide) hs))
theorem lt_step {m V k : Nat} (hk : 1 ≤ k) (h : m < V * 4294967296 ^ k) : m < V * 4294967296 ^ (k - 1 + 1):=by rw [Nat.sub_add_cancel hk];exact h
theorem inv_step {m V k X : Nat} {qq : List Nat} (hk : 1 ≤ k) (h : m + V * (4294967296 ^ k * val (qq.drop k)) = X) : m + V * (4294967296 ^ (k - 1 + 1) * val (qq.drop (k - 1 + 1))) = X:=by rw [Nat.sub_add_cancel hk];exact h
end Go.Proofs.YtpbkcbnghhodiaaGreat
namespace Go.Proofs.YtpbkcbnghhodiaaGreat
open Go.RowKit (Below)
section
variable {P : Program} {W0 : World} {a : Act} {w : World} {G : Gh} {o : Oper}
theorem OpR.lend {f b n : Nat} {ty : TypeId} {k : Option Nat} {l : List Nat} {args : Array Operand} {ats : Array TypeId} {r : Value} (hok : Gok w G) (ho : o.op = .call { callee := .value (.func f), args := args, argTypes := ats }) (hc : callable P f = true)
    (hb : BX.ok ⟨b,ty,k,.ex (.agg (ucells l).toArray)⟩ W0 w G) (hn : n = l.length) (hlim : l.length ≤ LIM) (hw : wfl l)
    (h : ∀ G1,Gle G G1 → Gok w G1 → (SL l).t (.slice (some ⟨b,0,none⟩) n n) G1 → Calls P f (args.map a.eval) w (Ret w G1 (.ex r))) : OpR P o a w G (.ex r):=by
  obtain ⟨h1,h2,v,hv,hs,hvt⟩:=hb
  simp only at h1 h2 hv hs hvt
  have hle : Gle G (Gput G b (.cells v.cells ty (0,0))):=fun c x hc=>by
    unfold Gput;split
    · rename_i e;subst e;rw [h2] at hc;cases hc
    · exact hc
  have hok1 : Gok w (Gput G b (.cells v.cells ty (0,0))):=fun c x hc=>by
    unfold Gput at hc;split at hc
    · rename_i e;subst e;cases hc;exact hv
    · exact hok c x hc
  have hsl : (SL l).t (.slice (some ⟨b,0,none⟩) n n) (Gput G b (.cells v.cells ty (0,0))):=SL_frozen (u:=v) (ty:=ty) hvt (by simp [Gput]) ⟨hn,Nat.le_refl _⟩ hlim hw
  have hlt : b < w.heap.size:=by
    rcases Nat.lt_or_ge b w.heap.size with hlt | hge
    · exact hlt
    · rw [Array.getElem?_eq_none hge] at hv;cases hv
  have hcall:=h _ hle hok1 hsl
  intro Q K hK
  have hr : (execOp a.eval o).run P w = .ok (.enter f (args.map a.eval)) w:=by
    simp [execOp,ho,resolve,Act.eval,Deferred.ofValue,invoke,run_callFunc hc]
  unfold Oper.wp
  rw [hr]
  refine Calls.mono hcall fun e w' he=>?_
  obtain ⟨u,G',rfl,hu,hN⟩:=he
  refine hK u w' (fun c=>if c = b then none else G' c) hu ⟨hN.below,fun c hc=>?_,fun c x hc=>?_,fun c x hc=>?_⟩
  · by_cases e : c = b
    · subst e;simp [h2]
    · simp only [if_neg e];rw [hN.agree c hc];unfold Gput;rw [if_neg e]
  · have e : c ≠ b:=fun e=>by rw [e,h2] at hc;cases hc
    simp only [if_neg e]
    exact hN.le c x (hle c x hc)
  · by_cases e : c = b
    · subst e;simp at hc
    · simp only [if_neg e] at hc;exact hN.ok c x hc
end
end Go.Proofs.YtpbkcbnghhodiaaGreat
namespace Go.Proofs.YtpbkcbnghhodiaaGreat
open Go.RowKit (Below)
section
variable {P : Program} {o : Oper} {a : Act} {w : World} {G : Gh} {τ : MT} {t : TypeId} {x y z : Operand}
theorem OpR.bld {ps : Array (Nat × Operand)} {cells : Array Value} (hok : Gok w G) (ho : o.op = .build t ps) (hb : P.built t ((ps.map fun (i,x)=>(i,a.eval x)).toList) = some cells) (h : τ.t (.agg cells) G) : OpR P o a w G τ:=by
  refine .run hok (v:=.agg cells) ?_ h
  have:=run_build (P:=P) w t (ps.map fun (i,x)=>(i,a.eval x)) cells hb
  simp only [execOp,ho,Sem.run_bind,this];rfl
theorem OpR.bneq {t' : TypeId} {m n : Bool} (hok : Gok w G) (ho : o.op = .binOp .neq t x y t') (hx : a.eval x = .bool m) (hy : a.eval y = .bool n) (ht : P.underlying t = some .bool)
    (h : τ.t (.bool (!(m == n))) G) : OpR P o a w G τ:=.run hok (by simp only [execOp,ho,hx,hy,eqGuard,Sem.run_bind,Sem.run_pure,Result.andThen_ok];simp;rw [run_neq_bool w t m n ht];rfl) h
theorem OpR.bWR {s : Bool} {l : List Nat} (hok : Gok w G) (ho : o.op = .build t #[(0,x),(1,y)]) (hb : ∀ s A n c,P.built t [(0,.bool s),(1,.slice A n c)] = some #[.bool s,.slice A n c]) (hx : a.eval x = .bool s) (hy : (SL l).t (a.eval y) G) : OpR P o a w G (WR s l):=by
  obtain ⟨A,c,e,h⟩:=hy
  refine .bld hok ho ?_ ⟨_,rfl,A,c,rfl,h⟩
  have e2 : (#[(0,x),(1,y)].map fun (i,x)=>(i,a.eval x)).toList = [(0,.bool s),(1,.slice A l.length c)]:=by simp [hx,e]
  rw [e2,hb]
theorem OpR.bW1 {l : List Nat} (hok : Gok w G) (ho : o.op = .build t #[(1,y)]) (hb : ∀ A n c,P.built t [(1,.slice A n c)] = some #[.bool false,.slice A n c]) (hy : (SL l).t (a.eval y) G) : OpR P o a w G (WR false l):=by
  obtain ⟨A,c,e,h⟩:=hy
  refine .bld hok ho ?_ ⟨_,rfl,A,c,rfl,h⟩
  have e2 : (#[(1,y)].map fun (i,x)=>(i,a.eval x)).toList = [(1,.slice A l.length c)]:=by simp [e]
  rw [e2,hb]
theorem OpR.bW0 (hok : Gok w G) (ho : o.op = .build t #[]) (hb : P.built t [] = some #[.bool false,.slice none 0 0]) : OpR P o a w G (WR false []) :=
  .bld hok ho (by simpa using hb) ⟨_,rfl,SL.nil⟩
theorem OpR.bQR {s : Bool} {p q : List Nat} (hok : Gok w G) (ho : o.op = .build t #[(0,x),(1,y),(2,z)]) (hb : ∀ s A n c A2 n2 c2,P.built t [(0,.bool s),(1,.slice A n c),(2,.slice A2 n2 c2)] = some #[.bool s,.slice A n c,.slice A2 n2 c2]) (hx : a.eval x = .bool s) (hy : (SL p).t (a.eval y) G) (hz : (SL q).t (a.eval z) G) : OpR P o a w G (QR s p q):=by
  obtain ⟨A,c,e,h⟩:=hy
  obtain ⟨A2,c2,e',h'⟩:=hz
  refine .bld hok ho ?_ ⟨_,_,rfl,⟨A,c,rfl,h⟩,⟨A2,c2,rfl,h'⟩⟩
  have e2 : (#[(0,x),(1,y),(2,z)].map fun (i,x)=>(i,a.eval x)).toList = [(0,.bool s),(1,.slice A p.length c),(2,.slice A2 q.length c2)]:=by simp [hx,e,e']
  rw [e2,hb]
theorem OpR.bQ0 (hok : Gok w G) (ho : o.op = .build t #[]) (hb : P.built t [] = some #[.bool false,.slice none 0 0,.slice none 0 0]) : OpR P o a w G (QR false [] []) :=
  .bld hok ho (by simpa using hb) ⟨_,_,rfl,SL.nil,SL.nil⟩
end
def sg (s : Bool) (m : Nat) : Int:=if s then -(m : Int) else m
def cmpZ (x y : Int) : Int:=if x < y then -1 else if y < x then 1 else 0
section
variable {v : Value} {G : Gh} {n m : Nat} {z x y : Int} {s b : Bool} {l : List Nat}
theorem WR.toW (h : (WR s l).t v G) (e : wval s l = z ∧ z.natAbs < 2 ^ n) : (W n z).t v G:=⟨e.2,s,l,e.1,h⟩
theorem WR.whole (h : (WR b (words m)).t v G) (e : b = (s && decide (0 < (words m).length))) (hm : m < 2 ^ n) : (WC n (sg s m)).t v G:=by
  have e1 : (sg s m).natAbs = m:=by unfold sg;split <;> simp
  refine ⟨by rw [e1];exact hm,?_⟩
  rw [e1]
  have e2 : decide (sg s m < 0) = b:=by
    rw [e]
    by_cases h0 : m = 0
    · subst h0;simp [sg,words_zero]
    · have:=len_pos h0
      cases s <;> simp [sg,this] <;> omega
  rw [e2];exact h
theorem WR.zero (h : (WR false []).t v G) (e : z = 0) : (WC n z).t v G:=by
  subst e
  exact ⟨Nat.pow_pos (by decide),by simpa [words_zero] using h⟩
theorem WR.lim (h : (WR s l).t v G) : l.length ≤ LIM:=by obtain ⟨_,_,h⟩:=h;exact SL.lim h
theorem WR.wf (h : (WR s l).t v G) : wfl l:=by obtain ⟨_,_,h⟩:=h;exact SL.wf h
theorem wok_nil (h : l.length = 0) : (!s) = wok s l:=by rw [List.length_eq_zero_iff.1 h];rfl
theorem wok_last (h : ¬ l.length = 0) : decide (dig l (l.length - 1) ≠ 0) = wok s l:=by
  have hn : l ≠ []:=fun e=>h (by rw [e];rfl)
  unfold wok;rw [if_neg hn]
  unfold canl dig
  rw [List.getLast?_eq_getElem?]
  have hlt : l.length - 1 < l.length:=by omega
  simp [hlt]
  generalize l[l.length - 1] = d
  by_cases hd : d = 0 <;> simp [hd]
theorem not_true_of {b : Bool} (h : (!b) = true) : b = false:=by cases b <;> simp_all
theorem not_false_of {b : Bool} (h : (!b) = false) : b = true:=by cases b <;> simp_all
theorem not_wok (hv : wval s l = z) (h : wok s l = false) : z = 0:=by unfold wval at hv;rw [h] at hv;simpa using hv.symm
theorem mag_of (hw : wfl l) (hv : wval s l = z) (h : wok s l = true) : l = words z.natAbs:=hv ▸ (wval_digits hw h).1
theorem neg_of (hw : wfl l) (hv : wval s l = z) (h : wok s l = true) : s = decide (z < 0):=hv ▸ (wval_digits hw h).2
theorem len_zero {m : Nat} (h : (words m).length = 0) : m = 0:=words_nil_iff.1 (List.length_eq_zero_iff.1 h)
theorem len_zero_iff {m : Nat} : (words m).length = 0 ↔ m = 0:=⟨len_zero,fun h=>by rw [h,words_zero];rfl⟩
theorem len_pos_iff {m : Nat} : 0 < (words m).length ↔ m ≠ 0:=by have:=@len_zero_iff m;omega
theorem wok_of_ne (hv : wval s l = z) (hz : z ≠ 0) : wok s l = true:=by
  cases h : wok s l
  · exact absurd (not_wok hv h) hz
  · rfl
theorem sign_zero (h : (words z.natAbs).length = 0) : ((0 : Nat) : Int) = z.sign:=by
  have : z = 0:=by have:=len_zero h;omega
  subst this;rfl
theorem sign_neg (hw : wfl l) (hv : wval s l = z) (h : ¬ (words z.natAbs).length = 0) (hs : s = true) : -1 = z.sign:=by
  have hz : z ≠ 0:=fun e=>h (by rw [e];simp [words_zero])
  have:=neg_of hw hv (wok_of_ne hv hz)
  rw [hs] at this
  have h1 : z < 0:=of_decide_eq_true this.symm
  exact (Int.sign_eq_neg_one_of_neg h1).symm
theorem sign_pos (hw : wfl l) (hv : wval s l = z) (h : ¬ (words z.natAbs).length = 0) (hs : s = false) : ((1 : Nat) : Int) = z.sign:=by
  have hz : z ≠ 0:=fun e=>h (by rw [e];simp [words_zero])
  have:=neg_of hw hv (wok_of_ne hv hz)
  rw [hs] at this
  have h1 : ¬ z < 0:=of_decide_eq_false this.symm
  exact (Int.sign_eq_one_of_pos (by omega)).symm
theorem cmpN_bd (m n : Nat) : -1 ≤ cmpN m n ∧ cmpN m n ≤ 1:=by unfold cmpN;split <;> (try split) <;> omega
theorem cmpN_ge {m n : Nat} : cmpN m n ≥ 0 ↔ n ≤ m:=by unfold cmpN;split <;> (try split) <;> omega
theorem sgn_cases (z : Int) : (z < 0 ∧ z.sign = -1) ∨ (z = 0 ∧ z.sign = 0) ∨ (0 < z ∧ z.sign = 1):=by
  rcases Int.lt_trichotomy z 0 with h | h | h
  · exact .inl ⟨h,Int.sign_eq_neg_one_of_neg h⟩
  · subst h;exact .inr (.inl ⟨rfl,rfl⟩)
  · exact .inr (.inr ⟨h,Int.sign_eq_one_of_pos h⟩)
theorem cmp_lt (h : x.sign < y.sign) : -1 = cmpZ x y:=by
  have:=sgn_cases x;have:=sgn_cases y
  unfold cmpZ;rw [if_pos (by omega)]
theorem cmp_gt (h0 : x.sign ≠ y.sign) (h : ¬ x.sign < y.sign) : ((1 : Nat) : Int) = cmpZ x y:=by
  have:=sgn_cases x;have:=sgn_cases y
  unfold cmpZ;rw [if_neg (by omega),if_pos (by omega)];rfl
theorem cmp_neg (h0 : ¬ x.sign ≠ y.sign) (h : x < 0) : -(cmpN x.natAbs y.natAbs) = cmpZ x y:=by
  have:=sgn_cases x;have:=sgn_cases y
  unfold cmpZ cmpN
  split <;> split <;> (try split) <;> (try split) <;> omega
theorem cmp_pos (h0 : ¬ x.sign ≠ y.sign) (h : ¬ x < 0) : cmpN x.natAbs y.natAbs = cmpZ x y:=by
  have:=sgn_cases x;have:=sgn_cases y
  unfold cmpZ cmpN
  split <;> split <;> (try split) <;> (try split) <;> omega
theorem neg_sg : sg (!decide (z < 0)) z.natAbs = -z:=by
  unfold sg;by_cases h : z < 0 <;> simp [h] <;> omega
theorem add_same (h : (decide (x < 0) == decide (y < 0)) = true) : sg (decide (x < 0)) (x.natAbs + y.natAbs) = x + y:=by
  unfold sg;by_cases h1 : x < 0 <;> by_cases h2 : y < 0 <;> simp [h1,h2] at h ⊢ <;> omega
theorem add_diff (h : (decide (x < 0) == decide (y < 0)) = false) (hle : y.natAbs ≤ x.natAbs) : sg (decide (x < 0)) (x.natAbs - y.natAbs) = x + y:=by
  unfold sg;by_cases h1 : x < 0 <;> by_cases h2 : y < 0 <;> simp [h1,h2] at h ⊢ <;> omega
theorem add_diff2 (h : (decide (x < 0) == decide (y < 0)) = false) (hle : x.natAbs ≤ y.natAbs) : sg (decide (y < 0)) (y.natAbs - x.natAbs) = x + y:=by
  unfold sg;by_cases h1 : x < 0 <;> by_cases h2 : y < 0 <;> simp [h1,h2] at h ⊢ <;> omega
theorem mul_sg : sg (!(decide (x < 0) == decide (y < 0))) (x.natAbs * y.natAbs) = x * y:=by
  have e : ((x.natAbs * y.natAbs : Nat) : Int) = (x.natAbs : Int) * (y.natAbs : Int):=by simp
  unfold sg
  by_cases h1 : x < 0 <;> by_cases h2 : y < 0
  · simp only [h1,h2];simp only [decide_true,BEq.rfl,Bool.not_true,Bool.false_eq_true,if_false]
    rw [e,show (x.natAbs : Int) = -x by omega,show (y.natAbs : Int) = -y by omega,Int.neg_mul_neg]
  · simp [h1,h2]
    rw [show (x.natAbs : Int) = -x by omega,show (y.natAbs : Int) = y by omega,Int.neg_mul,Int.neg_neg]
  · simp [h1,h2]
    rw [show (x.natAbs : Int) = x by omega,show (y.natAbs : Int) = -y by omega,Int.mul_neg,Int.neg_neg]
  · simp [h1,h2]
    rw [show (x.natAbs : Int) = x by omega,show (y.natAbs : Int) = y by omega]
theorem err_is {t : TypeId} {k : Nat} {n : Int} (h : n = (k : Int)) (hk : k ≠ 0) : Value.iface t (nv .i64 k) = errV t n:=by
  subst h;unfold errV;rw [if_neg (by omega)]
theorem err_no {t : TypeId} {n : Int} (h : n = 0) : Value.nilIface = errV t n:=by subst h;rfl
theorem abs_ne (hy : ¬ (words y.natAbs).length = 0) : y ≠ 0:=fun e=>hy (by rw [e];simp [words_zero])
theorem ediv_of {q r : Int} (hy : y ≠ 0) (h : r + y * q = x) (h0 : 0 ≤ r) (h1 : r < y.natAbs) : q = x / y ∧ r = x % y:=by
  rcases Int.lt_trichotomy y 0 with h2 | h2 | h2
  · have:=(Int.ediv_emod_unique' h2).2 ⟨h,h0,by omega⟩
    exact ⟨this.1.symm,this.2.symm⟩
  · exact absurd h2 hy
  · have:=(Int.ediv_emod_unique h2).2 ⟨h,h0,by omega⟩
    exact ⟨this.1.symm,this.2.symm⟩
theorem abs_dm (x y : Int) : (x.natAbs : Int) = (y.natAbs : Int) * ((x.natAbs / y.natAbs : Nat) : Int) + ((x.natAbs % y.natAbs : Nat) : Int):=by
  have h:=Nat.div_add_mod x.natAbs y.natAbs
  have : ((y.natAbs * (x.natAbs / y.natAbs) + x.natAbs % y.natAbs : Nat) : Int) = (x.natAbs : Int):=by rw [h]
  rw [← this,Int.natCast_add,Int.natCast_mul]
theorem qd2 (hy : y ≠ 0) (h : ¬ x < 0 ∨ x.natAbs % y.natAbs = 0) : sg (!(decide (x < 0) == decide (y < 0))) (x.natAbs / y.natAbs) = x / y ∧ sg false (x.natAbs % y.natAbs) = x % y:=by
  have hd:=abs_dm x y
  have hlt:=Nat.mod_lt x.natAbs (show 0 < y.natAbs by omega)
  generalize x.natAbs / y.natAbs = q at *
  generalize x.natAbs % y.natAbs = r at *
  refine ediv_of hy ?_ (by simp [sg]) (by simp [sg];omega)
  unfold sg
  by_cases h1 : x < 0 <;> by_cases h2 : y < 0 <;> simp only [h1,h2,decide_true,decide_false,BEq.rfl,Bool.not_true,Bool.false_eq_true,if_false,show (true == false) = false from rfl,show (false == true) = false from rfl,Bool.not_false,if_true,Int.mul_neg]
  · have e : (y.natAbs : Int) = -y:=by omega
    rw [e,Int.neg_mul] at hd;omega
  · have e : (y.natAbs : Int) = y:=by omega
    rw [e] at hd;omega
  · have e : (y.natAbs : Int) = -y:=by omega
    rw [e,Int.neg_mul] at hd;omega
  · have e : (y.natAbs : Int) = y:=by omega
    rw [e] at hd;omega
theorem qd1 (hy : y ≠ 0) (h : x < 0) (hr : 0 < x.natAbs % y.natAbs) : sg (!(decide (x < 0) == decide (y < 0))) (x.natAbs / y.natAbs + 1) = x / y ∧ sg false (y.natAbs - x.natAbs % y.natAbs) = x % y:=by
  have hd:=abs_dm x y
  have hlt:=Nat.mod_lt x.natAbs (show 0 < y.natAbs by omega)
  generalize x.natAbs / y.natAbs = q at *
  generalize x.natAbs % y.natAbs = r at *
  refine ediv_of hy ?_ (by simp [sg]) (by simp [sg];omega)
  unfold sg
  by_cases h2 : y < 0 <;> simp only [h,h2,decide_true,decide_false,BEq.rfl,Bool.not_true,Bool.false_eq_true,if_false,show (true == false) = false from rfl,Bool.not_false,if_true,Int.mul_neg,Int.natCast_add,Int.mul_add,Int.mul_one,Int.cast_ofNat_Int]
  · have e : (y.natAbs : Int) = -y:=by omega
    rw [e,Int.neg_mul] at hd;omega
  · have e : (y.natAbs : Int) = y:=by omega
    rw [e] at hd;omega
theorem qd_bound (hx : x.natAbs < 2 ^ n) (hr : 0 < x.natAbs % y.natAbs) (hy : y ≠ 0) : x.natAbs / y.natAbs + 1 < 2 ^ n:=by
  have hd:=Nat.div_add_mod x.natAbs y.natAbs
  have h1 : x.natAbs / y.natAbs * 1 ≤ y.natAbs * (x.natAbs / y.natAbs):=by rw [Nat.mul_comm];exact Nat.mul_le_mul_right _ (by omega)
  omega
theorem words_one : [1] = words 1:=by
  rw [← words_val (l:=[1]) (by simp [wfl]) (by simp [canl])];simp [val]
theorem gcd_next {p r g : Nat} (h : Nat.gcd p r = g) : Nat.gcd r (p % r) = g:=by rw [← h,Nat.gcd_comm p r,Nat.gcd_rec r p,Nat.gcd_comm]
theorem gcd_end {p r g : Nat} (h : Nat.gcd p r = g) (h0 : ¬ 0 < (words r).length) : sg false p = (g : Int):=by
  have : r = 0:=len_zero (by omega)
  subst this
  rw [Nat.gcd_zero_right] at h
  simp [sg,h]
theorem of_wrap {z : Int} (hz : -9223372036854775808 ≤ z ∧ z ≤ 9223372036854775807) : IntKind.u64.wrap z = (((z % 18446744073709551616).toNat : Nat) : Int):=by
  rw [show IntKind.u64.wrap z = z % 18446744073709551616 from by simp [IntKind.wrap,IntKind.bits,IntKind.signed]]
  omega
theorem of_neg {m : Nat} (h0 : 0 < m) (h : m < 18446744073709551616) : IntKind.u64.wrap (0 - (m : Int)) = ((18446744073709551616 - m : Nat) : Int):=by
  rw [show IntKind.u64.wrap (0 - (m : Int)) = (0 - (m : Int)) % 18446744073709551616 from by simp [IntKind.wrap,IntKind.bits,IntKind.signed]]
  omega
end
end Go.Proofs.YtpbkcbnghhodiaaGreat
namespace Go.Proofs.YtpbkcbnghhodiaaGreat
open Go.RowKit (Below)
def QV (n : Nat) (x : Rat) : MT:=⟨fun v G=>1 ≤ n ∧ ∃ s p q,qval s p q = x ∧ val p < 2 ^ n ∧ val q < 2 ^ n ∧ (QR s p q).t v G,fun hle ⟨h,s,p,q,h1,h2,h3,h4⟩=>⟨h,s,p,q,h1,h2,h3,(QR s p q).mono hle h4⟩⟩
instance {n : Nat} {x : Rat} : Shp (QV n x) (some 3):=⟨fun {_ _} ⟨_,_,_,_,_,_,_,h⟩=>Shp.sh h⟩
def cmpQ (x y : Rat) : Int:=if x < y then -1 else if y < x then 1 else 0
section
variable {v : Value} {G : Gh} {n n' m : Nat} {z z' : Int} {x y x' : Rat} {s b : Bool} {p q l : List Nat}
theorem one_le_of_lt {d n : Nat} (hd : d ≠ 0) (h : d < 2 ^ n) : 1 ≤ n:=by
  rcases Nat.eq_zero_or_pos n with e | e
  · subst e;simp at h;omega
  · exact e
theorem one_lt_pow {n : Nat} (h : 1 ≤ n) : 1 < 2 ^ n:=Nat.lt_of_lt_of_le (by decide : 1 < 2 ^ 1) (Nat.pow_le_pow_right (by decide) h)
theorem sgn_dec {z : Int} : decide (z.sign < 0) = decide (z < 0):=by have:=sgn_cases z;rw [Bool.eq_iff_iff];simp only [decide_eq_true_eq];omega
theorem QC.toQV (h : (QC n x).t v G) : (QV n x).t v G:=by
  have h1:=h.1
  refine ⟨one_le_of_lt x.den_nz h1.2,_,_,_,qval_can x,by rw [val_words];exact h1.1,?_,h.2⟩
  unfold dwords;split
  · exact Nat.pow_pos (by decide)
  · rw [val_words];exact h1.2
theorem QV.up (h : (QV n x).t v G) (hn : n ≤ n') : (QV n' x).t v G:=by
  obtain ⟨h0,s,p,q,h1,h2,h3,h4⟩:=h
  have:=Nat.pow_le_pow_right (show 0 < 2 by decide) hn
  exact ⟨by omega,s,p,q,h1,by omega,by omega,h4⟩
theorem QV.eq (h : (QV n x).t v G) (e : x = x') : (QV n x').t v G:=e ▸ h
theorem WC.cast (h : (WC n z).t v G) (e : z = z') (hm : z'.natAbs < 2 ^ n') : (WC n' z').t v G:=⟨hm,e ▸ h.2⟩
theorem WC.f0 {k : Option Nat} (h : (WC n z).t v G) (hs : Shaped k v) : ∃ u,v.cells[0]? = some u ∧ (MT.ex (.bool (decide (z < 0)))).t u G:=WR.f0 h.2 hs
theorem WC.f1 {k : Option Nat} (h : (WC n z).t v G) (hs : Shaped k v) : ∃ u,v.cells[1]? = some u ∧ (SL (words z.natAbs)).t u G:=WR.f1 h.2 hs
theorem QR.lim (h : (QR s p q).t v G) : p.length ≤ LIM ∧ q.length ≤ LIM:=by obtain ⟨_,_,_,h1,h2⟩:=h;exact ⟨SL.lim h1,SL.lim h2⟩
theorem QR.wf (h : (QR s p q).t v G) : wfl p ∧ wfl q:=by obtain ⟨_,_,_,h1,h2⟩:=h;exact ⟨SL.wf h1,SL.wf h2⟩
theorem qok_nil (h : p.length = 0) (h2 : q.length = 0) : (!s) = qok s p q:=by
  have e1:=List.length_eq_zero_iff.1 h;have e2:=List.length_eq_zero_iff.1 h2
  subst e1 e2;simp [qok]
theorem ne_of_len (h : ¬ l.length = 0) : l ≠ []:=fun e=>h (by rw [e];rfl)
theorem wok_f (l : List Nat) : wok false l = (if l = [] then true else canl l):=by unfold wok;rfl
theorem qok_f1 (h : (p.length = 0 ∨ q.length = 0) ∧ ¬ (p.length = 0 ∧ q.length = 0)) : false = qok s p q:=by
  unfold qok
  rw [if_neg (fun e=>h.2 ⟨by rw [e.1];rfl,by rw [e.2];rfl⟩)]
  rcases h.1 with e | e
  · simp [List.length_eq_zero_iff.1 e]
  · simp [List.length_eq_zero_iff.1 e]
theorem qok_f2 (h : (!wok false p) = true) : false = qok s p q:=by
  rw [wok_f] at h
  by_cases e : p = []
  · simp [e] at h
  · simp [e] at h;unfold qok;rw [if_neg (fun e2=>e e2.1)];simp [h]
theorem qok_f3 (h : (!wok false q) = true) : false = qok s p q:=by
  rw [wok_f] at h
  by_cases e : q = []
  · simp [e] at h
  · simp [e] at h;unfold qok;rw [if_neg (fun e2=>e e2.2)];simp [h]
theorem wval_abs_le : (wval s l).natAbs ≤ val l:=by unfold wval;split <;> (try split) <;> omega
theorem wval_f (h : (!wok false l) = false) : (wval false l).natAbs = val l:=by unfold wval;rw [not_false_of h];simp
theorem cmpZ_eq {a b : Int} : cmpZ a b = 0 ↔ a = b:=by unfold cmpZ;split <;> (try split) <;> omega
theorem qok_t (h1 : ¬ p.length = 0) (h2 : ¬ q.length = 0) (h3 : (!wok false p) = false) (h4 : (!wok false q) = false) : decide (cmpZ ((Nat.gcd (wval false p).natAbs (wval false q).natAbs : Nat) : Int) 1 = 0) = qok s p q:=by
  have e3:=not_false_of h3;have e4:=not_false_of h4
  rw [wok_f,if_neg (ne_of_len h1)] at e3
  rw [wok_f,if_neg (ne_of_len h2)] at e4
  rw [wval_f h3,wval_f h4]
  unfold qok
  rw [if_neg (fun e=>ne_of_len h1 e.1)]
  simp only [ne_of_len h1,ne_of_len h2,e3,e4,ne_eq,not_false_eq_true,decide_true,Bool.and_true,Bool.true_and]
  rw [Bool.eq_iff_iff]
  simp only [decide_eq_true_eq,beq_iff_eq,cmpZ_eq]
  omega
theorem qval_not (h : qok s p q = false) : qval s p q = 0:=by unfold qval;rw [h];simp
theorem qval_nil (h : p.length = 0) : qval s p q = 0:=by unfold qval;rw [List.length_eq_zero_iff.1 h];simp
theorem qval_parts (hw : wfl p ∧ wfl q) (hok : qok s p q = true) (hp : ¬ p.length = 0) : q ≠ [] ∧ canl p = true ∧ canl q = true ∧ (qval s p q).num = sg s (val p) ∧ (qval s p q).den = val q:=by
  have hp':=ne_of_len hp
  have h:=hok
  unfold qok at h
  rw [if_neg (fun e=>hp' e.1)] at h
  simp only [Bool.and_eq_true,decide_eq_true_eq,beq_iff_eq] at h
  obtain ⟨⟨⟨⟨_,h2⟩,h3⟩,h4⟩,h5⟩:=h
  have hq0 : val q ≠ 0:=fun e=>h2 (val_eq_zero h4 e)
  refine ⟨h2,h3,h4,?_,?_⟩ <;> unfold qval <;> rw [if_pos ⟨hok,hp'⟩]
  · rw [Rat.num_mkRat,if_neg hq0]
    have : Nat.gcd (val q) (if s = true then -(val p : Int) else val p).natAbs = 1:=by
      rw [Nat.gcd_comm];cases s <;> simpa using h5
    unfold sg
    rw [this];simp
  · rw [Rat.den_mkRat,if_neg hq0]
    have : Nat.gcd (val q) (if s = true then -(val p : Int) else val p).natAbs = 1:=by
      rw [Nat.gcd_comm];cases s <;> simpa using h5
    rw [this];simp
theorem sg_abs {m : Nat} : (sg s m).natAbs = m:=by unfold sg;split <;> simp
theorem part_num (h : (WR s p).t v G) (hw : wfl p ∧ wfl q) (hv : qval s p q = x) (hok : qok s p q = true) (hp : ¬ p.length = 0) (hb : val p < 2 ^ n) : (WC n x.num).t v G:=by
  obtain ⟨_,h3,_,h5,_⟩:=qval_parts hw hok hp
  rw [hv] at h5
  have hp0 : val p ≠ 0:=fun e=>ne_of_len hp (val_eq_zero h3 e)
  refine ⟨by rw [h5,sg_abs];exact hb,?_⟩
  rw [h5,sg_abs,words_val hw.1 h3]
  have : decide (sg s (val p) < 0) = s:=by cases s <;> simp [sg] <;> omega
  rw [this];exact h
theorem part_den (h : (WR false q).t v G) (hw : wfl p ∧ wfl q) (hv : qval s p q = x) (hok : qok s p q = true) (hp : ¬ p.length = 0) (hb : val q < 2 ^ n) : (WC n (x.den : Int)).t v G:=by
  obtain ⟨_,_,h4,_,h6⟩:=qval_parts hw hok hp
  rw [hv] at h6
  refine ⟨by rw [Int.natAbs_natCast,h6];exact hb,?_⟩
  rw [Int.natAbs_natCast,h6,words_val hw.2 h4]
  have : decide (((val q : Nat) : Int) < 0) = false:=by simp
  rw [this];exact h
theorem frac_zero {a b : Int} (h : a.sign = 0) : Rat.divInt a b = 0:=by
  have : a = 0:=by have:=sgn_cases a;omega
  subst this;exact Rat.zero_divInt b
theorem QC.zero (h : (QR false [] []).t v G) (e : x = 0) (hn : 1 ≤ n) : (QC n x).t v G:=by
  subst e
  refine ⟨⟨Nat.pow_pos (by decide),?_⟩,?_⟩
  · show 1 < 2 ^ n
    exact Nat.lt_of_lt_of_le (by decide) (Nat.pow_le_pow_right (show 0 < 2 by decide) hn)
  · simpa [dwords,words_zero,show (0 : Rat).num = 0 from rfl] using h
theorem frac_num {a b : Int} (hb : b ≠ 0) : (Rat.divInt a b).num.natAbs = a.natAbs / Nat.gcd a.natAbs b.natAbs:=by
  rw [Rat.num_divInt]
  have hd : ((b.gcd a : Nat) : Int) ∣ b.sign * a:=Int.dvd_mul_of_dvd_right (Int.gcd_dvd_right _ _)
  rw [Int.natAbs_ediv_of_dvd hd,Int.natAbs_mul,Int.natAbs_natCast]
  have : b.sign.natAbs = 1:=by rcases sgn_cases b with h | h | h <;> omega
  rw [this,Nat.one_mul,Int.gcd,Nat.gcd_comm]
theorem frac_den {a b : Int} (hb : b ≠ 0) : (Rat.divInt a b).den = b.natAbs / Nat.gcd a.natAbs b.natAbs:=by
  rw [Rat.den_divInt,if_neg hb,Int.gcd,Nat.gcd_comm]
theorem frac_neg {a b : Int} (ha : a ≠ 0) (hb : b ≠ 0) : Rat.divInt a b < 0 ↔ (if b < 0 then -a else a) < 0:=by
  rw [← num_neg_iff,Rat.num_divInt]
  have hd : ((b.gcd a : Nat) : Int) ∣ b.sign * a:=Int.dvd_mul_of_dvd_right (Int.gcd_dvd_right _ _)
  have hg : 0 < ((b.gcd a : Nat) : Int):=by have:=Int.gcd_pos_of_ne_zero_left a hb;omega
  obtain ⟨c,hc⟩:=hd
  rw [hc,Int.mul_ediv_cancel_left _ (by omega)]
  have e : (if b < 0 then -a else a) = b.sign * a:=by
    rcases sgn_cases b with h | h | h
    · rw [if_pos h.1,h.2];omega
    · exact absurd h.1 hb
    · rw [if_neg (by omega),h.2];omega
  rw [e,hc]
  constructor
  · intro h;exact Int.mul_neg_of_pos_of_neg hg h
  · intro h;exact Int.not_le.1 fun h2=>absurd (Int.mul_nonneg (Int.le_of_lt hg) h2) (Int.not_le.2 h)
theorem abs_ediv {a : Int} {g : Nat} (h : 0 ≤ a) : (a / (g : Int)).natAbs = a.natAbs / g:=by
  obtain ⟨k,rfl⟩:=Int.eq_ofNat_of_zero_le h
  rw [← Int.natCast_ediv,Int.natAbs_natCast,Int.natAbs_natCast]
theorem QC.form {a b X Y : Int} {g : Nat} {sn : Bool} (h : (QR sn (words (X / (g : Int)).natAbs) (words (Y / (g : Int)).natAbs)).t v G) (ha : a ≠ 0) (hb : b ≠ 0) (hX : 0 ≤ X ∧ X.natAbs = a.natAbs) (hY : 0 ≤ Y ∧ Y.natAbs = b.natAbs)
    (hg : g = Nat.gcd a.natAbs b.natAbs) (hs : sn = decide ((if b < 0 then -a else a) < 0)) (hn : a.natAbs < 2 ^ n) (hm : b.natAbs < 2 ^ n) : (QC n (Rat.divInt a b)).t v G:=by
  rw [abs_ediv hX.1,abs_ediv hY.1,hX.2,hY.2,hg,← frac_num hb,← frac_den hb] at h
  have hne : Rat.divInt a b ≠ 0:=fun e=>by
    have h1 : (Rat.divInt a b).num.natAbs = 0:=by rw [e];rfl
    rw [frac_num hb] at h1
    have h2 : Nat.gcd a.natAbs b.natAbs ∣ a.natAbs:=Nat.gcd_dvd_left _ _
    have h3:=Nat.div_mul_cancel h2
    rw [h1,Nat.zero_mul] at h3;omega
  refine ⟨⟨?_,?_⟩,?_⟩
  · rw [frac_num hb];exact Nat.lt_of_le_of_lt (Nat.div_le_self _ _) hn
  · rw [frac_den hb];exact Nat.lt_of_le_of_lt (Nat.div_le_self _ _) hm
  · unfold dwords;rw [if_neg hne]
    have : sn = decide (Rat.divInt a b < 0):=by rw [hs];exact decide_eq_decide.2 (frac_neg ha hb).symm
    rw [← this];exact h
theorem frac_mul : Rat.divInt (x.num * y.num) ((x.den : Int) * (y.den : Int)) = x * y:=by
  rw [← Rat.divInt_mul_divInt,Rat.num_divInt_den,Rat.num_divInt_den]
theorem den_ne (x : Rat) : (x.den : Int) ≠ 0:=by have:=x.den_nz;omega
theorem frac_add : Rat.divInt (x.num * (y.den : Int) + y.num * (x.den : Int)) ((x.den : Int) * (y.den : Int)) = x + y:=by
  rw [← Rat.divInt_add_divInt _ _ (den_ne x) (den_ne y),Rat.num_divInt_den,Rat.num_divInt_den]
theorem frac_neg' : Rat.divInt (-x.num) (x.den : Int) = -x:=by rw [← Rat.neg_divInt,Rat.num_divInt_den]
theorem frac_one {a : Int} : Rat.divInt a 1 = (a : Rat):=by
  have:=Rat.num_divInt_den (a : Rat)
  simpa using this
theorem cmp_frac : cmpZ (x.num * (y.den : Int)) (y.num * (x.den : Int)) = cmpQ x y:=by
  unfold cmpZ cmpQ
  simp only [Rat.lt_iff]
end
end Go.Proofs.YtpbkcbnghhodiaaGreat
namespace Go.Proofs.YtpbkcbnghhodiaaGreat
open Go.RowKit (Below)
theorem OpR.lend2 {P : Program} {W0 : World} {a : Act} {w : World} {G : Gh} {o : Oper} {f b n : Nat} {ty : TypeId} {k : Option Nat} {l : List Nat} {x y : Operand} {ats : Array TypeId} {r : Value} (hok : Gok w G) (ho : o.op = .call { callee := .value (.func f), args := #[x, y], argTypes := ats }) (hc : callable P f = true)
    (hb : BX.ok ⟨b,ty,k,.ex (.agg (ucells l).toArray)⟩ W0 w G) (hn : n = l.length) (hlim : l.length ≤ LIM) (hw : wfl l)
    (h : ∀ G1,Gle G G1 → Gok w G1 → (SL l).t (.slice (some ⟨b,0,none⟩) n n) G1 → Calls P f #[a.eval x,a.eval y] w (Ret w G1 (.ex r))) : OpR P o a w G (.ex r) :=
  .lend hok ho hc hb hn hlim hw fun G1 h1 h2 h3=>by simpa using h G1 h1 h2 h3
theorem SL_prefix {b n c : Nat} {ty : TypeId} {u v : Value} {G : Gh} {q : List Nat} (h : (MT.ex (.agg (ucells q).toArray)).t u G) (hg : G b = some (.cells u.cells ty (0,0))) (hn : n ≤ q.length) (hc : n ≤ c) (hlim : n ≤ LIM) (hw : wfl q) (hv : v = .slice (some ⟨b,0,none⟩) n c) : (SL (q.take n)).t v G:=by
  cases h
  subst hv
  have hl : (q.take n).length = n:=by rw [List.length_take];omega
  refine ⟨_,c,by rw [hl],by omega,by omega,hw.take n,fun i x hi=>⟨b,0,rfl,?_⟩⟩
  have hlt : i < n:=by have:=(List.getElem?_eq_some_iff.1 hi).1;omega
  rw [List.getElem?_take,if_pos hlt] at hi
  simp [Gc,hg,Value.cells,ucells,hi]
theorem OpR.lendP {P : Program} {W0 : World} {a : Act} {w : World} {G : Gh} {o : Oper} {f b n c : Nat} {ty : TypeId} {k : Option Nat} {q : List Nat} {x y : Operand} {ats : Array TypeId} {r : Value} (hok : Gok w G) (ho : o.op = .call { callee := .value (.func f), args := #[x, y], argTypes := ats }) (hc : callable P f = true)
    (hb : BX.ok ⟨b,ty,k,.ex (.agg (ucells q).toArray)⟩ W0 w G) (hn : n ≤ q.length) (hnc : n ≤ c) (hlim : n ≤ LIM) (hw : wfl q)
    (h : ∀ G1,Gle G G1 → Gok w G1 → (SL (q.take n)).t (.slice (some ⟨b,0,none⟩) n c) G1 → Calls P f #[a.eval x,a.eval y] w (Ret w G1 (.ex r))) : OpR P o a w G (.ex r):=by
  obtain ⟨h1,h2,v,hv,hs,hvt⟩:=hb
  simp only at h1 h2 hv hs hvt
  have hle : Gle G (Gput G b (.cells v.cells ty (0,0))):=fun c x hc=>by
    unfold Gput;split
    · rename_i e;subst e;rw [h2] at hc;cases hc
    · exact hc
  have hok1 : Gok w (Gput G b (.cells v.cells ty (0,0))):=fun c x hc=>by
    unfold Gput at hc;split at hc
    · rename_i e;subst e;cases hc;exact hv
    · exact hok c x hc
  have hcall:=h _ hle hok1 (SL_prefix (u:=v) (ty:=ty) hvt (by simp [Gput]) hn hnc hlim hw rfl)
  intro Q K hK
  have hr : (execOp a.eval o).run P w = .ok (.enter f (#[x,y].map a.eval)) w:=by
    simp [execOp,ho,resolve,Act.eval,Deferred.ofValue,invoke,run_callFunc hc]
  unfold Oper.wp
  rw [hr]
  have hcall : Calls P f (#[x,y].map a.eval) w (Ret w (Gput G b (.cells v.cells ty (0,0))) (.ex r)):=by simpa using hcall
  refine Calls.mono hcall fun e w' he=>?_
  obtain ⟨u,G',rfl,hu,hN⟩:=he
  refine hK u w' (fun c=>if c = b then none else G' c) hu ⟨hN.below,fun c hc=>?_,fun c x hc=>?_,fun c x hc=>?_⟩
  · by_cases e : c = b
    · subst e;simp [h2]
    · simp only [if_neg e];rw [hN.agree c hc];unfold Gput;rw [if_neg e]
  · have e : c ≠ b:=fun e=>by rw [e,h2] at hc;cases hc
    simp only [if_neg e]
    exact hN.le c x (hle c x hc)
  · by_cases e : c = b
    · subst e;simp at hc
    · simp only [if_neg e] at hc;exact hN.ok c x hc
theorem of_val {τ : MT} {v u : Value} {G : Gh} (h : v = u) (hs : τ.t u G) : τ.t v G:=h ▸ hs
theorem take_len {l : List Nat} {k : Nat} (h : k ≤ l.length) : (l.take k).length = k:=by rw [List.length_take];omega
theorem dig_take_top {l : List Nat} {k : Nat} : dig (l.take k) (k - 1) = if k = 0 then dig l 0 * 0 else dig l (k - 1):=by
  rcases Nat.eq_zero_or_pos k with h | h
  · subst h;simp [dig]
  · rw [if_neg (by omega)]
    unfold dig
    rw [List.getD_eq_getElem?_getD,List.getD_eq_getElem?_getD,List.getElem?_take,if_pos (by omega)]
theorem rtrim_step {l : List Nat} {k : Nat} (h0 : 0 < k) (hd : dig (l.take k) (k - 1) = 0) (hv : val (l.take k) = val l) : val (l.take (k - 1)) = val l:=by
  rw [dig_take_top,if_neg (by omega)] at hd
  exact trim_step h0 hd hv
theorem rtrim_zero {l : List Nat} {k m : Nat} (h0 : ¬ 0 < k) (hv : val (l.take k) = val l) (hl : val l = m) : l.take k = words m:=by
  have : k = 0:=by omega
  have hm:=trim_zero this hv hl
  subst this;rw [hm,words_zero];rfl
theorem rtrim_top {l : List Nat} {k m : Nat} (h0 : 0 < k) (hd : ¬ dig (l.take k) (k - 1) = 0) (hn : k ≤ l.length) (hv : val (l.take k) = val l) (hl : val l = m) (hw : wfl l) : l.take k = words m:=by
  rw [dig_take_top,if_neg (by omega)] at hd
  exact trim_words (by omega) (fun h=>hd h.2) hn hv hl hw
theorem iv_at {v : Value} {G : Gh} {z : Int} {n : Nat} (h : (MT.ex (.int .i64 z)).t v G) (e : z = (n : Int)) : (MT.ex (nv .i64 n)).t v G:=by subst e;exact h
theorem blen_half {v : Nat} (h : 0 < v) : blen v = blen (v / 2 ^ 1) + 1:=by
  rcases Nat.lt_or_ge v 2 with h1 | h1
  · have : v = 1:=by omega
    subst this;rfl
  · rw [blen_shift (n:=v) (s:=1) (by omega)];omega
theorem blen_words {x : Nat} (h : x ≠ 0) : 32 * ((words x).length - 1) + blen (dig (words x) ((words x).length - 1)) = blen x:=by
  have hL:=len_pos h
  have htop:=dig_last_pos h
  have hs:=val_split (words x) ((words x).length - 1)
  rw [val_words,val_drop_dig,Nat.sub_add_cancel hL,List.drop_length] at hs
  simp only [val,Nat.mul_zero,Nat.add_zero] at hs
  have hlow:=val_lt ((wfl_words x).take ((words x).length - 1))
  have hl2 : ((words x).take ((words x).length - 1)).length = (words x).length - 1:=by simp
  rw [hl2] at hlow
  generalize (words x).length - 1 = k at *
  generalize dig (words x) k = d at *
  have hp : (4294967296 : Nat) ^ k = 2 ^ (32 * k):=by rw [show (4294967296 : Nat) = 2 ^ 32 from rfl,← Nat.pow_mul]
  rw [hp] at hs hlow
  have hq : x / 2 ^ (32 * k) = d:=by
    rw [hs,Nat.add_comm,Nat.mul_add_div (Nat.pow_pos (by decide)),Nat.div_eq_of_lt hlow,Nat.add_zero]
  have hge : 2 ^ (32 * k) ≤ x:=by
    have : 2 ^ (32 * k) * 1 ≤ 2 ^ (32 * k) * d:=Nat.mul_le_mul_left _ (Nat.pos_of_ne_zero htop)
    omega
  rw [blen_shift hge,hq]
theorem ring_add (V Vx Vy D R Q a b c s M : Nat) (h : V + D * c = Vx + Vy) (e : R + M * Q = s) (e2 : s = a + b + c) : V + D * R + D * M * Q = Vx + D * a + (Vy + D * b):=by grind
theorem ring_sub (V Vx Vy D R a b c t M : Nat) (h : V + Vy = Vx + D * c) (e : R + b + c = a + M * t) : V + D * R + (Vy + D * b) = Vx + D * a + D * M * t:=by grind
theorem radd_step {l la lb : List Nat} {k c : Nat} (hk : l.length = k) (h : val l + 4294967296 ^ k * c = val (la.take k) + val (lb.take k)) :
    val (l ++ [(dig la k + dig lb k + c) % 4294967296]) + 4294967296 ^ (k + 1) * ((dig la k + dig lb k + c) / 2 ^ 32) = val (la.take (k + 1)) + val (lb.take (k + 1)):=by
  rw [val_append,hk,val_take_dig,val_take_dig,Nat.pow_succ]
  simp only [val,Nat.mul_zero,Nat.add_zero]
  exact ring_add _ _ _ _ _ _ _ _ _ (dig la k + dig lb k + c) _ h (by omega) rfl
theorem rsub_step {l la lb : List Nat} {k c : Nat} (hk : l.length = k) (ha : dig la k < 4294967296) (hb : dig lb k < 4294967296) (hc : c ≤ 1) (h : val l + val (lb.take k) = val (la.take k) + 4294967296 ^ k * c) :
    val (l ++ [(4294967296 + dig la k - dig lb k - c) % 4294967296]) + val (lb.take (k + 1)) = val (la.take (k + 1)) + 4294967296 ^ (k + 1) * (1 - (4294967296 + dig la k - dig lb k - c) / 2 ^ 32):=by
  rw [val_append,hk,val_take_dig,val_take_dig,Nat.pow_succ]
  simp only [val,Nat.mul_zero,Nat.add_zero]
  exact ring_sub _ _ _ _ _ _ _ _ _ _ h (by omega)
theorem wfl_app {l : List Nat} {x : Nat} (h : wfl l) (hx : x < 4294967296) : wfl (l ++ [x]):=by
  intro y hy
  rcases List.mem_append.1 hy with hy | hy
  · exact h y hy
  · rw [List.mem_singleton.1 hy];exact hx
theorem radd_fin {l : List Nat} {a b c k : Nat} (hl : l.length = k) (hk : ¬ k < max (words a).length (words b).length + 1) (hk' : k ≤ max (words a).length (words b).length + 1)
    (h : val l + 4294967296 ^ k * c = val ((words a).take k) + val ((words b).take k)) (hc : c ≤ 1) : val l = a + b :=
  add_fin (by omega) hk hk' (by rw [← hl,List.take_length,hl];exact h) hc
theorem rsub_fin {l : List Nat} {a b c k : Nat} (hle : b ≤ a) (hl : l.length = k) (hw : wfl l) (hk : ¬ k < (words a).length) (hk' : k ≤ (words a).length)
    (h : val l + val ((words b).take k) = val ((words a).take k) + 4294967296 ^ k * c) (hc : c ≤ 1) : val l = a - b :=
  sub_fin hle (by omega) hw hk hk' (by rw [← hl,List.take_length,hl];exact h) hc
section
variable {v : Value} {G : Gh} {n m : Nat} {z x y : Int} {s b : Bool} {l : List Nat}
theorem form_zero (h : (words m).length = 0) : sg s m = 0:=by rw [len_zero h];cases s <;> rfl
theorem WR.form (h : (WR b (words m)).t v G) (hb : b = s) (hm : ¬ (words m).length = 0) (hlt : m < 2 ^ n) : (WC n (sg s m)).t v G :=
  WR.whole h (by subst hb;simp;omega) hlt
theorem rsign_zero (h : (words z.natAbs).length = 0) : ((0 : Nat) : Int) = z.sign:=sign_zero h
theorem rsign_neg (h : z < 0) : -1 = z.sign:=(Int.sign_eq_neg_one_of_neg h).symm
theorem rsign_pos (h0 : ¬ (words z.natAbs).length = 0) (h : ¬ z < 0) : ((1 : Nat) : Int) = z.sign:=by
  have hz : z ≠ 0:=fun e=>h0 (by rw [e];simp [words_zero])
  exact (Int.sign_eq_one_of_pos (by omega)).symm
theorem cmp_sub : (x - y).sign = cmpZ x y:=by
  have:=sgn_cases (x - y)
  unfold cmpZ
  split
  · omega
  · split <;> omega
end
theorem ring_take (V Vx Vy D R a b c t M : Nat) (h : V + Vy = Vx + D * c) (e : R + b + c = a + M * t) : V + D * R + (Vy + D * b) = Vx + D * a + D * M * t:=ring_sub _ _ _ _ _ _ _ _ _ _ h e
theorem rtake_step {l us vs : List Nat} {k c : Nat} (hk : k < l.length) (ha : dig l k < 4294967296) (hb : dig vs k < 4294967296) (hc : c ≤ 1) (hd : l.drop k = us.drop k) (h : val (l.take k) + val (vs.take k) = val (us.take k) + 4294967296 ^ k * c) :
    val ((l.set k ((4294967296 + dig l k - dig vs k - c) % 4294967296)).take (k + 1)) + val (vs.take (k + 1)) = val (us.take (k + 1)) + 4294967296 ^ (k + 1) * (1 - (4294967296 + dig l k - dig vs k - c) / 2 ^ 32):=by
  rw [val_take_set hk,val_take_dig,val_take_dig,Nat.pow_succ,← dig_of_drop hd]
  exact ring_take _ _ _ _ _ _ _ _ _ _ h (by omega)
theorem ltL_of_dig {l q : List Nat} {k : Nat} (hw : wfl l) (hk : 0 < k) (he : val (l.drop k) = val (q.drop k)) (hd : dig l (k - 1) < dig q (k - 1)) : val l < val q:=by
  have ha:=val_split l (k - 1);have hb:=val_split q (k - 1)
  have h1:=val_drop_dig l (k - 1);have h2:=val_drop_dig q (k - 1)
  rw [show k - 1 + 1 = k from by omega] at h1 h2
  have h3:=val_lt (hw.take (k - 1))
  have h4 : 4294967296 ^ (l.take (k - 1)).length ≤ 4294967296 ^ (k - 1):=Nat.pow_le_pow_right (by omega) (by simp;omega)
  have h5 : 4294967296 ^ (k - 1) * (val (l.drop (k - 1)) + 1) ≤ 4294967296 ^ (k - 1) * val (q.drop (k - 1)):=Nat.mul_le_mul_left _ (by omega)
  rw [Nat.mul_add] at h5
  omega
theorem dropL_step {l q : List Nat} {k : Nat} (hk : 0 < k) (he : val (l.drop k) = val (q.drop k)) (hd : ¬ dig l (k - 1) ≠ dig q (k - 1)) : val (l.drop (k - 1)) = val (q.drop (k - 1)):=by
  have h1:=val_drop_dig l (k - 1);have h2:=val_drop_dig q (k - 1)
  rw [show k - 1 + 1 = k from by omega] at h1 h2
  omega
theorem eqL_of_drop {l q : List Nat} {k : Nat} (hk : k = 0) (he : val (l.drop k) = val (q.drop k)) : val l = val q:=by
  subst hk;simpa using he
end Go.Proofs.YtpbkcbnghhodiaaGreat
namespace Go.Proofs.YtpbkcbnghhodiaaGreat
open Go.RowKit (Below)
section
variable {P : Program} {o : Oper} {a : Act} {w : World} {G : Gh} {τ : MT} {W0 : World} {G0 : Gh} {N : Nat} {L : List (Nat × MT)} {B : List BX}
theorem OpR.cutX0 {x z : Operand} {t e b c n hi : Nat} {k' : IntKind} {m' : Int} (hok : Gok w G) (ho : o.op = .slice t x none (some z) none) (ht : P.underlying t = some (.slice e)) (hs : tyS P e none = true)
    (hx : a.eval x = .slice (some ⟨b,0,none⟩) n c) (hz : a.eval z = .int k' m') (hm' : m' = (hi : Int)) (h2 : hi ≤ c) (h : τ.t (.slice (some ⟨b,0,none⟩) hi c) G) : OpR P o a w G τ:=by
  subst hm'
  refine .run hok (v:=.slice (some ⟨b,0,none⟩) hi c) ?_ h
  simp [execOp,ho,hx,hz,Instr.sliceAt,run_underlying ht,Instr.slice,Instr.sliceBounds,Instr.sliceBound,asIntOf,h2,tyS_size hs,addr_add]
theorem St.stepM1 {ops : Array Oper} {rest : List Oper} {Q : Exit → Act → World → Prop} (S : St W0 G0 N L B a w G) (i : Nat) {d f bu n : Nat} {ty : TypeId} {x : Operand} {ats : Array TypeId} {p : Value → List Nat → Prop} (ho : o.op = .call { callee := .value (.func f), args := #[x], argTypes := ats }) (hd : o.dst = some d) (hg : o.guard = none)
    (hc : callable P f = true) (h : Calls P f #[a.eval x] w (RetM W0 G0 G B i bu ty n p)) (hdN : (decide (d < N)) = true) (hf : fresh d L = true)
    (K : ∀ v l a' w' G',p v l → l.length = n → St W0 G0 N ((d,.ex v) :: L) (B.set i ⟨bu,ty,some n,.ex (.agg (ucells l).toArray)⟩) a' w' G' → wpList P ops Q rest a' w') : wpList P ops Q (o :: rest) a w:=S.stepM i ho hd hg hc (by simpa using h) hdN hf K
end
theorem dig_take {q : List Nat} {n i : Nat} (h : i < n) : dig (q.take n) i = dig q i:=by
  unfold dig
  rw [List.getD_eq_getElem?_getD,List.getD_eq_getElem?_getD,List.getElem?_take,if_pos h]
theorem cut_step {us : List Nat} {n k : Nat} (h0 : 0 < k) (hd : dig us (k - 1) = 0) (hv : val (us.take k) = val (us.take n)) : val (us.take (k - 1)) = val (us.take n):=by
  have:=val_take_dig us (k - 1)
  rw [show k - 1 + 1 = k from by omega,hd] at this
  omega
theorem cut_zero {us : List Nat} {n k : Nat} (h0 : ¬ 0 < k) (hv : val (us.take k) = val (us.take n)) : us.take k = words (val (us.take n)):=by
  have : k = 0:=by omega
  subst this
  rw [← hv];simp [val,words_zero]
theorem cut_top {us : List Nat} {n k : Nat} (h0 : 0 < k) (hk : k ≤ us.length) (hd : ¬ dig us (k - 1) = 0) (hv : val (us.take k) = val (us.take n)) (hw : wfl us) : us.take k = words (val (us.take n)):=by
  rw [← hv]
  refine (words_val (hw.take k) ?_).symm
  unfold canl
  rw [List.getLast?_eq_getElem?,List.length_take,Nat.min_eq_left hk,List.getElem?_take,if_pos (by omega)]
  unfold dig at hd
  rw [List.getD_eq_getElem?_getD] at hd
  have hlt : k - 1 < us.length:=by omega
  rw [List.getElem?_eq_getElem hlt] at hd ⊢
  simpa using hd
end Go.Proofs.YtpbkcbnghhodiaaGreat
namespace Go.Proofs.YtpbkcbnghhodiaaGreat
open Go.RowKit (Below)
def RetO (w : World) (G : Gh) (ty : TypeId) (p : Nat → Nat → List Nat → Prop) : Ending → World → Prop:=fun e w' =>
  ∃ b n c q G',e = .returned (.slice (some ⟨b,0,none⟩) n c) ∧ w.heap.size ≤ b ∧ Nxt w G w' G' ∧ G' b = none ∧ w'.heap[b]? = some (.cells (ucells q).toArray ty (0,0)) ∧ q.length = c ∧ p n c q
section
variable {P : Program} {W0 : World} {G0 : Gh} {N : Nat} {L : List (Nat × MT)} {B Br : List BX} {a : Act} {w : World} {G : Gh} {fn : Func} {o : Oper}
variable {ops : Array Oper} {rest : List Oper} {Q : Exit → Act → World → Prop}
theorem St.stepO (S : St W0 G0 N L B a w G) {d f : Nat} {ty : TypeId} {x : Operand} {ats : Array TypeId} {p : Nat → Nat → List Nat → Prop} (ho : o.op = .call { callee := .value (.func f), args := #[x], argTypes := ats }) (hd : o.dst = some d) (hg : o.guard = none)
    (hc : callable P f = true) (h : Calls P f #[a.eval x] w (RetO w G ty p)) (hdN : (decide (d < N)) = true) (hf : fresh d L = true)
    (K : ∀ b n c q a' w' G',q.length = c → p n c q → St W0 G0 N ((d,.ex (.slice (some ⟨b,0,none⟩) n c)) :: L) (⟨b,ty,some c,.ex (.agg (ucells q).toArray)⟩ :: B) a' w' G' → wpList P ops Q rest a' w') : wpList P ops Q (o :: rest) a w :=
  wpList_plain hg fun K' hK=>by
    have hr : (execOp a.eval o).run P w = .ok (.enter f (#[x].map a.eval)) w:=by
      simp [execOp,ho,resolve,Act.eval,Deferred.ofValue,invoke,run_callFunc hc]
    unfold Oper.wp
    rw [hr]
    have h : Calls P f (#[x].map a.eval) w (RetO w G ty p):=by simpa using h
    refine Calls.mono h fun e w' he=>?_
    obtain ⟨b,n,c,q,G',rfl,hb,hn,hG,hw,hq,hp⟩:=he
    show K' (a.put o.dst _) w'
    rw [hd]
    have hs : Shaped (some c) (.agg (ucells q).toArray):=ucells_shaped hq
    have S1 : St W0 G0 N L (⟨b,ty,some c,.ex (.agg (ucells q).toArray)⟩ :: B) a w' G':={
      nxt:=S.nxt.trans hn
      size:=S.size
      dfr:=S.dfr
      ty:=fun i p h=>p.2.mono hn.le (S.ty i p h)
      bx:=fun i y h=>by
        cases i with
        | zero=>cases h;exact ⟨Nat.le_trans S.nxt.below.size hb,hG,.agg (ucells q).toArray,hw,hs,rfl⟩
        | succ i=>exact (S.bx i y h).nxt hn
      nd:=fun i j y z hy hz hij=>by
        cases i with
        | zero =>
          cases hy
          cases j with
          | zero=>exact absurd rfl hij
          | succ j=>have:=(S.bx j z hz).lt;show b ≠ z.b;omega
        | succ i =>
          cases j with
          | zero=>cases hz;have:=(S.bx i y hy).lt;show y.b ≠ b;omega
          | succ j=>exact S.nd i j y z hy hz (by omega) }
    exact hK _ _ (K b n c q _ _ G' hq hp (S1.put (of_decide_eq_true hdN) hf rfl (Nxt.refl S1.ok)))
theorem St.retO (S : St W0 G0 N L B a w G) (i : Nat) {t b n c : Nat} {ty : TypeId} {q : List Nat} {p : Nat → Nat → List Nat → Prop} (hr : fn.results = #[.tmp t]) (ht : tm a t = .slice (some ⟨b, 0, none⟩) n c) (hi : B[i]? = some ⟨b, ty, some c, .ex (.agg (ucells q).toArray)⟩) (hl : q.length = c) (hp : p n c q) :
    bodyPost P fn (RetO W0 G0 ty p) .ret a w:=by
  obtain ⟨h1,h2,v,hv,hs,htv⟩:=S.bx i _ hi
  cases htv
  exact bodyPost_ret (v:=.slice (some ⟨b,0,none⟩) n c) (by have:=results_tmp hr a.tmps P w;rw [this];exact congrArg (fun v=>Result.ok v w) ht) S.dfr ⟨b,n,c,q,G,rfl,h1,S.nxt,h2,hv,hl,hp⟩
theorem St.build0 (S : St W0 G0 N L B a w G) {d size bytes : Nat} {t e : TypeId} {z : Value} (ho : o.op = .buildSlice t 0 #[]) (hd : o.dst = some d) (hg : o.guard = none) (ht : P.underlying t = some (.slice e)) (he : elS P e size bytes z) (hdN : (decide (d < N)) = true) (hf : fresh d L = true)
    (K : ∀ b a' w' G',St W0 G0 N ((d,.ex (.slice (some ⟨b,0,none⟩) 0 0)) :: L) (⟨b,e,some 0,.ex (.agg (ucells []).toArray)⟩ :: B) a' w' G' → wpList P ops Q rest a' w') : wpList P ops Q (o :: rest) a w :=
  wpList_plain hg fun K' hK=>by
    obtain ⟨i,hi,h1,h2,h3⟩:=elS_of he
    have hr : (execOp a.eval o).run P w = .ok (.value (.slice (some ⟨w.heap.size,0,none⟩) 0 0)) (w.alloc (.cells #[] e)):=by
      simp [execOp,ho,Instr.buildSlice,run_underlying ht,sizeOf,typeInfo,hi,Instr.fill,newRow,show Array.range 0 = #[] from rfl]
    unfold Oper.wp
    rw [hr]
    simp only [Oper.upon,hd]
    have S':=(S.newVar (v:=.agg (ucells []).toArray) (t:=e) (k:=some 0) (τ:=.ex (.agg (ucells []).toArray)) (ucells_shaped rfl) rfl).put (v:=.slice (some ⟨w.heap.size,0,none⟩) 0 0) (of_decide_eq_true hdN) hf (τ:=.ex (.slice (some ⟨w.heap.size,0,none⟩) 0 0)) rfl (Nxt.refl (S.ok.alloc _))
    exact hK _ _ (K w.heap.size _ _ G S')
theorem St.dropB {b0 : Nat} {ty0 : TypeId} {k0 : Option Nat} {τ0 : MT} (S : St W0 G0 N L (BX.mk b0 ty0 k0 τ0 :: B) a w G) : St W0 G0 N L B a w G :=
  { S with bx:=fun i x h=>S.bx (i + 1) x h,nd:=fun i j x y hx hy hij=>S.nd (i + 1) (j + 1) x y hx hy (by omega) }
theorem St.appO {b0 : Nat} {e : TypeId} (S : St W0 G0 N L (⟨b0, e, some 0, .ex (.agg (ucells []).toArray)⟩ :: B) a w G) {d : Nat} {t : TypeId} {x y : Operand} {l : List Nat} (ho : o.op = .call { callee := .builtin .append, args := #[x, y], argTypes := #[t, t] }) (hd : o.dst = some d) (hg : o.guard = none)
    (ht : P.underlying t = some (.slice e)) (he : elS P e 1 4 (u32 0)) (hx : a.eval x = .slice (some ⟨b0,0,none⟩) 0 0) (hy : (SL l).t (a.eval y) G) (hdN : (decide (d < N)) = true) (hf : fresh d L = true)
    (K : ∀ b c q a' w' G',q.length = c → l.length ≤ c → q.take l.length = l → wfl q → St W0 G0 N ((d,.ex (.slice (some ⟨b,0,none⟩) l.length c)) :: L) (⟨b,e,some c,.ex (.agg (ucells q).toArray)⟩ :: B) a' w' G' → wpList P ops Q rest a' w') : wpList P ops Q (o :: rest) a w :=
  wpList_plain hg fun K' hK=>by
    obtain ⟨i,hi,h1,h2,h3⟩:=elS_of he
    obtain ⟨A,c,hy,hlc,hlim,hwf,hcell⟩:=hy
    simp only [LIM] at hlim
    by_cases h0 : l = []
    · subst h0
      have hf0 : (Builtin.firstCells 1 0 (.slice A 0 c)).run P w = .ok #[] w:=by
        cases A with
        | none=>simp [Builtin.firstCells]
        | some ad=>simp [Builtin.firstCells,loadCells,loadCellsFrom]
      simp only [List.length_nil] at hy
      have hr : (execOp a.eval o).run P w = .ok (.value (.slice (some ⟨b0,0,none⟩) 0 0)) w:=by
        simp [execOp,ho,resolve,invoke,builtin,hx,hy,Builtin.append_,run_underlying ht,sizeOf,typeInfo,hi,h1,Builtin.lenOf,hf0,storeCells]
      unfold Oper.wp
      rw [hr]
      simp only [Oper.upon,hd]
      exact hK _ _ (K b0 0 [] _ _ G rfl (Nat.le_refl _) rfl wfl_nil (S.put (of_decide_eq_true hdN) hf rfl (Nxt.refl S.ok)))
    · have hpos : 0 < l.length:=List.length_pos_iff.2 h0
      obtain ⟨b',off,rfl,_⟩:=hcell 0 l[0] (by simp [hpos])
      have hgr:=run_append_grow (P:=P) w t o.type e i (u32 0) ht hi h3 ⟨b0,0,none⟩ 0 0 [] (by simp) (by simp) ⟨b',off,none⟩ l.length c (ucells l) (by simp [ucells,h1]) (fun j v hj=>by
        simp only [ucells,List.getElem?_map,Option.map_eq_some_iff] at hj
        obtain ⟨z,hz,rfl⟩:=hj
        obtain ⟨b2,off2,e,hc⟩:=hcell j z hz
        cases e
        rw [addr_add];exact Gc.cell S.ok hc) (by omega) (by omega) (by rw [h2,Nat.zero_add,nextslicecap_zero hpos];omega)
      simp only [Nat.zero_add] at hgr
      have hge:=grownCap_ge w l.length 0 e
      generalize grownCap w l.length 0 e = cp at *
      have hcells : (([] : List Value).toArray ++ (ucells l).toArray) ++ Builtin.zeroCells (u32 0).cells (cp - l.length) = (ucells (l ++ List.replicate (cp - l.length) 0)).toArray:=by
        have hz : Builtin.zeroCells (u32 0).cells (cp - l.length) = (List.replicate (cp - l.length) (u32 0)).toArray:=by
          apply Array.ext
          · simp [size_zeroCells,Value.cells]
          · intro j h1 h2
            simp [Builtin.zeroCells,Value.cells]
            rw [List.getElem?_eq_getElem (by simp [Nat.mod_one])]
            simp [Nat.mod_one]
        rw [hz];simp [ucells]
      rw [hcells] at hgr
      have hN:=Nxt.drew S.ok
      have S1 : St W0 G0 N L B a w.drew G:=⟨S.dropB.nxt.trans hN,S.size,S.dfr,S.ty,fun j x hx=>(S.dropB.bx j x hx).nxt hN,S.dropB.nd⟩
      have hql : (l ++ List.replicate (cp - l.length) 0).length = cp:=by simp;omega
      have S2:=(S1.newVar (v:=.agg (ucells (l ++ List.replicate (cp - l.length) 0)).toArray) (t:=e) (k:=some cp) (τ:=.ex (.agg (ucells (l ++ List.replicate (cp - l.length) 0)).toArray)) (ucells_shaped hql) rfl).put (v:=.slice (some ⟨w.drew.heap.size,0,none⟩) l.length cp) (of_decide_eq_true hdN) hf (τ:=.ex (.slice (some ⟨w.drew.heap.size,0,none⟩) l.length cp)) rfl (Nxt.refl (S1.ok.alloc _))
      have hr : (execOp a.eval o).run P w = .ok (.value (.slice (some ⟨w.heap.size,0,none⟩) l.length cp)) (w.drew.alloc (.cells (ucells (l ++ List.replicate (cp - l.length) 0)).toArray e)):=by
        simp only [execOp,ho,resolve,Sem.run_bind,Sem.run_pure,Result.andThen_ok,invoke,builtin,List.map_toArray,List.map_cons,List.map_nil,hx,hy,hgr]
      unfold Oper.wp
      rw [hr]
      simp only [Oper.upon,hd]
      exact hK _ _ (K _ cp _ _ _ G hql hge (by simp) (fun x hx=>by
        rcases List.mem_append.1 hx with h | h
        · exact hwf x h
        · rw [List.mem_replicate] at h;omega) S2)
theorem Gle_put {b : Nat} {x : Obj} (h : G b = none) : Gle G (Gput G b x):=fun c y hc=>by
  unfold Gput;split
  · rename_i e;subst e;rw [h] at hc;cases hc
  · exact hc
theorem Gok_put {b : Nat} {x : Obj} (hok : Gok w G) (h : w.heap[b]? = some x) : Gok w (Gput G b x):=fun c y hc=>by
  unfold Gput at hc;split at hc
  · rename_i e;subst e;cases hc;exact h
  · exact hok c y hc
theorem BX.ok.lent {x : BX} {b : Nat} {y : Obj} (h : x.ok W0 w G) (hG : G b = none) (hne : x.b ≠ b) : x.ok W0 w (Gput G b y):=by
  obtain ⟨h1,h2,v,h3,h4,h5⟩:=h
  exact ⟨h1,by unfold Gput;rw [if_neg hne];exact h2,v,h3,h4,x.τ.mono (Gle_put hG) h5⟩
theorem OpR.lent1 {b : Nat} {ty : TypeId} {k : Option Nat} {τ : MT} {r : Value} (hb : BX.ok ⟨b, ty, k, τ⟩ W0 w G)
    (h : ∀ v,τ.t v G → Shaped k v → G b = none → w.heap[b]? = some (.cells v.cells ty (0,0)) → OpR P o a w (Gput G b (.cells v.cells ty (0,0))) (.ex r)) : OpR P o a w G (.ex r):=by
  obtain ⟨h1,h2,v,hv,hs,hvt⟩:=hb
  simp only at h1 h2 hv hs hvt
  intro Q K hK
  refine h v hvt hs h2 hv Q K fun u w' G' hu hN=>?_
  refine hK u w' (fun c=>if c = b then none else G' c) hu ⟨hN.below,fun c hc=>?_,fun c x hc=>?_,fun c x hc=>?_⟩
  · by_cases e : c = b
    · subst e;simp [h2]
    · simp only [if_neg e];rw [hN.agree c hc];unfold Gput;rw [if_neg e]
  · have e : c ≠ b:=fun e=>by rw [e,h2] at hc;cases hc
    simp only [if_neg e]
    exact hN.le c x (Gle_put h2 c x hc)
  · by_cases e : c = b
    · subst e;simp at hc
    · simp only [if_neg e] at hc;exact hN.ok c x hc
theorem OpR.lendPP (S : St W0 G0 N L B a w G) {f b n c b' n' c' i j : Nat} {ty ty' : TypeId} {q q' : List Nat} {x y : Operand} {ats : Array TypeId} {r : Value} (ho : o.op = .call { callee := .value (.func f), args := #[x, y], argTypes := ats }) (hc : callable P f = true)
    (hi : B[i]? = some ⟨b,ty,some c,.ex (.agg (ucells q).toArray)⟩) (hj : B[j]? = some ⟨b',ty',some c',.ex (.agg (ucells q').toArray)⟩) (hij : i ≠ j) (hx : a.eval x = .slice (some ⟨b,0,none⟩) n c) (hy : a.eval y = .slice (some ⟨b',0,none⟩) n' c')
    (hn : n ≤ q.length) (hnc : n ≤ c) (hlim : n ≤ LIM) (hw : wfl q) (hn' : n' ≤ q'.length) (hnc' : n' ≤ c') (hlim' : n' ≤ LIM) (hw' : wfl q')
    (h : ∀ G1,Gok w G1 → (SL (q.take n)).t (a.eval x) G1 → (SL (q'.take n')).t (a.eval y) G1 → Calls P f #[a.eval x,a.eval y] w (Ret w G1 (.ex r))) : OpR P o a w G (.ex r):=by
  refine OpR.lent1 (S.bx i _ hi) fun v hv _ hG hw1=>?_
  have hne : b' ≠ b:=S.nd j i _ _ hj hi (Ne.symm hij)
  refine OpR.lent1 ((S.bx j _ hj).lent hG hne) fun v' hv' _ hG' hw1'=>?_
  have hok:=Gok_put S.ok hw1
  refine OpR.call2 ho hc (h _ (Gok_put hok hw1') ?_ ?_)
  · exact (SL (q.take n)).mono (Gle_put hG') (SL_prefix (u:=v) (ty:=ty) hv (by simp [Gput]) hn hnc hlim hw hx)
  · exact SL_prefix (u:=v') (ty:=ty') hv' (by simp [Gput]) hn' hnc' hlim' hw' hy
theorem St.stepML {bu n b' c' : Nat} {ty ty' : TypeId} {us q' : List Nat} (S : St W0 G0 N L (⟨bu, ty, some n, .ex (.agg (ucells us).toArray)⟩ :: ⟨b', ty', some c', .ex (.agg (ucells q').toArray)⟩ :: []) a w G) {d f n' : Nat} {x y : Operand} {ats : Array TypeId} {p : Value → List Nat → Prop} (ho : o.op = .call { callee := .value (.func f), args := #[x, y], argTypes := ats }) (hd : o.dst = some d) (hg : o.guard = none)
    (hc : callable P f = true) (hy : a.eval y = .slice (some ⟨b',0,none⟩) n' c') (hn' : n' ≤ q'.length) (hnc' : n' ≤ c') (hlim' : n' ≤ LIM) (hw' : wfl q')
    (h : ∀ G1,Gle G G1 → St W0 G0 0 [] (⟨bu,ty,some n,.ex (.agg (ucells us).toArray)⟩ :: []) ⟨#[],[]⟩ w G1 → (SL (q'.take n')).t (a.eval y) G1 → Calls P f #[a.eval x,a.eval y] w (RetM W0 G0 G1 (⟨bu,ty,some n,.ex (.agg (ucells us).toArray)⟩ :: []) 0 bu ty n p)) (hdN : (decide (d < N)) = true) (hf : fresh d L = true)
    (K : ∀ v l a' w' G',p v l → l.length = n → St W0 G0 N ((d,.ex v) :: L) (⟨bu,ty,some n,.ex (.agg (ucells l).toArray)⟩ :: ⟨b',ty',some c',.ex (.agg (ucells q').toArray)⟩ :: []) a' w' G' → wpList P ops Q rest a' w') : wpList P ops Q (o :: rest) a w :=
  wpList_plain hg fun K' hK=>by
    have hr : (execOp a.eval o).run P w = .ok (.enter f (#[x,y].map a.eval)) w:=by
      simp [execOp,ho,resolve,Act.eval,Deferred.ofValue,invoke,run_callFunc hc]
    obtain ⟨h1,h2,v0,hv0,hs0,ht0⟩:=S.bx 1 _ rfl
    have ht0 : v0 = .agg (ucells q').toArray:=ht0
    have hne : ∀ (i : Nat) (x : BX),i ≠ 1 → (⟨bu,ty,some n,.ex (.agg (ucells us).toArray)⟩ :: ⟨b',ty',some c',.ex (.agg (ucells q').toArray)⟩ :: [] : List BX)[i]? = some x → x.b ≠ b':=fun i x hi hx=>S.nd i 1 x _ hx rfl hi
    obtain ⟨v1,G1,hz,_,hG1,hle,S1⟩:=S.freeze 1 rfl
    have hsl:=SL_prefix (u:=v1) (ty:=ty') hz hG1 hn' hnc' hlim' hw' hy
    have hcall:=h G1 hle S1.world hsl
    unfold Oper.wp
    rw [hr]
    have e2 : #[x,y].map a.eval = #[a.eval x,a.eval y]:=by simp
    rw [← e2] at hcall
    refine Calls.mono hcall fun e w' he=>?_
    obtain ⟨v,l,G',rfl,hp,hl,hle',SW⟩:=he
    show K' (a.put o.dst v) w'
    rw [hd]
    have hG'b:=hle' _ _ hG1
    cases hz
    have hwb:=SW.ok _ _ hG'b
    have hleG : Gle G (fun c=>if c = b' then none else G' c):=fun c z hcz=>by
      have e : c ≠ b':=fun e=>by rw [e,h2] at hcz;cases hcz
      simp only [if_neg e];exact hle' _ _ (hle _ _ hcz)
    have hsub : ∀ {τ : MT} {u : Value},τ.t u G → τ.t u (fun c=>if c = b' then none else G' c):=fun {τ u} hu=>τ.mono hleG hu
    have hb0:=SW.bx 0 _ rfl
    obtain ⟨k1,k2,u,hu,hsu,htu⟩:=SW.bx 0 _ rfl
    have S2 : St W0 G0 N L (⟨bu,ty,some n,.ex (.agg (ucells l).toArray)⟩ :: ⟨b',ty',some c',.ex (.agg (ucells q').toArray)⟩ :: []) a w' (fun c=>if c = b' then none else G' c):={
      nxt := ⟨SW.nxt.below, fun c hc => by
          have e : c ≠ b':=fun e=>by have : W0.heap.size ≤ b':=h1;omega
          simp only [if_neg e];exact SW.nxt.agree c hc,S.nxt.le.trans hleG,fun c z hcz=>by
          by_cases e : c = b'
          · subst e;simp at hcz
          · simp only [if_neg e] at hcz;exact SW.ok c z hcz⟩
      size:=S.size
      dfr:=S.dfr
      ty:=fun i pr hpr=>pr.2.mono hleG (S.ty i pr hpr)
      bx:=fun i z hz=>by
        match i,hz with
        | 0,hz=>cases hz;exact ⟨k1,by have:=hne 0 _ (by decide) rfl;simp only [if_neg this];exact k2,u,hu,hsu,htu⟩
        | 1,hz=>cases hz;exact ⟨h1,by simp,_,hwb,by rw [← ht0];exact hs0,rfl⟩
        | i + 2,hz=>simp at hz
      nd:=fun i j y z hy hz hij=>by
        have key : ∀ (i : Nat) (y : BX),(⟨bu,ty,some n,.ex (.agg (ucells l).toArray)⟩ :: ⟨b',ty',some c',.ex (.agg (ucells q').toArray)⟩ :: [] : List BX)[i]? = some y → ∃ y' : BX,(⟨bu,ty,some n,.ex (.agg (ucells us).toArray)⟩ :: ⟨b',ty',some c',.ex (.agg (ucells q').toArray)⟩ :: [] : List BX)[i]? = some y' ∧ y'.b = y.b:=fun i y h=>by
          match i,h with
          | 0,h=>cases h;exact ⟨_,rfl,rfl⟩
          | 1,h=>cases h;exact ⟨_,rfl,rfl⟩
          | i + 2,h=>simp at h
        obtain ⟨y',e1,e2⟩:=key i y hy
        obtain ⟨z',e3,e4⟩:=key j z hz
        rw [← e2,← e4];exact S.nd i j y' z' e1 e3 hij }
    exact hK _ _ (K v l _ _ _ hp hl (S2.put (of_decide_eq_true hdN) hf rfl (Nxt.refl S2.ok)))
end
theorem take_of_take {q l : List Nat} {k : Nat} (h : q.take l.length = l) (hk : k ≤ l.length) : q.take k = l.take k:=by
  have e : (q.take l.length).take k = q.take k:=by rw [List.take_take,Nat.min_eq_left hk]
  rw [← e,h]
theorem dig_of_take {q l : List Nat} {k : Nat} (h : q.take l.length = l) (hk : k < l.length) : dig q k = dig l k:=by
  rw [← dig_take (q:=q) hk,h]
theorem halve_dig {l us : List Nat} {nn k j : Nat} (h : l.drop k = us.drop k) (hj : k ≤ j) : dig (l.take nn) j = dig (us.take nn) j:=by
  have key : l[j]? = us[j]?:=by
    have h1 : (l.drop k)[j - k]? = (us.drop k)[j - k]?:=by rw [h]
    rwa [List.getElem?_drop,List.getElem?_drop,show k + (j - k) = j from by omega] at h1
  unfold dig
  rw [List.getD_eq_getElem?_getD,List.getD_eq_getElem?_getD,List.getElem?_take,List.getElem?_take,key]
theorem halve_or {x y a b : Nat} (hx : x < 4294967296) (ha : a = x) (hb : b = y) : (a / 2 ^ 1 ||| b * 2 ^ 31) % 4294967296 = x / 2 + y % 2 * 2147483648:=by
  subst ha hb
  rw [Nat.or_comm,or_shift (by omega)];omega
theorem halve_step {l us : List Nat} {nn nu k z : Nat} (h1 : k < nn) (hn : nn ≤ nu) (hl : us.length = nu) (hd : l.drop k = us.drop k) (hz : z = dig (us.take nn) k / 2 + dig (us.take nn) (k + 1) % 2 * 2147483648)
    (h : 2 * val (l.take k) + dig (us.take nn) 0 % 2 = val (us.take k) + 4294967296 ^ k * (dig (us.take nn) k % 2)) :
    2 * val ((l.set k z).take (k + 1)) + dig (us.take nn) 0 % 2 = val (us.take (k + 1)) + 4294967296 ^ (k + 1) * (dig (us.take nn) (k + 1) % 2):=by
  have hlk : k < l.length:=by
    have:=congrArg List.length hd
    simp only [List.length_drop] at this;omega
  have e1:=val_take_dig (l.set k z) k
  have e2:=val_take_dig us k
  have e3 : (l.set k z).take k = l.take k:=by rw [List.take_set_of_le (Nat.le_refl _)]
  have e4 : dig (l.set k z) k = z:=by rw [dig_set hlk,if_pos rfl]
  have e5 : dig (us.take nn) k = dig us k:=dig_take h1
  rw [e1,e3,e4,e2,hz,Nat.pow_succ]
  rw [e5] at h ⊢
  generalize 4294967296 ^ k = B at *
  generalize dig us k = d at *
  generalize dig (us.take nn) (k + 1) = e at *
  have e6 : d = d / 2 * 2 + d % 2:=by omega
  generalize d / 2 = p at *
  generalize d % 2 = r at *
  generalize e % 2 = s at *
  subst e6
  have e7 : 2 * (B * (p + s * 2147483648)) = B * (p * 2) + B * 4294967296 * s:=by grind
  have e8 : B * (p * 2 + r) = B * (p * 2) + B * r:=Nat.mul_add ..
  omega
theorem halve_end {l us : List Nat} {nn nu k : Nat} (hl : l.length = nu) (hu : us.length = nu) (hk : ¬ k < nn) (hk' : k ≤ nn) (h : 2 * val (l.take k) + dig (us.take nn) 0 % 2 = val (us.take k) + 4294967296 ^ k * (dig (us.take nn) k % 2)) : val (l.take nn) = val (us.take nn) / 2:=by
  have : k = nn:=by omega
  subst this
  have e : dig (us.take k) k = 0:=dig_out (by simp [List.length_take];omega)
  rw [e] at h
  simp only [Nat.zero_mod,Nat.mul_zero,Nat.add_zero] at h
  omega
end Go.Proofs.YtpbkcbnghhodiaaGreat
namespace Go.Proofs.YtpbkcbnghhodiaaGreat
open Go.RowKit (Below)
def flat (us : List Value) : List Value:=us.flatMap fun u=>u.cells.toList
theorem flat_cons {u : Value} {us : List Value} : flat (u :: us) = u.cells.toList ++ flat us:=rfl
theorem flat_len {us : List Value} {s : Nat} (h : ∀ u ∈ us,u.cells.size = s) : (flat us).length = us.length * s:=by
  induction us with
  | nil=>simp [flat]
  | cons u us ih =>
    rw [flat_cons,List.length_append,ih fun v hv=>h v (by simp [hv]),Array.length_toList,h u (by simp),List.length_cons,Nat.succ_mul];omega
theorem flat_get {us : List Value} {s i j : Nat} {u : Value} (h : ∀ u ∈ us,u.cells.size = s) (hi : us[i]? = some u) (hj : j < s) : (flat us)[i * s + j]? = u.cells[j]?:=by
  induction us generalizing i with
  | nil=>simp at hi
  | cons v us ih =>
    have hv:=h v (by simp)
    rw [flat_cons]
    cases i with
    | zero =>
      have e : v = u:=by simpa using hi
      subst e
      rw [Nat.zero_mul,Nat.zero_add,List.getElem?_append_left (by rw [Array.length_toList];omega)];simp
    | succ i =>
      rw [List.getElem?_append_right (by rw [Array.length_toList,hv,Nat.succ_mul];omega),Array.length_toList,hv,show (i + 1) * s + j - s = i * s + j from by rw [Nat.succ_mul];omega]
      exact ih (fun w hw=>h w (by simp [hw])) (by simpa using hi)
theorem flat_inv {us : List Value} {s m : Nat} {c : Value} (h : ∀ u ∈ us,u.cells.size = s) (hm : (flat us)[m]? = some c) : ∃ i j u,us[i]? = some u ∧ m = i * s + j ∧ j < s ∧ u.cells[j]? = some c:=by
  have hlt:=(List.getElem?_eq_some_iff.1 hm).1
  rw [flat_len h] at hlt
  have hs : 0 < s := by rcases Nat.eq_zero_or_pos s with e | e
                        · subst e;simp at hlt
                        · exact e
  have hi : m / s < us.length:=(Nat.div_lt_iff_lt_mul hs).2 hlt
  refine ⟨m / s,m % s,us[m / s],by simp [hi],(Nat.div_add_mod' m s).symm,Nat.mod_lt _ hs,?_⟩
  rw [← flat_get h (i:=m / s) (u:=us[m / s]) (by simp [hi]) (Nat.mod_lt _ hs),Nat.div_add_mod' m s,hm]
theorem flat_set {us : List Value} {s i : Nat} {u : Value} (h : ∀ u ∈ us,u.cells.size = s) (hi : i < us.length) (hu : u.cells.size = s) : flat (us.set i u) = (flat us).take (i * s) ++ u.cells.toList ++ (flat us).drop (i * s + s):=by
  induction us generalizing i with
  | nil=>simp at hi
  | cons v us ih =>
    have hv:=h v (by simp)
    cases i with
    | zero => simp only [List.set_cons_zero, flat_cons, Nat.zero_mul, List.take_zero, List.nil_append, Nat.zero_add]
              rw [List.drop_append_of_le_length (by rw [Array.length_toList];omega),List.drop_of_length_le (by rw [Array.length_toList];omega),List.nil_append]
    | succ i =>
      simp only [List.set_cons_succ,flat_cons]
      rw [ih (fun w hw=>h w (by simp [hw])) (by simpa using hi)]
      have e1 : (i + 1) * s = v.cells.toList.length + i * s:=by rw [Array.length_toList,hv,Nat.succ_mul];omega
      rw [e1,Nat.add_assoc,List.take_length_add_append,List.drop_length_add_append]
      simp [List.append_assoc]
def Els (k : Option Nat) (τs : List MT) (us : List Value) (G : Gh) : Prop:=us.length = τs.length ∧ ∀ (i : Nat) (τ : MT) (u : Value),τs[i]? = some τ → us[i]? = some u → Shaped k u ∧ τ.t u G
theorem Els.mono {k : Option Nat} {τs : List MT} {us : List Value} {G G' : Gh} (hle : Gle G G') (h : Els k τs us G) : Els k τs us G':=⟨h.1,fun i τ u h1 h2=>⟨(h.2 i τ u h1 h2).1,τ.mono hle (h.2 i τ u h1 h2).2⟩⟩
theorem Els.nil {k : Option Nat} {G : Gh} : Els k [] [] G:=⟨rfl,fun i τ u h=>by simp at h⟩
theorem Els.shaped {k : Option Nat} {τs : List MT} {us : List Value} {G : Gh} (h : Els k τs us G) : ∀ u ∈ us,Shaped k u:=fun u hu=>by
  obtain ⟨i,hi,e⟩:=List.getElem_of_mem hu
  have hi' : i < τs.length:=by rw [← h.1];exact hi
  exact (h.2 i τs[i] u (by simp [hi']) (by simp [hi,e])).1
theorem Els.sizes {k : Option Nat} {τs : List MT} {us : List Value} {G : Gh} (h : Els k τs us G) : ∀ u ∈ us,u.cells.size = k.getD 1:=fun u hu=>shaped_size (h.shaped u hu)
theorem Els.app {k : Option Nat} {τs σs : List MT} {us vs : List Value} {G : Gh} (h : Els k τs us G) (h' : Els k σs vs G) : Els k (τs ++ σs) (us ++ vs) G:=by
  refine ⟨by simp [h.1,h'.1],fun i τ u h1 h2=>?_⟩
  rw [List.getElem?_append] at h1 h2
  rw [h.1] at h2
  split at h1
  · rename_i hlt;rw [if_pos hlt] at h2;exact h.2 i τ u h1 h2
  · rename_i hlt;rw [if_neg hlt] at h2;exact h'.2 _ τ u h1 h2
theorem Els.one {k : Option Nat} {τ : MT} {u : Value} {G : Gh} (hs : Shaped k u) (h : τ.t u G) : Els k [τ] [u] G:=⟨rfl,fun i t v h1 h2=>by
  match i,h1,h2 with
  | 0,h1,h2=>cases h1;cases h2;exact ⟨hs,h⟩⟩
theorem Els.cons {k : Option Nat} {τ : MT} {τs : List MT} {u : Value} {us : List Value} {G : Gh} (hs : Shaped k u) (h : τ.t u G) (hr : Els k τs us G) : Els k (τ :: τs) (u :: us) G:=(Els.one hs h).app hr
theorem Els.set {k : Option Nat} {τs : List MT} {us : List Value} {G : Gh} {τ : MT} {u : Value} {i : Nat} (h : Els k τs us G) (hs : Shaped k u) (hu : τ.t u G) : Els k (τs.set i τ) (us.set i u) G:=by
  refine ⟨by simp [h.1],fun j t v h1 h2=>?_⟩
  rw [List.getElem?_set] at h1 h2
  split at h1
  · rename_i e;rw [if_pos e] at h2
    split at h1
    · split at h2
      · cases h1;cases h2;exact ⟨hs,hu⟩
      · cases h2
    · cases h1
  · rename_i e;rw [if_neg e] at h2;exact h.2 j t v h1 h2
theorem Els.take {k : Option Nat} {τs : List MT} {us : List Value} {G : Gh} (n : Nat) (h : Els k τs us G) : Els k (τs.take n) (us.take n) G:=by
  refine ⟨by simp [h.1],fun j t v h1 h2=>?_⟩
  rw [List.getElem?_take] at h1 h2
  split at h1
  · rename_i e;rw [if_pos e] at h2;exact h.2 j t v h1 h2
  · cases h1
theorem Els.drop {k : Option Nat} {τs : List MT} {us : List Value} {G : Gh} (n : Nat) (h : Els k τs us G) : Els k (τs.drop n) (us.drop n) G:=by
  refine ⟨by simp [h.1],fun j t v h1 h2=>?_⟩
  rw [List.getElem?_drop] at h1 h2
  exact h.2 _ t v h1 h2
theorem Els.replicate {k : Option Nat} {τ : MT} {u : Value} {G : Gh} (n : Nat) (hs : Shaped k u) (h : τ.t u G) : Els k (List.replicate n τ) (List.replicate n u) G:=⟨by simp,fun i t v h1 h2=>by
  rw [List.getElem?_replicate] at h1 h2
  split at h1
  · rename_i e;rw [if_pos e] at h2;cases h1;cases h2;exact ⟨hs,h⟩
  · cases h1⟩
theorem flat_one {us : List Value} {k : Option Nat} (h : ∀ u ∈ us,Shaped k u) : ∀ c ∈ flat us,c.oneCell' = true:=fun c hc=>by
  obtain ⟨u,hu,hcu⟩:=List.mem_flatMap.1 hc
  exact shaped_cells (h u hu) c hcu
def Lies (G : Gh) (A : Option Addr) (s : Nat) (us : List Value) : Prop:=∀ (i : Nat) (u : Value),us[i]? = some u → ∃ b off,A = some ⟨b,off,none⟩ ∧ ∀ j x,u.cells[j]? = some x → Gc G b (off + i * s + j) = some x
theorem LS.vals {k : Option Nat} {τs : List MT} {v : Value} {G : Gh} (h : (LS k τs).t v G) : ∃ A c us,v = .slice A τs.length c ∧ τs.length ≤ c ∧ τs.length ≤ LIM ∧ Els k τs us G ∧ Lies G A (k.getD 1) us:=by
  obtain ⟨A,c,h1,h2,h3,h4⟩:=h
  have h5 : ∀ i : Nat,∃ u : Value,i < τs.length → (∀ τ,τs[i]? = some τ → Shaped k u ∧ τ.t u G) ∧ ∃ b off,A = some ⟨b,off,none⟩ ∧ ∀ j x,u.cells[j]? = some x → Gc G b (off + i * k.getD 1 + j) = some x:=fun i=>by
    by_cases hi : i < τs.length
    · obtain ⟨b,off,e,hE⟩:=h4 i τs[i] (by simp [hi])
      cases k with
      | none =>
        obtain ⟨u,hu1,hu2,hu3⟩:=hE
        refine ⟨u,fun _=>⟨fun τ hτ=>by rw [List.getElem?_eq_getElem hi] at hτ;cases hτ;exact ⟨hu3,hu2⟩,b,off,e,fun j x hx=>?_⟩⟩
        rw [hu3.1] at hx
        match j,hx with
        | 0,hx=>cases hx;simpa using hu1
        | j + 1,hx=>simp at hx
      | some n =>
        obtain ⟨cs,hc1,hc2,hc3,hc4⟩:=hE
        exact ⟨.agg cs,fun _=>⟨fun τ hτ=>by rw [List.getElem?_eq_getElem hi] at hτ;cases hτ;exact ⟨⟨cs,rfl,hc1,hc4⟩,hc3⟩,b,off,e,fun j x hx=>hc2 j x hx⟩⟩
    · exact ⟨undef,fun h=>absurd h hi⟩
  obtain ⟨f,hf⟩ : ∃ f : Nat → Value,∀ i,i < τs.length → (∀ τ,τs[i]? = some τ → Shaped k (f i) ∧ τ.t (f i) G) ∧ ∃ b off,A = some ⟨b,off,none⟩ ∧ ∀ j x,(f i).cells[j]? = some x → Gc G b (off + i * k.getD 1 + j) = some x:=⟨fun i=>(h5 i).choose,fun i=>(h5 i).choose_spec⟩
  refine ⟨A,c,(List.range τs.length).map f,h1,h2,h3,⟨by simp,fun i τ u hi hu=>?_⟩,fun i u hu=>?_⟩
  · have hlt:=(List.getElem?_eq_some_iff.1 hi).1
    simp [List.getElem?_range hlt] at hu
    subst hu;exact (hf i hlt).1 τ hi
  · have hlt : i < τs.length:=by have:=(List.getElem?_eq_some_iff.1 hu).1;simpa using this
    simp [List.getElem?_range hlt] at hu
    subst hu;exact (hf i hlt).2
theorem LS.of_vals {k : Option Nat} {τs : List MT} {v : Value} {G : Gh} {A : Option Addr} {c : Nat} {us : List Value} (h1 : v = .slice A τs.length c) (h2 : τs.length ≤ c) (h3 : τs.length ≤ LIM) (h4 : Els k τs us G) (h5 : Lies G A (k.getD 1) us) : (LS k τs).t v G:=by
  refine ⟨A,c,h1,h2,h3,fun i τ hi=>?_⟩
  have hlt:=(List.getElem?_eq_some_iff.1 hi).1
  have hlu : i < us.length:=by rw [h4.1];exact hlt
  obtain ⟨hs,ht⟩:=h4.2 i τ us[i] hi (by simp [hlu])
  obtain ⟨b,off,e,hc⟩:=h5 i us[i] (by simp [hlu])
  refine ⟨b,off,e,?_⟩
  cases k with
  | none =>
    refine ⟨us[i],?_,ht,hs⟩
    have:=hc 0 us[i] (by rw [hs.1];rfl)
    simpa using this
  | some n =>
    obtain ⟨cs,e1,e2,e3⟩:=hs
    rw [e1] at hc ht
    exact ⟨cs,e2,fun j x hx=>hc j x hx,ht,e3⟩
theorem Lies.all {G : Gh} {b off s : Nat} {us : List Value} (h : Lies G (some ⟨b,off,none⟩) s us) (hs : ∀ u ∈ us,u.cells.size = s) : ∀ m x,(flat us)[m]? = some x → Gc G b (off + m) = some x:=fun m x hm=>by
  obtain ⟨i,j,u,h1,h2,_,h4⟩:=flat_inv hs hm
  obtain ⟨b',off',e,hc⟩:=h i u h1
  cases e
  rw [h2,← Nat.add_assoc];exact hc j x h4
theorem Lies.block {G : Gh} {b s : Nat} {us : List Value} {rest : List Value} {ty : TypeId} {fr : Nat × Nat} (hs : ∀ u ∈ us,u.cells.size = s) (hG : G b = some (.cells (flat us ++ rest).toArray ty fr)) : Lies G (some ⟨b,0,none⟩) s us:=fun i u hu=>by
  refine ⟨b,0,rfl,fun j x hx=>?_⟩
  have hsu:=hs u (List.mem_of_getElem? hu)
  have hj : j < s:=by have:=(Array.getElem?_eq_some_iff.1 hx).1;omega
  have:=flat_get hs hu hj
  rw [hx] at this
  have hlt:=(List.getElem?_eq_some_iff.1 this).1
  unfold Gc;rw [hG,Nat.zero_add]
  simp only [List.getElem?_toArray]
  rw [List.getElem?_append_left hlt,this]
def ROWS (k : Option Nat) (τs : List MT) : MT:=⟨fun v G=>∃ us rest,v = .agg (flat us ++ rest).toArray ∧ Els k τs us G,fun hle ⟨us,rest,h1,h2⟩=>⟨us,rest,h1,h2.mono hle⟩⟩
def OWNS (k : Option Nat) (e : TypeId) (v : Value) (own : List BX) (τs : List MT) : Prop :=
  (v = .slice none 0 0 ∧ own = [] ∧ τs = []) ∨ ∃ b c,v = .slice (some ⟨b,0,none⟩) τs.length c ∧ own = [⟨b,e,some (c * k.getD 1),ROWS k τs⟩] ∧ τs.length ≤ c
theorem OWNS.nil {k : Option Nat} {e : TypeId} : OWNS k e (.slice none 0 0) [] []:=.inl ⟨rfl,rfl,rfl⟩
section
variable {P : Program} {W0 : World} {G0 : Gh} {N : Nat} {L : List (Nat × MT)} {B Bh own : List BX} {a : Act} {w : World} {G : Gh} {fn : Func} {o : Oper} {τ : MT}
variable {ops : Array Oper} {rest : List Oper} {Q : Exit → Act → World → Prop} {k : Option Nat} {e : TypeId} {v : Value} {τs σs : List MT}
theorem Shp.rows {c : Nat} {us : List Value} {r : List Value} (h1 : Els k τs us G) (h2 : ∀ x ∈ r,x.oneCell' = true) (h3 : (flat us ++ r).length = c) : Shaped (some c) (.agg (flat us ++ r).toArray) :=
  ⟨_,rfl,by simpa using h3,fun x hx=>by
    have hx : x ∈ flat us ++ r:=by simpa using hx
    rcases List.mem_append.1 hx with h | h
    · exact flat_one h1.shaped x h
    · exact h2 x h⟩
theorem cell_block {b i : Nat} {cs : Array Value} {ty : TypeId} {fr : Nat × Nat} {x : Value} (h : w.heap[b]? = some (.cells cs ty fr)) (hx : cs[i]? = some x) : w.cell? ⟨b,i,none⟩ = some x:=by simpa [World.cell?,h] using hx
theorem OpR.buildS {t bytes n : Nat} {z : Value} {ps : Array (Nat × Operand)} {us : List Value} (hok : Gok w G) (ho : o.op = .buildSlice t n ps) (ht : P.underlying t = some (.slice e)) (he : elS P e (k.getD 1) bytes z) (hk : (decide (0 < k.getD 1)) = true) (hn : n * k.getD 1 ≤ 16777216) (hn0 : 0 < n)
    (hps : (ps.map fun (i,x)=>(i,a.eval x)).toList = (us.zipIdx 0).map fun x=>(x.2,x.1)) (hl : us.length = n) (hE : Els k τs us G) : OpR P o a w G (LS k τs):=by
  obtain ⟨i,hi,h1,h2,h3⟩:=elS_of he
  have hk:=of_decide_eq_true hk
  have hsz:=hE.sizes
  have hfill:=Great.fill_whole (s:=k.getD 1) hk us ((Array.range (n * i.size)).map (z.cells[· % z.cells.size]!)) hsz (by simp [hl,h1])
  rw [← h1] at hfill
  have hps2 : (ps.map fun (i,x)=>(i,a.eval x)) = ((us.zipIdx 0).map fun x=>(x.2,x.1)).toArray:=by rw [← hps]
  have hb:=run_buildSlice (P:=P) w t e n ((us.zipIdx 0).map fun x=>(x.2,x.1)).toArray (us.flatMap fun v=>v.cells.toList).toArray i z ht hi h3 (by rw [h1];omega) (by rw [h1];have:=Nat.mul_pos hn0 hk;omega) (by simpa using hfill)
  refine .run' (w':=w.alloc (.cells (flat us ++ []).toArray e)) (G':=Gput G w.heap.size (.cells (flat us ++ []).toArray e)) (v:=.slice (some ⟨w.heap.size,0,none⟩) n n) ?_ (Nxt.allocPut hok _) ?_
  · rw [List.append_nil]
    simp only [execOp,ho,Sem.run_bind,hps2]
    rw [hb];rfl
  · have hle:=(Nxt.allocPut (w:=w) hok (.cells (flat us ++ []).toArray e)).le
    have hlen : n = τs.length:=by rw [← hl,hE.1]
    subst hlen
    refine LS.of_vals rfl (Nat.le_refl _) ?_ (hE.mono hle) (Lies.block (rest:=[]) (ty:=e) (fr:=(0,0)) hsz (by simp [Gput]))
    have : τs.length * 1 ≤ τs.length * k.getD 1:=Nat.mul_le_mul_left _ hk
    simp only [LIM];omega
theorem made_flat {z : Value} {n s : Nat} (hz : z.cells.size = s) : (madeCells z.cells (n * s)).toList = flat (List.replicate n z):=by
  have hs : ∀ u ∈ List.replicate n z,u.cells.size = s:=fun u hu=>by rw [(List.mem_replicate.1 hu).2,hz]
  apply List.ext_getElem?
  intro m
  by_cases hm : m < n * s
  · have hs0 : 0 < s := by rcases Nat.eq_zero_or_pos s with h | h
                           · subst h;simp at hm
                           · exact h
    have hq : m / s < n:=(Nat.div_lt_iff_lt_mul hs0).2 hm
    have hr : m % s < s:=Nat.mod_lt _ hs0
    have e:=flat_get hs (i:=m / s) (u:=z) (by simp [List.getElem?_replicate,hq]) hr
    rw [Nat.div_add_mod'] at e
    rw [e]
    simp [madeCells,hm,hz,hr]
  · rw [List.getElem?_eq_none (by simp [madeCells];omega),List.getElem?_eq_none (by rw [flat_len hs];simp;omega)]
theorem St.mkS (S : St W0 G0 N L B a w G) {d n bytes t : Nat} {x y : Operand} {m m' : Int} {z : Value} {k1 k2 : IntKind} (ho : o.op = .makeSlice t x y) (hd : o.dst = some d) (hg : o.guard = none) (ht : P.underlying t = some (.slice e)) (he : elS P e (k.getD 1) bytes z) (hz : Shaped k z) (hτ : τ.t z G)
    (hx : a.eval x = .int k1 m) (hy : a.eval y = .int k2 m') (hm : m = (n : Int)) (hm' : m' = (n : Int)) (hn : n * bytes ≤ 281474976710656) (hn' : n ≤ 281474976710656) (hdN : (decide (d < N)) = true) (hf : fresh d L = true)
    (K : ∀ b a' w' G',St W0 G0 N ((d,.ex (.slice (some ⟨b,0,none⟩) n n)) :: L) (⟨b,e,some (n * k.getD 1),ROWS k (List.replicate n τ)⟩ :: B) a' w' G' → wpList P ops Q rest a' w') : wpList P ops Q (o :: rest) a w :=
  wpList_plain hg fun K' hK=>by
    subst hm hm'
    obtain ⟨i,hi,h1,h2,h3⟩:=elS_of he
    have hmk:=run_make (P:=P) w t e i z ht hi h3 k1 k2 (n : Int) (n : Int) (by omega) (Int.le_refl _) (by rw [h2,show (bytes : Int) * (n : Int) = ((n * bytes : Nat) : Int) from by rw [Int.natCast_mul,Int.mul_comm]];omega) (by omega)
    simp only [Int.toNat_natCast,h1] at hmk
    have hzs : z.cells.size = k.getD 1:=shaped_size hz
    have hmc : madeCells z.cells (n * k.getD 1) = (flat (List.replicate n z) ++ []).toArray:=by
      rw [← made_flat hzs];simp
    have hEl : Els k (List.replicate n τ) (List.replicate n z) G:=Els.replicate n hz hτ
    have hsh : Shaped (some (n * k.getD 1)) (.agg (flat (List.replicate n z) ++ []).toArray):=Shp.rows hEl (fun x hx=>by simp at hx) (by rw [List.append_nil,flat_len hEl.sizes];simp)
    have hr : (execOp a.eval o).run P w = .ok (.value (.slice (some ⟨w.heap.size,0,none⟩) n n)) (w.alloc (.cells (flat (List.replicate n z) ++ []).toArray e)):=by
      rw [hmc] at hmk
      simp [execOp,ho,hx,hy,hmk]
    unfold Oper.wp
    rw [hr]
    simp only [Oper.upon,hd]
    have S':=(S.newVar (v:=.agg (flat (List.replicate n z) ++ []).toArray) (t:=e) (k:=some (n * k.getD 1)) (τ:=ROWS k (List.replicate n τ)) hsh ⟨_,_,rfl,hEl⟩).put (v:=.slice (some ⟨w.heap.size,0,none⟩) n n) (of_decide_eq_true hdN) hf (τ:=.ex (.slice (some ⟨w.heap.size,0,none⟩) n n)) rfl (Nxt.refl (S.ok.alloc _))
    exact hK _ _ (K w.heap.size _ _ G S')
theorem OpR.ldS {x : Operand} {t ty : TypeId} {b i n : Nat} (hok : Gok w G) (ho : o.op = .load t x) (hx : a.eval x = .pointer (some ⟨b,i * k.getD 1,none⟩)) (hb : BX.ok ⟨b,ty,some n,ROWS k τs⟩ W0 w G) (hT : tyS P t k = true) (hi : τs[i]? = some τ) : OpR P o a w G τ:=by
  obtain ⟨_,_,v,hv,hs,us,r,rfl,hE⟩:=hb
  have hlt:=(List.getElem?_eq_some_iff.1 hi).1
  obtain ⟨u,hui⟩ : ∃ u,us[i]? = some u:=⟨us[i]'(by rw [hE.1];exact hlt),by simp⟩
  obtain ⟨hsu,htu⟩:=hE.2 i τ _ hi hui
  have hcell : ∀ j x,u.cells[j]? = some x → w.cell? ⟨b,i * k.getD 1 + j,none⟩ = some x:=fun j x hj=>by
    have hjs : j < k.getD 1:=by have:=(Array.getElem?_eq_some_iff.1 hj).1;rw [shaped_size hsu] at this;exact this
    have e1:=flat_get hE.sizes hui hjs
    rw [hj] at e1
    have hl:=(List.getElem?_eq_some_iff.1 e1).1
    refine cell_block hv ?_
    show (flat us ++ r).toArray[_]? = _
    rw [List.getElem?_toArray,List.getElem?_append_left hl,e1]
  cases k with
  | none =>
    have h0:=hcell 0 _ (by rw [hsu.1];rfl)
    obtain ⟨h1,h2⟩:=tyS_none hT w
    refine .run hok (v:=u) ?_ htu
    simp only [Option.getD_none,Nat.add_zero,Nat.mul_one] at h0 hx
    simp [execOp,ho,hx,Instr.loadAt,Instr.sureAddr,loadVar,h1,h0]
  | some m =>
    obtain ⟨cs,e1,e2,e3⟩:=hsu
    rw [e1] at hcell htu
    refine .run hok (v:=.agg cs) ?_ htu
    obtain ⟨h1,h2⟩:=tyS_some hT w
    have hl:=run_loadCells_list (P:=P) (w:=w) ⟨b,i * m,none⟩ cs.toList (fun j v hj=>by
      rw [addr_add];exact hcell j v (show cs[j]? = some v by simpa using hj))
    simp only [Array.length_toList,e2] at hl
    simp only [Option.getD_some] at hx
    simp [execOp,ho,hx,Instr.loadAt,Instr.sureAddr,loadVar,h1,h2,hl]
theorem St.setS (S : St W0 G0 N L B a w G) (i0 : Nat) {b i n : Nat} {ty t : TypeId} {x y : Operand} (ho : o.op = .store t x y) (hd : o.dst = none) (hg : o.guard = none) (hi : B[i0]? = some ⟨b, ty, some n, ROWS k τs⟩) (hx : a.eval x = .pointer (some ⟨b, i * k.getD 1, none⟩)) (hT : tyS P t k = true)
    (hv : τ.t (a.eval y) G) (hs : Shaped k (a.eval y)) (hlt : i < τs.length)
    (K : ∀ w',St W0 G0 N L (B.set i0 ⟨b,ty,some n,ROWS k (τs.set i τ)⟩) a w' G → wpList P ops Q rest a w') : wpList P ops Q (o :: rest) a w:=by
  have hbnd : i * k.getD 1 + k.getD 1 ≤ n:=by
    obtain ⟨_,_,v,_,hsv,us,r,rfl,hE⟩:=S.bx i0 _ hi
    obtain ⟨cs,e1,e2,_⟩:=cells_one hsv
    injection e1 with e1
    have : (flat us ++ r).length = n:=by rw [← e2,← e1];simp
    rw [List.length_append,flat_len hE.sizes,hE.1] at this
    have h2 : (i + 1) * k.getD 1 ≤ τs.length * k.getD 1:=Nat.mul_le_mul_right _ hlt
    rw [Nat.succ_mul] at h2;omega
  refine S.storeAt i0 ho hd hg hi hx hT hs hbnd (fun cs hcs hc=>?_) K
  obtain ⟨us,r,e,hE⟩:=hc
  injection e with e
  subst e
  refine ⟨us.set i (a.eval y),r,?_,hE.set hs hv⟩
  have hlu : i < us.length:=by rw [hE.1];exact hlt
  rw [flat_set hE.sizes hlu (shaped_size hs)]
  congr 2
  show List.take _ (flat us ++ r) ++ _ ++ List.drop _ (flat us ++ r) = _
  have hfl : i * k.getD 1 + k.getD 1 ≤ (flat us).length:=by
    rw [flat_len hE.sizes,← Nat.succ_mul];exact Nat.mul_le_mul_right _ hlu
  rw [List.take_append_of_le_length (by omega),List.drop_append_of_le_length hfl]
  simp [List.append_assoc]
theorem Lies.take {A : Option Addr} {us : List Value} {s n : Nat} (h : Lies G A s us) : Lies G A s (us.take n):=fun j u hu=>by
  rw [List.getElem?_take] at hu
  split at hu
  · exact h j u hu
  · cases hu
theorem Elt.part {n m off : Nat} {k' : Option Nat} {τ' : MT} {b i : Nat} (h : Elt (some n) τ G b i) (hoff : off + k'.getD 1 ≤ n) (hf : ∀ v,τ.t v G → Shaped (some n) v → ∃ u,Shaped k' u ∧ τ'.t u G ∧ ∀ j x,u.cells[j]? = some x → v.cells[off + j]? = some x) : Elt k' τ' G b (i + off):=by
  obtain ⟨cs,h1,h2,h3,h4⟩:=h
  obtain ⟨u,hs,hu,hc⟩:=hf _ h3 ⟨cs,rfl,h1,h4⟩
  have hcell : ∀ j x,u.cells[j]? = some x → Gc G b (i + off + j) = some x:=fun j x hj=>by
    rw [Nat.add_assoc];exact h2 _ x (hc j x hj)
  cases k' with
  | none=>exact ⟨u,by have:=hcell 0 u (by rw [hs.1];rfl);simpa using this,hu,hs⟩
  | some m =>
    obtain ⟨cs',e1,e2,e3⟩:=hs
    rw [e1] at hcell hu
    exact ⟨cs',e2,fun j x hj=>hcell j x hj,hu,e3⟩
theorem OpR.fldE {x : Operand} {s f off n : Nat} {k' : Option Nat} {τ' : MT} (hok : Gok w G) (ho : o.op = .fieldAddr s x f) (hx : (PE (some n) τ).t (a.eval x) G) (hf : fldOff P s f = some off) (hoff : (decide (off + k'.getD 1 ≤ n)) = true)
    (h : ∀ v,τ.t v G → Shaped (some n) v → ∃ u,Shaped k' u ∧ τ'.t u G ∧ ∀ j x,u.cells[j]? = some x → v.cells[off + j]? = some x) : OpR P o a w G (PE k' τ'):=by
  obtain ⟨b,i,hx,hE⟩:=hx
  exact OpR.fldA hok ho hx hf ⟨b,i + off,rfl,hE.part (m:=0) (of_decide_eq_true hoff) h⟩
def PTS (fs : List (Option Nat × MT)) : MT:=⟨fun v G=>∃ us,v = .agg (flat us).toArray ∧ us.length = fs.length ∧ ∀ (i : Nat) (f : Option Nat × MT) (u : Value),fs[i]? = some f → us[i]? = some u → Shaped f.1 u ∧ f.2.t u G,
  fun hle ⟨us,h1,h2,h3⟩=>⟨us,h1,h2,fun i f u hf hu=>⟨(h3 i f u hf hu).1,f.2.mono hle (h3 i f u hf hu).2⟩⟩⟩
def offs (fs : List (Option Nat × MT)) (i : Nat) : Nat:=((fs.take i).map fun f=>f.1.getD 1).sum
theorem flat_at {us : List Value} {i j : Nat} {u : Value} (hu : us[i]? = some u) {x : Value} (hx : u.cells[j]? = some x) : (flat us)[((us.take i).map fun u=>u.cells.size).sum + j]? = some x:=by
  induction us generalizing i with
  | nil=>simp at hu
  | cons v us ih =>
    rw [flat_cons]
    cases i with
    | zero =>
      have e : v = u:=by simpa using hu
      subst e
      have hlt:=(Array.getElem?_eq_some_iff.1 hx).1
      rw [List.getElem?_append_left (by simp;omega)]
      simpa using hx
    | succ i =>
      rw [List.take_succ_cons,List.map_cons,List.sum_cons,List.getElem?_append_right (by simp;omega)]
      have:=ih (i:=i) (by simpa using hu)
      rw [← this];congr 1;simp;omega
theorem sizes_eq {fs : List (Option Nat × MT)} {us : List Value} (hl : us.length = fs.length) (h : ∀ (i : Nat) (f : Option Nat × MT) (u : Value),fs[i]? = some f → us[i]? = some u → u.cells.size = f.1.getD 1) : (us.map fun u=>u.cells.size) = fs.map fun f=>f.1.getD 1:=by
  apply List.ext_getElem?
  intro i
  rw [List.getElem?_map,List.getElem?_map]
  by_cases hi : i < us.length
  · have hi' : i < fs.length:=by omega
    rw [List.getElem?_eq_getElem hi,List.getElem?_eq_getElem hi']
    simp [h i fs[i] us[i] (by simp [hi']) (by simp [hi])]
  · rw [List.getElem?_eq_none (by omega),List.getElem?_eq_none (by omega)];rfl
theorem PTS.part {fs : List (Option Nat × MT)} {f : Option Nat × MT} {off : Nat} (i : Nat) (hi : fs[i]? = some f) (hoff : offs fs i = off) {v : Value} {k0 : Option Nat} (h : (PTS fs).t v G) (_ : Shaped k0 v) : ∃ u,Shaped f.1 u ∧ f.2.t u G ∧ ∀ j x,u.cells[j]? = some x → v.cells[off + j]? = some x:=by
  obtain ⟨us,rfl,h2,h3⟩:=h
  have hlt:=(List.getElem?_eq_some_iff.1 hi).1
  obtain ⟨u,hu⟩ : ∃ u,us[i]? = some u:=⟨us[i]'(by omega),by simp⟩
  obtain ⟨hs,ht⟩:=h3 i f u hi hu
  refine ⟨u,hs,ht,fun j x hx=>?_⟩
  have:=flat_at hu hx
  have e:=sizes_eq h2 fun i f u hf hu=>shaped_size (h3 i f u hf hu).1
  rw [← hoff]
  unfold offs
  rw [List.map_take,← e,← List.map_take]
  simpa [Value.cells] using this
theorem part_load {k' : Option Nat} {τ' : MT} {v : Value} {off : Nat} (h : ∃ u, Shaped k' u ∧ τ'.t u G ∧ ∀ j x, u.cells[j]? = some x → v.cells[off + j]? = some x) (h0 : (decide (0 < k'.getD 1)) = true) : match k' with
    | none=>∃ u,v.cells[off]? = some u ∧ τ'.t u G
    | some n=>off + n ≤ v.cells.size ∧ τ'.t (.agg (v.cells.extract off (off + n))) G:=by
  obtain ⟨u,hs,hu,hc⟩:=h
  cases k' with
  | none=>exact ⟨u,by have:=hc 0 u (by rw [hs.1];rfl);simpa using this,hu⟩
  | some n =>
    obtain ⟨cs,rfl,e2,e3⟩:=hs
    have hsz : off + n ≤ v.cells.size:=by
      have h0 : 0 < n:=of_decide_eq_true h0
      have:=(Array.getElem?_eq_some_iff.1 (hc (n - 1) cs[n - 1] (by simp [Value.cells]))).1;omega
    refine ⟨hsz,?_⟩
    have : v.cells.extract off (off + n) = cs:=by
      apply Array.ext_getElem?
      intro j
      by_cases hj : j < n
      · rw [Array.getElem?_extract,if_pos (by omega)]
        have:=hc j cs[j] (by simp [Value.cells])
        rw [this];simp
      · rw [Array.getElem?_eq_none (by simp;omega),Array.getElem?_eq_none (by omega)]
    rw [this];exact hu
theorem PTS.shaped {fs : List (Option Nat × MT)} {n : Nat} (hn : offs fs fs.length = n) {v : Value} (h : (PTS fs).t v G) : Shaped (some n) v:=by
  obtain ⟨us,rfl,h2,h3⟩:=h
  refine ⟨_,rfl,?_,fun c hc=>?_⟩
  · have e:=sizes_eq h2 fun i f u hf hu=>shaped_size (h3 i f u hf hu).1
    unfold offs at hn
    rw [List.take_length] at hn
    rw [← hn,← e]
    clear h2 h3 e
    induction us with
    | nil=>rfl
    | cons u us ih=>simp [flat_cons];simpa using ih
  · have hc : c ∈ flat us:=by simpa using hc
    obtain ⟨u,hu,hcu⟩:=List.mem_flatMap.1 hc
    obtain ⟨i,hi,e⟩:=List.getElem_of_mem hu
    exact shaped_cells (h3 i fs[i] u (by simp [← h2,hi]) (by simp [hi,e])).1 c hcu
instance {fs : List (Option Nat × MT)} : Shp (PTS fs) (some (offs fs fs.length)):=⟨fun {_ _} h=>PTS.shaped rfl h⟩
theorem OpR.bldP {t : TypeId} {ps : Array (Nat × Operand)} {us : List Value} {fs : List (Option Nat × MT)} (hok : Gok w G) (ho : o.op = .build t ps) (hb : P.built t ((ps.map fun (i, x) => (i, a.eval x)).toList) = some (flat us).toArray) (hl : us.length = fs.length)
    (hE : ∀ (i : Nat) (f : Option Nat × MT) (u : Value),fs[i]? = some f → us[i]? = some u → Shaped f.1 u ∧ f.2.t u G) : OpR P o a w G (PTS fs) :=
  OpR.bld hok ho hb ⟨us,rfl,hl,hE⟩
theorem pts_nil : ∀ (i : Nat) (f : Option Nat × MT) (u : Value),([] : List (Option Nat × MT))[i]? = some f → ([] : List Value)[i]? = some u → Shaped f.1 u ∧ f.2.t u G:=fun i f u h=>by simp at h
theorem pts_cons {k : Option Nat} {fs : List (Option Nat × MT)} {u0 : Value} {us : List Value} (hs : Shaped k u0) (h : τ.t u0 G) (hr : ∀ (i : Nat) (f : Option Nat × MT) (u : Value), fs[i]? = some f → us[i]? = some u → Shaped f.1 u ∧ f.2.t u G) :
    ∀ (i : Nat) (f : Option Nat × MT) (u : Value),((k,τ) :: fs)[i]? = some f → (u0 :: us)[i]? = some u → Shaped f.1 u ∧ f.2.t u G:=fun i f u h1 h2=>by
  cases i with
  | zero=>cases h1;cases h2;exact ⟨hs,h⟩
  | succ i=>exact hr i f u h1 h2
variable {α : Type} {T : α → MT} {xs ys : List α}
theorem map_get [Inhabited α] {i : Nat} (h : i < xs.length) : (xs.map T)[i]? = some (T (xs.getD i default)):=by simp [h]
theorem OpR.lenM {x : Operand} {t : TypeId} (hok : Gok w G) (ho : o.op = .call { callee := .builtin .len, args := #[x], argTypes := #[t] }) (ht : P.underlying t = some (.slice e)) (hx : (LS k (xs.map T)).t (a.eval x) G)
    (h : τ.t (nv .i64 xs.length) G) : OpR P o a w G τ:=.lenS hok ho ht hx (by rw [List.length_map];exact h)
theorem OpR.ixM [Inhabited α] {x y : Operand} {t i : Nat} {m : Int} {k' : IntKind} (hok : Gok w G) (ho : o.op = .indexAddr t x y) (ht : P.underlying t = some (.slice e)) (hs : tyS P e k = true)
    (hx : (LS k (xs.map T)).t (a.eval x) G) (hy : a.eval y = .int k' m) (hm : m = (i : Int)) (hi : i < xs.length) : OpR P o a w G (PE k (T (xs.getD i default))):=.ixS hok ho ht hs hx hy hm (map_get hi)
theorem OpR.ldSM [Inhabited α] {x : Operand} {t ty : TypeId} {b i n : Nat} (hok : Gok w G) (ho : o.op = .load t x) (hx : a.eval x = .pointer (some ⟨b,i * k.getD 1,none⟩)) (hb : BX.ok ⟨b,ty,some n,ROWS k (xs.map T)⟩ W0 w G) (hT : tyS P t k = true) (hi : i < xs.length) : OpR P o a w G (T (xs.getD i default)):=.ldS hok ho hx hb hT (map_get hi)
theorem St.setSM (S : St W0 G0 N L B a w G) (i0 : Nat) {b i n : Nat} {ty t : TypeId} {x y : Operand} {z : α} (ho : o.op = .store t x y) (hd : o.dst = none) (hg : o.guard = none) (hi : B[i0]? = some ⟨b, ty, some n, ROWS k (xs.map T)⟩) (hx : a.eval x = .pointer (some ⟨b, i * k.getD 1, none⟩)) (hT : tyS P t k = true)
    (hv : (T z).t (a.eval y) G) (hs : Shaped k (a.eval y)) (hlt : i < xs.length)
    (K : ∀ w',St W0 G0 N L (B.set i0 ⟨b,ty,some n,ROWS k ((xs.set i z).map T)⟩) a w' G → wpList P ops Q rest a w') : wpList P ops Q (o :: rest) a w :=
  S.setS i0 ho hd hg hi hx hT hv hs (by rw [List.length_map];exact hlt) (by rw [← List.map_set];exact K)
theorem ROWS.sl {b n c : Nat} {ty : TypeId} {u : Value} (h : (ROWS k τs).t u G) (hg : G b = some (.cells u.cells ty (0,0))) (hn : n = τs.length) (hc : n ≤ c) (hlim : n ≤ LIM) (hv : v = .slice (some ⟨b,0,none⟩) n c) : (LS k τs).t v G:=by
  obtain ⟨us,r,rfl,hE⟩:=h
  subst hn
  exact LS.of_vals hv hc hlim hE (Lies.block hE.sizes hg)
end
end Go.Proofs.YtpbkcbnghhodiaaGreat
namespace Go.Proofs.YtpbkcbnghhodiaaGreat
set_option maxHeartbeats 1000000
set_option maxRecDepth 100000
open Go.RowKit (Below)
private theorem c_140 : callable Tryz.prog 140 = true:=by kernel_rfl
private theorem it_3 : intTy Tryz.prog 3 .i64 = true:=by kernel_rfl
private theorem it_5 : intTy Tryz.prog 5 .u8 = true:=by kernel_rfl
theorem len32_ok {t : Nat} {v1 : Value} {W0 : World} {G0 : Gh} (hok : Gok W0 G0) (h1 : (MT.ex (nv .u32 (t))).t v1 G0) (ht : t < 4294967296) : Calls Tryz.prog 140 #[v1] W0 (Ret W0 G0 (NT (blen t))):=by
 refine St.enter (N:=19) (L:=[(0,MT.ex (nv .u32 (t)))]) (args:=[v1]) Tryz.func140 rfl rfl rfl hok (enter1 h1) fun a S=>?_
 refine wp_reg fun K hK=>?_
 refine S.s (τ:=NT 0) (OpR.asn S.ok rfl (rfl : _ = nv .i64 0)) rfl fun a w G S=>?_
 refine wn hK ?_;clear hK K
 refine wp_seq_k fun K hK=>?_
 refine wp_reg fun K hK=>?_
 refine S.m rfl (S.g 1 rfl) rfl fun a w G S=>?_
 refine S.s (OpR.ngeq S.ok rfl (S.e 0 rfl) (rfl : _ = nv .u32 65536) MT.self) rfl fun a w G S=>?_
 refine wn hK ?_;clear hK K
 replace S:=S.d1
 refine S.cond 0 rfl (fun hc1=>?_) (fun hc1=>?_)
 ·
  have hp2:=of_decide_eq_true hc1
  refine wp_reg fun K hK=>?_
  refine S.m rfl (S.g 2 rfl) rfl fun a w G S=>?_
  refine S.s (OpR.nshr S.ok rfl (S.e 0 rfl) (rfl : _ = nv .u64 16) (by decide) MT.self) rfl fun a w G S=>?_
  replace S:=S.d4
  refine S.q rfl (S.g 0 rfl) rfl fun a w G S=>?_
  refine wn hK ?_;clear hK K
  replace S:=S.d2.d1
  refine wp_region_lit ?_
  replace S:=S.d2
  refine S.s (τ:=NT 16) (OpR.asn S.ok rfl (rfl : _ = nv .i64 16)) rfl fun a w G S=>?_
  refine wpList_nil ?_
  refine hK _ _ ?_;clear hK K
  refine wp_seq_k fun K hK=>?_
  refine wp_reg fun K hK=>?_
  refine S.m rfl (S.g 1 rfl) rfl fun a w G S=>?_
  refine S.s (OpR.ngeq S.ok rfl (S.e 0 rfl) (rfl : _ = nv .u32 256) MT.self) rfl fun a w G S=>?_
  refine wn hK ?_;clear hK K
  replace S:=S.d1
  refine S.cond 0 rfl (fun hc3=>?_) (fun hc3=>?_)
  ·
   have hp4:=of_decide_eq_true hc3
   refine wp_reg fun K hK=>?_
   refine S.m rfl (S.g 2 rfl) rfl fun a w G S=>?_
   refine S.s (OpR.nshr S.ok rfl (S.e 0 rfl) (rfl : _ = nv .u64 8) (by decide) MT.self) rfl fun a w G S=>?_
   replace S:=S.d4
   refine S.q rfl (S.g 0 rfl) rfl fun a w G S=>?_
   refine wn hK ?_;clear hK K
   replace S:=S.d2.d1
   refine wp_region_lit ?_
   refine S.m rfl (S.g 2 rfl) rfl fun a w G S=>?_
   refine S.s (OpR.nadd S.ok rfl (S.e 0 rfl) (rfl : _ = nv .i64 8) (wr_i64 (by omega)) MT.self) rfl fun a w G S=>?_
   replace S:=S.d4
   refine S.q rfl (S.g 0 rfl) rfl fun a w G S=>?_
   refine wpList_nil ?_
   replace S:=S.d2.d1
   refine hK _ _ ?_;clear hK K
   refine wp_reg fun K hK=>?_
   refine S.m rfl (S.g 0 rfl) rfl fun a w G S=>?_
   refine S.m rfl (S.g 2 rfl) rfl fun a w G S=>?_
   refine S.s (OpR.nconv S.ok rfl (S.e 0 rfl) it_141 it_5 (wr_u8 (by omega)) MT.self) rfl fun a w G S=>?_
   refine S.s (τ:=MT.ex (nv .u8 (blen ((t / 2 ^ 16) / 2 ^ 8)))) (OpR.idxTab (f:=blen) S.ok rfl Tryz.underlying9 rfl (S.e 0 rfl) (by omega) (by kernel_rfl) rfl) rfl fun a w G S=>?_
   refine S.s (OpR.nconv S.ok rfl (S.e 0 rfl) it_5 it_3 (wr_i64 (Nat.lt_of_le_of_lt (blen_le (k:=8) (by omega)) (by decide))) MT.self) rfl fun a w G S=>?_
   refine S.s (OpR.nadd S.ok rfl (S.e 4 rfl) (S.e 0 rfl) (wr_i64 (Nat.lt_of_le_of_lt (Nat.add_le_add_left (blen_le (k:=8) (by omega)) _) (by decide))) MT.self) rfl fun a w G S=>?_
   replace S:=S.d6
   refine S.q rfl (S.g 0 rfl) rfl fun a w G S=>?_
   refine wn hK ?_;clear hK K
   replace S:=S.d6.d5.d4.d3.d2.d1
   exact wp_ret (S.retTmp rfl ((S.e 0 rfl).trans (nv_eq (len32_d ‹_› ‹_›))))
  ·
   have hp5:=of_decide_eq_false hc3
   refine wp_skip ?_
   refine hK _ _ ?_;clear hK K
   refine wp_reg fun K hK=>?_
   refine S.m rfl (S.g 1 rfl) rfl fun a w G S=>?_
   refine S.m rfl (S.g 3 rfl) rfl fun a w G S=>?_
   refine S.s (OpR.nconv S.ok rfl (S.e 0 rfl) it_141 it_5 (wr_u8 (by omega)) MT.self) rfl fun a w G S=>?_
   refine S.s (τ:=MT.ex (nv .u8 (blen (t / 2 ^ 16)))) (OpR.idxTab (f:=blen) S.ok rfl Tryz.underlying9 rfl (S.e 0 rfl) (by omega) (by kernel_rfl) rfl) rfl fun a w G S=>?_
   refine S.s (OpR.nconv S.ok rfl (S.e 0 rfl) it_5 it_3 (wr_i64 (Nat.lt_of_le_of_lt (blen_le (k:=8) (by omega)) (by decide))) MT.self) rfl fun a w G S=>?_
   refine S.s (OpR.nadd S.ok rfl (S.e 4 rfl) (S.e 0 rfl) (wr_i64 (Nat.lt_of_le_of_lt (Nat.add_le_add_left (blen_le (k:=8) (by omega)) _) (by decide))) MT.self) rfl fun a w G S=>?_
   replace S:=S.d7
   refine S.q rfl (S.g 0 rfl) rfl fun a w G S=>?_
   refine wn hK ?_;clear hK K
   replace S:=S.d6.d5.d4.d3.d2.d1
   exact wp_ret (S.retTmp rfl ((S.e 0 rfl).trans (nv_eq (len32_c ‹_›))))
 ·
  have hp6:=of_decide_eq_false hc1
  refine wp_skip ?_
  refine hK _ _ ?_;clear hK K
  refine wp_seq_k fun K hK=>?_
  refine wp_reg fun K hK=>?_
  refine S.m rfl (S.g 2 rfl) rfl fun a w G S=>?_
  refine S.s (OpR.ngeq S.ok rfl (S.e 0 rfl) (rfl : _ = nv .u32 256) MT.self) rfl fun a w G S=>?_
  refine wn hK ?_;clear hK K
  replace S:=S.d1
  refine S.cond 0 rfl (fun hc7=>?_) (fun hc7=>?_)
  ·
   have hp8:=of_decide_eq_true hc7
   refine wp_reg fun K hK=>?_
   refine S.m rfl (S.g 3 rfl) rfl fun a w G S=>?_
   refine S.s (OpR.nshr S.ok rfl (S.e 0 rfl) (rfl : _ = nv .u64 8) (by decide) MT.self) rfl fun a w G S=>?_
   replace S:=S.d5
   refine S.q rfl (S.g 0 rfl) rfl fun a w G S=>?_
   refine wn hK ?_;clear hK K
   replace S:=S.d2.d1
   refine wp_region_lit ?_
   refine S.m rfl (S.g 3 rfl) rfl fun a w G S=>?_
   refine S.s (OpR.nadd S.ok rfl (S.e 0 rfl) (rfl : _ = nv .i64 8) (wr_i64 (by omega)) MT.self) rfl fun a w G S=>?_
   replace S:=S.d5
   refine S.q rfl (S.g 0 rfl) rfl fun a w G S=>?_
   refine wpList_nil ?_
   replace S:=S.d2.d1
   refine hK _ _ ?_;clear hK K
   refine wp_reg fun K hK=>?_
   refine S.m rfl (S.g 0 rfl) rfl fun a w G S=>?_
   refine S.m rfl (S.g 2 rfl) rfl fun a w G S=>?_
   refine S.s (OpR.nconv S.ok rfl (S.e 0 rfl) it_141 it_5 (wr_u8 (by omega)) MT.self) rfl fun a w G S=>?_
   refine S.s (τ:=MT.ex (nv .u8 (blen (t / 2 ^ 8)))) (OpR.idxTab (f:=blen) S.ok rfl Tryz.underlying9 rfl (S.e 0 rfl) (by omega) (by kernel_rfl) rfl) rfl fun a w G S=>?_
   refine S.s (OpR.nconv S.ok rfl (S.e 0 rfl) it_5 it_3 (wr_i64 (Nat.lt_of_le_of_lt (blen_le (k:=8) (by omega)) (by decide))) MT.self) rfl fun a w G S=>?_
   refine S.s (OpR.nadd S.ok rfl (S.e 4 rfl) (S.e 0 rfl) (wr_i64 (Nat.lt_of_le_of_lt (Nat.add_le_add_left (blen_le (k:=8) (by omega)) _) (by decide))) MT.self) rfl fun a w G S=>?_
   replace S:=S.d6
   refine S.q rfl (S.g 0 rfl) rfl fun a w G S=>?_
   refine wn hK ?_;clear hK K
   replace S:=S.d6.d5.d4.d3.d2.d1
   exact wp_ret (S.retTmp rfl ((S.e 0 rfl).trans (nv_eq (len32_b ‹_›))))
  ·
   have hp9:=of_decide_eq_false hc7
   refine wp_skip ?_
   refine hK _ _ ?_;clear hK K
   refine wp_reg fun K hK=>?_
   refine S.m rfl (S.g 2 rfl) rfl fun a w G S=>?_
   refine S.m rfl (S.g 4 rfl) rfl fun a w G S=>?_
   refine S.s (OpR.nconv S.ok rfl (S.e 0 rfl) it_141 it_5 (wr_u8 (by omega)) MT.self) rfl fun a w G S=>?_
   refine S.s (τ:=MT.ex (nv .u8 (blen (t)))) (OpR.idxTab (f:=blen) S.ok rfl Tryz.underlying9 rfl (S.e 0 rfl) (by omega) (by kernel_rfl) rfl) rfl fun a w G S=>?_
   refine S.s (OpR.nconv S.ok rfl (S.e 0 rfl) it_5 it_3 (wr_i64 (Nat.lt_of_le_of_lt (blen_le (k:=8) (by omega)) (by decide))) MT.self) rfl fun a w G S=>?_
   refine S.s (OpR.nadd S.ok rfl (S.e 4 rfl) (S.e 0 rfl) (wr_i64 (Nat.lt_of_le_of_lt (Nat.add_le_add_left (blen_le (k:=8) (by omega)) _) (by decide))) MT.self) rfl fun a w G S=>?_
   replace S:=S.d8
   refine S.q rfl (S.g 0 rfl) rfl fun a w G S=>?_
   refine wn hK ?_;clear hK K
   replace S:=S.d6.d5.d4.d3.d2.d1
   exact wp_ret (S.retTmp rfl ((S.e 0 rfl).trans (nv_eq len32_a)))
theorem lz32_ok {t : Nat} {v1 : Value} {W0 : World} {G0 : Gh} (hok : Gok W0 G0) (h1 : (MT.ex (nv .u32 (t))).t v1 G0) (ht : t < 4294967296) : Calls Tryz.prog 132 #[v1] W0 (Ret W0 G0 (NT (32 - blen t))):=by
 have hb:=blen_le (n:=t) (k:=32) (by omega)
 refine St.enter (N:=6) (L:=[(0,MT.ex (nv .u32 (t)))]) (args:=[v1]) Tryz.func132 rfl rfl rfl hok (enter1 h1) fun a S=>?_
 refine wp_reg fun K hK=>?_
 refine S.s (τ:=NT 0) (OpR.asn S.ok rfl (rfl : _ = nv .i64 0)) rfl fun a w G S=>?_
 refine wn hK ?_;clear hK K
 refine wp_reg fun K hK=>?_
 refine S.m rfl (S.g 1 rfl) rfl fun a w G S=>?_
 refine S.s (τ:=NT (blen t)) (OpR.call1 rfl c_140 (len32_ok S.ok (S.g 0 rfl) (by omega))) rfl fun a w G S=>?_
 refine S.s (OpR.nsub S.ok rfl (rfl : _ = nv .i64 32) (S.e 0 rfl) (by omega) (wr_i64 (by omega)) MT.self) rfl fun a w G S=>?_
 replace S:=S.d3
 refine S.q rfl (S.g 0 rfl) rfl fun a w G S=>?_
 refine wn hK ?_;clear hK K
 replace S:=S.d4.d3.d2.d1
 exact wp_ret (S.retTmp rfl ((S.e 0 rfl).trans (nv_eq (by first | rfl | omega | (simp only [Nat.zero_add,Nat.add_zero];done) | (simp;done) | (push_cast;omega)))))
end Go.Proofs.YtpbkcbnghhodiaaGreat
