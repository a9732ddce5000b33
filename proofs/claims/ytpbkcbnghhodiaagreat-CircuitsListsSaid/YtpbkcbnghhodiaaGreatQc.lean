import Derived.Test.YtpbkcbnghhodiaaGreatQb
set_option linter.unusedVariables false
set_option linter.unusedSimpArgs false
namespace Go.Proofs.YtpbkcbnghhodiaaGreat
set_option maxHeartbeats 1000000
set_option maxRecDepth 100000
open Go.RowKit (Below)
private theorem c_104 : callable Tryz.prog 104 = true:=by kernel_rfl
private theorem c_127 : callable Tryz.prog 127 = true:=by kernel_rfl
private theorem c_131 : callable Tryz.prog 131 = true:=by kernel_rfl
private theorem c_132 : callable Tryz.prog 132 = true:=by kernel_rfl
private theorem c_133 : callable Tryz.prog 133 = true:=by kernel_rfl
private theorem c_134 : callable Tryz.prog 134 = true:=by kernel_rfl
private theorem c_135 : callable Tryz.prog 135 = true:=by kernel_rfl
private theorem c_136 : callable Tryz.prog 136 = true:=by kernel_rfl
private theorem el_141 : elS Tryz.prog 141 1 4 (.int .u32 0):=by unfold elS;kernel_rfl
private theorem it_141 : intTy Tryz.prog 141 .u32 = true:=by kernel_rfl
private theorem it_147 : intTy Tryz.prog 147 .u64 = true:=by kernel_rfl
private theorem mixedOrders : Tryz.prog.follows .mixedOrders = true:=by kernel_rfl
private theorem tS_141 : tyS Tryz.prog 141 (none) = true:=by kernel_rfl
theorem divide_ok {na nb x y : Nat} {v1 v2 : Value} {W0 : World} {G0 : Gh} (hok : Gok W0 G0) (h1 : (SN na x).t v1 G0) (h2 : (SN nb y).t v2 G0) (hy : y ≠ 0) (hna : na ≤ BIG) (hnb : nb ≤ BIG) : Calls Tryz.prog 119 #[v1,v2] W0 (Ret W0 G0 (MT.tup2 (SN na (x / y)) (SN nb (x % y)))):=by
 have hla:=words_length_bits (SN.lt h1)
 have hlb:=words_length_bits (SN.lt h2)
 simp only [BIG] at hna hnb
 have hdb : x / y < 2 ^ na:=div_lt_pow (SN.lt h1)
 have hmb : x % y < 2 ^ nb:=Nat.lt_trans (Nat.mod_lt _ (Nat.pos_of_ne_zero hy)) (SN.lt h2)
 have hLp:=len_pos hy
 have hyb:=SN.lt h2
 have hdt:=dig_lt (wfl_words y) ((words y).length - 1)
 refine St.enter (N:=158) (L:=[(1,SN nb y),(0,SN na x)]) (args:=[v1,v2]) Tryz.func119 rfl rfl rfl hok (enter2 h1 h2) fun a S=>?_
 refine wp_reg fun K hK=>?_
 refine S.s (τ:=MT.ex (Value.slice none 0 0)) (OpR.asn S.ok rfl rfl) rfl fun a w G S=>?_
 refine S.s (τ:=MT.ex (Value.slice none 0 0)) (OpR.asn S.ok rfl rfl) rfl fun a w G S=>?_
 refine wn hK ?_;clear hK K
 refine wp_seq_k fun K hK=>?_
 refine wp_reg fun K hK=>?_
 refine S.m rfl (S.g 3 rfl) rfl fun a w G S=>?_
 refine S.m rfl (S.g 3 rfl) rfl fun a w G S=>?_
 refine S.s (τ:=IT (cmpN x y)) (OpR.call2 rfl c_104 (compare_ok S.ok (S.g 1 rfl) (S.g 0 rfl))) rfl fun a w G S=>?_
 refine S.s (OpR.ilss S.ok rfl (S.e 0 rfl) (rfl : _ = nv .i64 0) MT.self) rfl fun a w G S=>?_
 refine wn hK ?_;clear hK K
 replace S:=S.d3.d2.d1
 refine S.cond 0 rfl (fun hc1=>?_) (fun hc1=>?_)
 ·
  have hp2:=of_decide_eq_true hc1
  refine wp_reg fun K hK=>?_
  refine S.m rfl (S.g 4 rfl) rfl fun a w G S=>?_
  refine S.s (τ:=SN na x) (OpR.call1 rfl c_127 (trim_ok S.ok (SN.toSV (S.g 0 rfl)))) rfl fun a w G S=>?_
  replace S:=S.d4
  refine S.s (τ:=MT.ex (Value.slice none 0 0)) (OpR.asn S.ok rfl rfl) rfl fun a w G S=>?_
  replace S:=S.d4
  refine S.q rfl (S.g 1 rfl) rfl fun a w G S=>?_
  refine wn hK ?_;clear hK K
  replace S:=S.d3.d2
  exact wp_ret (then_ret (S.retTmp2 rfl (SN_nil_of (S.e 1 rfl) (Nat.div_eq_of_lt (cmpN_neg.1 ‹_›))) (SN.cast (S.g 0 rfl) (Nat.mod_eq_of_lt (cmpN_neg.1 ‹_›)).symm hmb)))
 ·
  have hp3:=of_decide_eq_false hc1
  have hxy : y ≤ x:=Nat.not_lt.1 fun h=>hp3 (cmpN_neg.2 h)
  have hll : (words y).length ≤ (words x).length:=Nat.not_lt.1 fun h=>absurd (lt_of_len h) (by omega)
  refine wp_skip ?_
  refine hK _ _ ?_;clear hK K
  refine wp_seq_k fun K hK=>?_
  refine wp_reg fun K hK=>?_
  refine S.m rfl (S.g 3 rfl) rfl fun a w G S=>?_
  refine S.s (OpR.lenL S.ok rfl Tryz.underlying22 (SN.toSL (S.g 0 rfl)) MT.self) rfl fun a w G S=>?_
  refine S.s (OpR.neql S.ok rfl (S.e 0 rfl) (rfl : _ = nv .i64 1) MT.self) rfl fun a w G S=>?_
  refine wn hK ?_;clear hK K
  replace S:=S.d2.d1
  refine S.cond 0 rfl (fun hc4=>?_) (fun hc4=>?_)
  ·
   have hp5:=of_decide_eq_true hc4
   have hd0:=dig_zero_one hp5
   have hdl:=dig_lt (wfl_words y) 0
   have hm:=Nat.mod_lt x (show 0 < dig (words y) 0 by omega)
   refine wp_reg fun K hK=>?_
   refine S.m rfl (S.g 5 rfl) rfl fun a w G S=>?_
   refine S.m rfl (S.g 5 rfl) rfl fun a w G S=>?_
   refine S.s (τ:=PE (none) (MT.ex (nv .u32 (dig (words (y)) (0))))) (OpR.ixL (i:=0) S.ok rfl Tryz.underlying22 tS_141 (SN.toSL (S.g 0 rfl)) (rfl : _ = nv .i64 0) rfl (dig_get (by first | omega | (simp;omega)))) rfl fun a w G S=>?_
   refine S.s (OpR.ldE S.ok rfl tS_141 (S.g 0 rfl)) rfl fun a w G S=>?_
   refine S.s (τ:=MT.tup2 (SN na (x / (dig (words (y)) (0)))) (MT.ex (nv .u32 (x % (dig (words (y)) (0)))))) (OpR.call2 rfl c_131 (short_ok S.ok (S.g 3 rfl) ((S.e 0 rfl).trans (nv_eq (by first | rfl | omega | (simp only [Nat.zero_add,Nat.add_zero];done) | (simp;done) | (push_cast;omega)))) (by omega) (by omega))) rfl fun a w G S=>?_
   refine S.m rfl (S.g 0 rfl) rfl fun a w G S=>?_
   refine S.s (OpR.ext2a S.ok rfl (S.g 0 rfl)) rfl fun a w G S=>?_
   refine S.s (OpR.ext2b S.ok rfl (S.g 1 rfl)) rfl fun a w G S=>?_
   refine S.q rfl (S.g 1 rfl) rfl fun a w G S=>?_
   refine S.q rfl (S.g 1 rfl) rfl fun a w G S=>?_
   refine wn hK ?_;clear hK K
   replace S:=S.d9.d8.d7.d6.d5.d4.d3.d2
   refine wp_reg fun K hK=>?_
   refine S.m rfl (S.g 1 rfl) rfl fun a w G S=>?_
   refine S.m rfl (S.g 1 rfl) rfl fun a w G S=>?_
   refine S.s (τ:=SL ([x % (dig (words (y)) (0))])) (OpR.build32 S.ok rfl Tryz.underlying22 el_141 (by omega) rfl (by simp [wfl] <;> omega) (fill1 (S.e 0 rfl))) rfl fun a w G S=>?_
   refine S.s (τ:=SN nb (x % dig (words y) 0)) (OpR.call1 rfl c_127 (trim_ok S.ok (SL.asSV (S.g 0 rfl) ⟨by simp [val],by rw [hd0];exact hmb⟩))) rfl fun a w G S=>?_
   replace S:=S.d9
   refine S.q rfl (S.g 3 rfl) rfl fun a w G S=>?_
   replace S:=S.d9
   refine S.q rfl (S.g 1 rfl) rfl fun a w G S=>?_
   refine wn hK ?_;clear hK K
   replace S:=S.d7.d6.d5.d4.d3.d2
   exact wp_ret (then_ret (S.retTmp2 rfl (SN.eq (S.g 1 rfl) (by rw [hd0])) (SN.eq (S.g 0 rfl) (by rw [hd0]))))
  ·
   have hp6:=of_decide_eq_false hc4
   have hL2 : 2 ≤ (words y).length:=by omega
   refine wp_skip ?_
   refine hK _ _ ?_;clear hK K
   refine wp_reg fun K hK=>?_
   refine S.m rfl (S.g 4 rfl) rfl fun a w G S=>?_
   refine S.m rfl (S.g 5 rfl) rfl fun a w G S=>?_
   refine S.s (OpR.lenL S.ok rfl Tryz.underlying22 (SN.toSL (S.g 0 rfl)) MT.self) rfl fun a w G S=>?_
   refine S.s (τ:=IT ((((words (y)).length : Nat) : Int) - ((1 : Nat) : Int))) (OpR.isub S.ok rfl (S.e 0 rfl) (rfl : _ = nv .i64 1) (iw_i64 (by omega) (by omega))) rfl fun a w G S=>?_
   refine S.s (τ:=PE (none) (MT.ex (nv .u32 (dig (words (y)) ((words y).length - 1))))) (OpR.ixL (i:=(words y).length - 1) S.ok rfl Tryz.underlying22 tS_141 (SN.toSL (S.g 3 rfl)) (S.e 0 rfl) (by omega) (dig_get (by first | omega | (simp;omega)))) rfl fun a w G S=>?_
   refine S.s (OpR.ldE S.ok rfl tS_141 (S.g 0 rfl)) rfl fun a w G S=>?_
   refine S.s (τ:=NT (32 - blen (dig (words (y)) ((words y).length - 1)))) (OpR.call1 rfl c_132 (lz32_ok S.ok ((S.e 0 rfl).trans (nv_eq (by first | rfl | omega | (simp only [Nat.zero_add,Nat.add_zero];done) | (simp;done) | (push_cast;omega)))) (by omega))) rfl fun a w G S=>?_
   refine S.q rfl (S.g 0 rfl) rfl fun a w G S=>?_
   refine wn hK ?_;clear hK K
   replace S:=S.d7.d6.d5.d4.d3.d2.d1
   obtain ⟨s,hs⟩ : ∃ s,s = 32 - blen (dig (words (y)) ((words y).length - 1)):=⟨_,rfl⟩
   obtain ⟨hs32,hys⟩:=shift_ok hy hs
   replace S:=S.also (t:=8) (τ:=MT.ex (nv .i64 s)) ((S.e 0 rfl).trans (nv_eq hs.symm))
   replace S:=S.d1
   refine wp_seq_k fun K hK=>?_
   refine S.drawn [⟨47,.g (SN nb y),[]⟩,⟨48,.g (NT s),[]⟩,⟨49,.g (ARS ((words y).length + 1) (fun l=>wfl l ∧ val l = y * 2 ^ s) ((words y).length + 1)),[0,1]⟩,⟨50,.g (SN nb y),[]⟩,⟨51,.g (NT ((words (y)).length)),[3]⟩,⟨52,.g (ARS ((words y).length + 1) (fun l=>wfl l ∧ val l = y * 2 ^ s) ((words (y)).length)),[2,4]⟩,⟨53,.g (SN na x),[]⟩,⟨54,.g (NT s),[]⟩,⟨55,.al (mkS ((words x).length + 1)) 141 (some ((words x).length + 1)) (ARR ((words x).length + 1) (fun l=>wfl l ∧ val l = x * 2 ^ s)),[6,7]⟩] mixedOrders (by kernel_rfl)
    ⟨fun a w G S=>.of rfl (OpR.mv S.ok rfl (S.g 5 rfl)),
     fun a w G S=>.of rfl (OpR.mv S.ok rfl (S.g 0 rfl)),
     fun a w G S=>.of rfl (OpR.call2 rfl c_133 (up_im S.ok (S.g 0 rfl) (S.g 1 rfl) (by omega) (by first | omega | assumption))),
     fun a w G S=>.of rfl (OpR.mv S.ok rfl (S.g 5 rfl)),
     fun a w G S=>.of rfl (OpR.lenL S.ok rfl Tryz.underlying22 (SN.toSL (S.g 0 rfl)) MT.self),
     fun a w G S=>.of rfl (OpR.cutAR S.ok rfl Tryz.underlying22 tS_141 (S.g 0 rfl) (S.e 1 rfl) (by omega)),
     fun a w G S=>.of rfl (OpR.mv S.ok rfl (S.g 6 rfl)),
     fun a w G S=>.of rfl (OpR.mv S.ok rfl (S.g 0 rfl)),
     ⟨fun _=>rfl,rfl,fun a w G S=>OpB.call2 rfl c_133 (up_ok S.ok (S.g 0 rfl) (S.g 1 rfl) (by omega))⟩,trivial⟩ fun β a w G S=>?_
   replace S : St W0 G0 158 [(55,MT.ex (Value.slice (some ⟨(β 8),0,none⟩) ((words x).length + 1) ((words x).length + 1))),(52,ARS ((words y).length + 1) (fun l=>wfl l ∧ val l = y * 2 ^ s) ((words (y)).length)),(8,NT s),(27,BT (decide (((words (y)).length) = 1))),(22,BT (decide ((cmpN x y) < 0))),(5,MT.ex (Value.slice none 0 0)),(4,MT.ex (Value.slice none 0 0)),(1,SN nb y),(0,SN na x)] [⟨(β 8),141,some ((words x).length + 1),ARR ((words x).length + 1) (fun l=>wfl l ∧ val l = x * 2 ^ s)⟩] a _ _:=S.keep [0,3,9,10,11,12,13,14,15]
   generalize β 8 = b55 at S
   refine S.q rfl (S.g 1 rfl) rfl fun a w G S=>?_
   refine S.q rfl (S.g 1 rfl) rfl fun a w G S=>?_
   refine wn hK ?_;clear hK K
   replace S:=S.d3.d2
   obtain ⟨vl,hvl,hvp,hv9⟩:=S.g 1 rfl
   obtain ⟨hvL,hvw,hvv,hvt⟩:=v_facts hy hL2 hys hvl hvp
   generalize vl.take (words y).length = vs at hv9 hvL hvw hvv hvt
   replace S:=S.also (t:=9) (τ:=SL vs) hv9
   obtain ⟨us,hul,⟨huw,huv⟩,S⟩:=S.openArr 0 rfl
   replace S : St W0 G0 158 [(9,SL vs),(10,MT.ex (Value.slice (some ⟨b55,0,none⟩) ((words x).length + 1) ((words x).length + 1))),(9,ARS ((words y).length + 1) (fun l=>wfl l ∧ val l = y * 2 ^ s) ((words (y)).length)),(8,NT s),(27,BT (decide (((words (y)).length) = 1))),(22,BT (decide ((cmpN x y) < 0))),(5,MT.ex (Value.slice none 0 0)),(4,MT.ex (Value.slice none 0 0)),(1,SN nb y),(0,SN na x)] [⟨b55,141,some ((words x).length + 1),MT.ex (Value.agg (ucells (us)).toArray)⟩] a _ _:=S
   have hd0:=dig_lt hvw (vs.length - 1)
   have hd1:=dig_lt hvw (vs.length - 2)
   replace S:=S.d2
   refine wp_reg fun K hK=>?_
   refine S.m rfl (S.g 1 rfl) rfl fun a w G S=>?_
   refine S.s (OpR.lenA S.ok rfl Tryz.underlying22 (S.e 0 rfl) MT.self) rfl fun a w G S=>?_
   refine S.m rfl (S.g 2 rfl) rfl fun a w G S=>?_
   refine S.s (OpR.lenL S.ok rfl Tryz.underlying22 (S.g 0 rfl) MT.self) rfl fun a w G S=>?_
   refine S.s (OpR.nsub S.ok rfl (S.e 2 rfl) (S.e 0 rfl) (by omega) (wr_i64 (by omega)) MT.self) rfl fun a w G S=>?_
   refine S.mkSlice (n:=((words x).length + 1) - vs.length) rfl rfl rfl Tryz.underlying22 el_141 (S.e 0 rfl) (S.e 0 rfl) rfl rfl (by omega) (by omega) rfl rfl fun b61 a w G S=>?_
   refine S.q rfl (S.g 0 rfl) rfl fun a w G S=>?_
   refine wn hK ?_;clear hK K
   replace S:=S.d6.d5.d4.d3.d2.d1
   refine wp_seq_k fun K hK=>?_
   refine S.drawn [⟨62,.g (SL vs),[]⟩,⟨63,.g (SL vs),[]⟩,⟨64,.g (NT vs.length),[1]⟩,⟨65,.g (IT (((vs.length : Nat) : Int) - ((1 : Nat) : Int))),[2]⟩,⟨66,.g (PE (none) (MT.ex (nv .u32 (dig (vs) (vs.length - 1))))),[0,3]⟩,⟨67,.g (MT.ex (nv .u32 (dig (vs) (vs.length - 1)))),[4]⟩,⟨68,.g (MT.ex (nv .u64 (dig (vs) (vs.length - 1)))),[5]⟩,⟨69,.g (SL vs),[]⟩,⟨70,.g (SL vs),[]⟩,⟨71,.g (NT vs.length),[8]⟩,⟨72,.g (IT (((vs.length : Nat) : Int) - ((2 : Nat) : Int))),[9]⟩,⟨73,.g (PE (none) (MT.ex (nv .u32 (dig (vs) (vs.length - 2))))),[7,10]⟩,⟨74,.g (MT.ex (nv .u32 (dig (vs) (vs.length - 2)))),[11]⟩,⟨75,.g (MT.ex (nv .u64 (dig (vs) (vs.length - 2)))),[12]⟩,⟨12,.g (MT.ex (nv .u64 (dig (vs) (vs.length - 1)))),[6]⟩,⟨13,.g (MT.ex (nv .u64 (dig (vs) (vs.length - 2)))),[13]⟩] mixedOrders (by kernel_rfl)
    ⟨fun a w G S=>.of rfl (OpR.mv S.ok rfl (S.g 1 rfl)),
     fun a w G S=>.of rfl (OpR.mv S.ok rfl (S.g 1 rfl)),
     fun a w G S=>.of rfl (OpR.lenL S.ok rfl Tryz.underlying22 (S.g 0 rfl) MT.self),
     fun a w G S=>.of rfl (OpR.isub S.ok rfl (S.e 0 rfl) (rfl : _ = nv .i64 1) (iw_i64 (by omega) (by omega))),
     fun a w G S=>.of rfl (OpR.ixL (i:=vs.length - 1) S.ok rfl Tryz.underlying22 tS_141 (S.g 0 rfl) (S.e 1 rfl) (by omega) (dig_get (by first | omega | (simp;omega)))),
     fun a w G S=>.of rfl (OpR.ldE S.ok rfl tS_141 (S.g 0 rfl)),
     fun a w G S=>.of rfl (OpR.nconv S.ok rfl (S.e 0 rfl) it_141 it_147 (wr_u64 (by omega)) MT.self),
     fun a w G S=>.of rfl (OpR.mv S.ok rfl (S.g 1 rfl)),
     fun a w G S=>.of rfl (OpR.mv S.ok rfl (S.g 1 rfl)),
     fun a w G S=>.of rfl (OpR.lenL S.ok rfl Tryz.underlying22 (S.g 0 rfl) MT.self),
     fun a w G S=>.of rfl (OpR.isub S.ok rfl (S.e 0 rfl) (rfl : _ = nv .i64 2) (iw_i64 (by omega) (by omega))),
     fun a w G S=>.of rfl (OpR.ixL (i:=vs.length - 2) S.ok rfl Tryz.underlying22 tS_141 (S.g 0 rfl) (S.e 1 rfl) (by omega) (dig_get (by first | omega | (simp;omega)))),
     fun a w G S=>.of rfl (OpR.ldE S.ok rfl tS_141 (S.g 0 rfl)),
     fun a w G S=>.of rfl (OpR.nconv S.ok rfl (S.e 0 rfl) it_141 it_147 (wr_u64 (by omega)) MT.self),
     fun a w G S=>.of rfl (OpR.asn S.ok rfl (S.g 0 rfl)),
     fun a w G S=>.of rfl (OpR.asn S.ok rfl (S.g 0 rfl)),trivial⟩ fun β a w G S=>?_
   replace S : St W0 G0 158 [(13,MT.ex (nv .u64 (dig (vs) (vs.length - 2)))),(12,MT.ex (nv .u64 (dig (vs) (vs.length - 1)))),(11,MT.ex (Value.slice (some ⟨b61,0,none⟩) (((words x).length + 1) - vs.length) (((words x).length + 1) - vs.length))),(9,SL vs),(10,MT.ex (Value.slice (some ⟨b55,0,none⟩) ((words x).length + 1) ((words x).length + 1))),(8,NT s),(27,BT (decide (((words (y)).length) = 1))),(22,BT (decide ((cmpN x y) < 0))),(5,MT.ex (Value.slice none 0 0)),(4,MT.ex (Value.slice none 0 0)),(1,SN nb y),(0,SN na x)] [⟨b61,141,some (((words x).length + 1) - vs.length),MT.ex (Value.agg (ucells (List.replicate (((words x).length + 1) - vs.length) 0)).toArray)⟩,⟨b55,141,some ((words x).length + 1),MT.ex (Value.agg (ucells (us)).toArray)⟩] a _ _:=S.keep [0,1,16,17,18,19,20,21,22,23,24,25]
   refine wn hK ?_;clear hK K
   refine wp_seq_k fun K hK=>?_
   refine wp_reg fun K hK=>?_
   refine S.m rfl (S.g 2 rfl) rfl fun a w G S=>?_
   refine S.s (OpR.lenA S.ok rfl Tryz.underlying22 (S.e 0 rfl) MT.self) rfl fun a w G S=>?_
   refine S.s (τ:=IT (((((words x).length + 1) - vs.length : Nat) : Int) - ((1 : Nat) : Int))) (OpR.isub S.ok rfl (S.e 0 rfl) (rfl : _ = nv .i64 1) (iw_i64 (by omega) (by omega))) rfl fun a w G S=>?_
   refine S.q rfl (S.g 0 rfl) rfl fun a w G S=>?_
   refine wn hK ?_;clear hK K
   replace S:=S.d3.d2.d1
   refine wp_block ?_
   replace S:=S.also (t:=14) (τ:=IT (((((words x).length + 1 - vs.length) : Nat) : Int) - ((1 : Nat) : Int))) ((S.e 0 rfl).trans (iv_eq (by first | rfl | omega | (simp only [Nat.zero_add,Nat.add_zero];done) | (simp;done) | (push_cast;omega))))
   replace S:=S.castBox (τ':=MT.ex (Value.agg (ucells ((List.replicate (((words x).length + 1) - vs.length) 0))).toArray)) 0 rfl fun _ h _=>Eq.trans h (congrArg (fun l=>Value.agg (ucells l).toArray) (by simp))
   replace S:=S.n0
   have hV0 : 0 < val vs:=by rw [hvv];exact Nat.mul_pos (Nat.pos_of_ne_zero hy) (Nat.pow_pos (by decide))
   refine wp_loopJ (fun μ a w=>∃ (k : Nat) (l : List Nat) (qq : List Nat) (G : Gh),μ = k ∧ (k ≤ (words x).length + 1 - vs.length) ∧ (l.length = (words x).length + 1) ∧ (wfl l) ∧ (qq.length = (words x).length + 1 - vs.length) ∧ (wfl qq) ∧ (val l < val vs * 4294967296 ^ k) ∧ (val l + val vs * (4294967296 ^ k * val (qq.drop k)) = x * 2 ^ s) ∧  St W0 G0 158 [(14,IT (((k : Nat) : Int) - ((1 : Nat) : Int))),(13,MT.ex (nv .u64 (dig (vs) (vs.length - 2)))),(12,MT.ex (nv .u64 (dig (vs) (vs.length - 1)))),(11,MT.ex (Value.slice (some ⟨b61,0,none⟩) (((words x).length + 1) - vs.length) (((words x).length + 1) - vs.length))),(9,SL vs),(10,MT.ex (Value.slice (some ⟨b55,0,none⟩) ((words x).length + 1) ((words x).length + 1))),(8,NT s),(27,BT (decide (((words (y)).length) = 1))),(22,BT (decide ((cmpN x y) < 0))),(5,MT.ex (Value.slice none 0 0)),(4,MT.ex (Value.slice none 0 0)),(1,SN nb y),(0,SN na x)] [⟨b61,141,some (((words x).length + 1) - vs.length),MT.ex (Value.agg (ucells (qq)).toArray)⟩,⟨b55,141,some ((words x).length + 1),MT.ex (Value.agg (ucells (l)).toArray)⟩] a w G) (((words x).length + 1 - vs.length)) ⟨((words x).length + 1 - vs.length),us,List.replicate (((words x).length + 1) - vs.length) 0,_,rfl,(Nat.le_refl _),hul,huw,(by simp),(wfl_replicate _),(div_start hs32 huv hvv hy hll hvL),(by rw [List.drop_of_length_le (by simp)];simpa [val] using huv),(S.keep [0,2,3,4,5,6,7,8,9,10,11,12,13]).keepB [0,1] (by decide)⟩ ?_
   clear S
   intro μ a w ⟨k,l,qq,G,hm,hk,hl,hlw,hqq,hqw,hlt,hinv,S⟩
   refine wp_seq_k fun K hK=>?_
   refine wp_reg fun K hK=>?_
   refine S.m rfl (S.g 0 rfl) rfl fun a w G S=>?_
   refine S.s (OpR.igeq S.ok rfl (S.e 0 rfl) (rfl : _ = nv .i64 0) MT.self) rfl fun a w G S=>?_
   refine wn hK ?_;clear hK K
   replace S:=S.d1
   refine S.cond 0 rfl (fun hc7=>?_) (fun hc7=>?_)
   ·
    have hp8:=of_decide_eq_true hc7
    have hk1 : 1 ≤ k:=by omega
    have hlt2:=lt_step hk1 hlt
    have hinv2:=inv_step hk1 hinv
    have hDG:=mkDG (j:=k - 1) (by omega) hvw hvt hlw hlt2
    have hu0:=dig_lt hlw (k - 1 + vs.length)
    have hu1:=dig_lt hlw (k - 1 + (vs.length - 1))
    have hu2:=dig_lt hlw (k - 1 + (vs.length - 2))
    refine wp_skip ?_
    refine hK _ _ ?_;clear hK K
    refine wp_seq_k fun K hK=>?_
    refine wp_block ?_
    refine wp_reg fun K hK=>?_
    refine S.m rfl (S.g 6 rfl) rfl fun a w G S=>?_
    refine S.m rfl (S.g 2 rfl) rfl fun a w G S=>?_
    refine S.m rfl (S.g 3 rfl) rfl fun a w G S=>?_
    refine S.m rfl (S.g 8 rfl) rfl fun a w G S=>?_
    refine S.s (OpR.lenL S.ok rfl Tryz.underlying22 (S.g 0 rfl) MT.self) rfl fun a w G S=>?_
    refine S.s (τ:=IT ((((k : Nat) : Int) - ((1 : Nat) : Int)) + ((vs.length : Nat) : Int))) (OpR.iadd S.ok rfl (S.e 2 rfl) (S.e 0 rfl) (iw_i64 (by omega) (by omega))) rfl fun a w G S=>?_
    refine S.s (τ:=IT (((((k : Nat) : Int) - ((1 : Nat) : Int)) + ((vs.length : Nat) : Int)) + 1)) (OpR.iadd S.ok rfl (S.e 0 rfl) (rfl : _ = nv .i64 1) (iw_i64 (by omega) (by omega))) rfl fun a w G S=>?_
    refine S.s (τ:=MT.ex (Value.slice (some ⟨b55,k - 1,none⟩) (vs.length + 1) ((words x).length + 1 - (k - 1)))) (OpR.cutX (lo:=k - 1) (hi:=k - 1 + (vs.length + 1)) S.ok rfl Tryz.underlying22 tS_141 (S.e 6 rfl) (S.e 5 rfl) (S.e 0 rfl) (by omega) (by omega) (by omega) (by omega) (by omega) (xsl_eq rfl (by omega) rfl)) rfl fun a w G S=>?_
    refine S.q rfl (S.g 0 rfl) rfl fun a w G S=>?_
    refine wn hK ?_;clear hK K
    replace S:=S.d8.d7.d6.d5.d4.d3.d2.d1
    refine wp_seq_k fun K hK=>?_
    refine S.drawn [⟨91,.g (MT.ex (Value.slice (some ⟨b55,k - 1,none⟩) (vs.length + 1) ((words x).length + 1 - (k - 1)))),[]⟩,⟨92,.g (SL vs),[]⟩,⟨93,.g (NT vs.length),[1]⟩,⟨94,.g (MT.ex (Value.pointer (some ⟨b55,k - 1 + vs.length,none⟩))),[0,2]⟩,⟨95,.g (MT.ex (nv .u32 (dig (l) (k - 1 + vs.length)))),[3]⟩,⟨96,.g (MT.ex (nv .u64 (dig (l) (k - 1 + vs.length)))),[4]⟩,⟨97,.g (MT.ex (nv .u64 ((dig (l) (k - 1 + vs.length)) * 2 ^ 32))),[5]⟩,⟨98,.g (MT.ex (Value.slice (some ⟨b55,k - 1,none⟩) (vs.length + 1) ((words x).length + 1 - (k - 1)))),[]⟩,⟨99,.g (SL vs),[]⟩,⟨100,.g (NT vs.length),[8]⟩,⟨101,.g (IT (((vs.length : Nat) : Int) - ((1 : Nat) : Int))),[9]⟩,⟨102,.g (MT.ex (Value.pointer (some ⟨b55,k - 1 + (vs.length - 1),none⟩))),[7,10]⟩,⟨103,.g (MT.ex (nv .u32 (dig (l) (k - 1 + (vs.length - 1))))),[11]⟩,⟨104,.g (MT.ex (nv .u64 (dig (l) (k - 1 + (vs.length - 1))))),[12]⟩,⟨105,.g (MT.ex (nv .u64 (dig l (k - 1 + vs.length) * 4294967296 + dig l (k - 1 + (vs.length - 1))))),[6,13]⟩,⟨16,.g (MT.ex (nv .u64 (dig l (k - 1 + vs.length) * 4294967296 + dig l (k - 1 + (vs.length - 1))))),[14]⟩] mixedOrders (by kernel_rfl)
     ⟨fun a w G S=>.of rfl (OpR.mv S.ok rfl (S.g 0 rfl)),
      fun a w G S=>.of rfl (OpR.mv S.ok rfl (S.g 6 rfl)),
      fun a w G S=>.of rfl (OpR.lenL S.ok rfl Tryz.underlying22 (S.g 0 rfl) MT.self),
      fun a w G S=>.of rfl (OpR.ixA (i:=vs.length) S.ok rfl Tryz.underlying22 tS_141 (S.e 0 rfl) (S.e 1 rfl) rfl (by first | omega | (simp;omega)) (ptr_eq (by simp only [Option.getD_none] <;> omega))),
      fun a w G S=>.of rfl (OpR.ldElem S.ok rfl (S.e 0 rfl) (S.box 1 rfl) tS_141 (dig_get (by first | omega | (simp;omega)))),
      fun a w G S=>.of rfl (OpR.nconv S.ok rfl (S.e 0 rfl) it_141 it_147 (wr_u64 (by omega)) MT.self),
      fun a w G S=>.of rfl (OpR.nshl S.ok rfl (S.e 0 rfl) (rfl : _ = nv .u64 32) (by decide) (wr_u64 (by omega)) MT.self),
      fun a w G S=>.of rfl (OpR.mv S.ok rfl (S.g 0 rfl)),
      fun a w G S=>.of rfl (OpR.mv S.ok rfl (S.g 6 rfl)),
      fun a w G S=>.of rfl (OpR.lenL S.ok rfl Tryz.underlying22 (S.g 0 rfl) MT.self),
      fun a w G S=>.of rfl (OpR.isub S.ok rfl (S.e 0 rfl) (rfl : _ = nv .i64 1) (iw_i64 (by omega) (by omega))),
      fun a w G S=>.of rfl (OpR.ixA (i:=vs.length - 1) S.ok rfl Tryz.underlying22 tS_141 (S.e 0 rfl) (S.e 1 rfl) (by omega) (by first | omega | (simp;omega)) (ptr_eq (by simp only [Option.getD_none] <;> omega))),
      fun a w G S=>.of rfl (OpR.ldElem S.ok rfl (S.e 0 rfl) (S.box 1 rfl) tS_141 (dig_get (by first | omega | (simp;omega)))),
      fun a w G S=>.of rfl (OpR.nconv S.ok rfl (S.e 0 rfl) it_141 it_147 (wr_u64 (by omega)) MT.self),
      fun a w G S=>.of rfl (OpR.nor S.ok rfl (S.e 0 rfl) (S.e 1 rfl) (by omega) (by omega) (nv_eq (shl_or hu1))),
      fun a w G S=>.of rfl (OpR.asn S.ok rfl (S.g 0 rfl)),trivial⟩ fun β a w G S=>?_
    replace S : St W0 G0 158 [(16,MT.ex (nv .u64 (dig l (k - 1 + vs.length) * 4294967296 + dig l (k - 1 + (vs.length - 1))))),(15,MT.ex (Value.slice (some ⟨b55,k - 1,none⟩) (vs.length + 1) ((words x).length + 1 - (k - 1)))),(80,BT (decide ((((k : Nat) : Int) - ((1 : Nat) : Int)) ≥ 0))),(14,IT (((k : Nat) : Int) - ((1 : Nat) : Int))),(13,MT.ex (nv .u64 (dig (vs) (vs.length - 2)))),(12,MT.ex (nv .u64 (dig (vs) (vs.length - 1)))),(11,MT.ex (Value.slice (some ⟨b61,0,none⟩) (((words x).length + 1) - vs.length) (((words x).length + 1) - vs.length))),(9,SL vs),(10,MT.ex (Value.slice (some ⟨b55,0,none⟩) ((words x).length + 1) ((words x).length + 1))),(8,NT s),(27,BT (decide (((words (y)).length) = 1))),(22,BT (decide ((cmpN x y) < 0))),(5,MT.ex (Value.slice none 0 0)),(4,MT.ex (Value.slice none 0 0)),(1,SN nb y),(0,SN na x)] [⟨b61,141,some (((words x).length + 1) - vs.length),MT.ex (Value.agg (ucells (qq)).toArray)⟩,⟨b55,141,some ((words x).length + 1),MT.ex (Value.agg (ucells (l)).toArray)⟩] a _ _:=S.keep [0,16,17,18,19,20,21,22,23,24,25,26,27,28,29,30]
    refine wn hK ?_;clear hK K
    refine wp_seq_k fun K hK=>?_
    refine S.drawn [⟨106,.g (MT.ex (nv .u64 (dig l (k - 1 + vs.length) * 4294967296 + dig l (k - 1 + (vs.length - 1))))),[]⟩,⟨107,.g (MT.ex (nv .u64 (dig (vs) (vs.length - 1)))),[]⟩,⟨108,.g (MT.ex (nv .u64 ((dig l (k - 1 + vs.length) * 4294967296 + dig l (k - 1 + (vs.length - 1))) / (dig (vs) (vs.length - 1))))),[0,1]⟩,⟨109,.g (MT.ex (nv .u64 (dig l (k - 1 + vs.length) * 4294967296 + dig l (k - 1 + (vs.length - 1))))),[]⟩,⟨110,.g (MT.ex (nv .u64 (dig (vs) (vs.length - 1)))),[]⟩,⟨111,.g (MT.ex (nv .u64 ((dig l (k - 1 + vs.length) * 4294967296 + dig l (k - 1 + (vs.length - 1))) % (dig (vs) (vs.length - 1))))),[3,4]⟩,⟨17,.g (MT.ex (nv .u64 ((dig l (k - 1 + vs.length) * 4294967296 + dig l (k - 1 + (vs.length - 1))) / (dig (vs) (vs.length - 1))))),[2]⟩,⟨18,.g (MT.ex (nv .u64 ((dig l (k - 1 + vs.length) * 4294967296 + dig l (k - 1 + (vs.length - 1))) % (dig (vs) (vs.length - 1))))),[5]⟩] mixedOrders (by kernel_rfl)
     ⟨fun a w G S=>.of rfl (OpR.mv S.ok rfl (S.g 0 rfl)),
      fun a w G S=>.of rfl (OpR.mv S.ok rfl (S.g 5 rfl)),
      fun a w G S=>.of rfl (OpR.nquo S.ok rfl (S.e 0 rfl) (S.e 1 rfl) (by omega) (wr_u64 (Nat.lt_of_le_of_lt (Nat.div_le_self _ _) (by omega))) MT.self),
      fun a w G S=>.of rfl (OpR.mv S.ok rfl (S.g 0 rfl)),
      fun a w G S=>.of rfl (OpR.mv S.ok rfl (S.g 5 rfl)),
      fun a w G S=>.of rfl (OpR.nrem S.ok rfl (S.e 0 rfl) (S.e 1 rfl) (by omega) MT.self),
      fun a w G S=>.of rfl (OpR.asn S.ok rfl (S.g 0 rfl)),
      fun a w G S=>.of rfl (OpR.asn S.ok rfl (S.g 0 rfl)),trivial⟩ fun β a w G S=>?_
    replace S : St W0 G0 158 [(18,MT.ex (nv .u64 ((dig l (k - 1 + vs.length) * 4294967296 + dig l (k - 1 + (vs.length - 1))) % (dig (vs) (vs.length - 1))))),(17,MT.ex (nv .u64 ((dig l (k - 1 + vs.length) * 4294967296 + dig l (k - 1 + (vs.length - 1))) / (dig (vs) (vs.length - 1))))),(15,MT.ex (Value.slice (some ⟨b55,k - 1,none⟩) (vs.length + 1) ((words x).length + 1 - (k - 1)))),(80,BT (decide ((((k : Nat) : Int) - ((1 : Nat) : Int)) ≥ 0))),(14,IT (((k : Nat) : Int) - ((1 : Nat) : Int))),(13,MT.ex (nv .u64 (dig (vs) (vs.length - 2)))),(12,MT.ex (nv .u64 (dig (vs) (vs.length - 1)))),(11,MT.ex (Value.slice (some ⟨b61,0,none⟩) (((words x).length + 1) - vs.length) (((words x).length + 1) - vs.length))),(9,SL vs),(10,MT.ex (Value.slice (some ⟨b55,0,none⟩) ((words x).length + 1) ((words x).length + 1))),(8,NT s),(27,BT (decide (((words (y)).length) = 1))),(22,BT (decide ((cmpN x y) < 0))),(5,MT.ex (Value.slice none 0 0)),(4,MT.ex (Value.slice none 0 0)),(1,SN nb y),(0,SN na x)] [⟨b61,141,some (((words x).length + 1) - vs.length),MT.ex (Value.agg (ucells (qq)).toArray)⟩,⟨b55,141,some ((words x).length + 1),MT.ex (Value.agg (ucells (l)).toArray)⟩] a _ _:=S.keep [0,1,9,10,11,12,13,14,15,16,17,18,19,20,21,22,23]
    refine wn hK ?_;clear hK K
    refine wp_seq_k fun K hK=>?_
    refine wp_block ?_
    replace S:=S.also (t:=18) (τ:=MT.ex (nv .u64 (((dig l (k - 1 + vs.length) * 4294967296 + dig l (k - 1 + (vs.length - 1))) % (dig (vs) (vs.length - 1)))))) ((S.e 0 rfl).trans (nv_eq (by first | rfl | omega | (simp only [Nat.zero_add,Nat.add_zero];done) | (simp;done) | (push_cast;omega))))
    replace S:=S.also (t:=17) (τ:=MT.ex (nv .u64 (((dig l (k - 1 + vs.length) * 4294967296 + dig l (k - 1 + (vs.length - 1))) / (dig (vs) (vs.length - 1)))))) ((S.e 2 rfl).trans (nv_eq (by first | rfl | omega | (simp only [Nat.zero_add,Nat.add_zero];done) | (simp;done) | (push_cast;omega))))
    refine wp_loopJ (fun μ a w=>∃ (g : Nat) (r : Nat) (G : Gh),μ = g ∧ (g * dig vs (vs.length - 1) + r = dig l (k - 1 + vs.length) * 4294967296 + dig l (k - 1 + (vs.length - 1))) ∧ (val ((l.drop (k - 1)).take (vs.length + 1)) / val vs ≤ g) ∧  St W0 G0 158 [(18,MT.ex (nv .u64 (r))),(17,MT.ex (nv .u64 (g))),(15,MT.ex (Value.slice (some ⟨b55,k - 1,none⟩) (vs.length + 1) ((words x).length + 1 - (k - 1)))),(80,BT (decide ((((k : Nat) : Int) - ((1 : Nat) : Int)) ≥ 0))),(14,IT (((k : Nat) : Int) - ((1 : Nat) : Int))),(13,MT.ex (nv .u64 (dig (vs) (vs.length - 2)))),(12,MT.ex (nv .u64 (dig (vs) (vs.length - 1)))),(11,MT.ex (Value.slice (some ⟨b61,0,none⟩) (((words x).length + 1) - vs.length) (((words x).length + 1) - vs.length))),(9,SL vs),(10,MT.ex (Value.slice (some ⟨b55,0,none⟩) ((words x).length + 1) ((words x).length + 1))),(8,NT s),(27,BT (decide (((words (y)).length) = 1))),(22,BT (decide ((cmpN x y) < 0))),(5,MT.ex (Value.slice none 0 0)),(4,MT.ex (Value.slice none 0 0)),(1,SN nb y),(0,SN na x)] [⟨b61,141,some (((words x).length + 1) - vs.length),MT.ex (Value.agg (ucells (qq)).toArray)⟩,⟨b55,141,some ((words x).length + 1),MT.ex (Value.agg (ucells (l)).toArray)⟩] a w G) (((dig l (k - 1 + vs.length) * 4294967296 + dig l (k - 1 + (vs.length - 1))) / (dig (vs) (vs.length - 1)))) ⟨(dig l (k - 1 + vs.length) * 4294967296 + dig l (k - 1 + (vs.length - 1))) / (dig (vs) (vs.length - 1)),(dig l (k - 1 + vs.length) * 4294967296 + dig l (k - 1 + (vs.length - 1))) % (dig (vs) (vs.length - 1)),_,rfl,(Nat.div_add_mod' _ _),hDG.init,(S.keep [1,0,4,5,6,7,8,9,10,11,12,13,14,15,16,17,18]).keepB [0,1] (by decide)⟩ ?_
    clear S
    intro μ a w ⟨g,r,G,hm,hgr,hgU,S⟩
    have hgb:=dg_bound hgr (by omega) hu0 hu1
    refine wp_seq_k fun K hK=>?_
    refine wp_reg fun K hK=>?_
    refine S.m rfl (S.g 0 rfl) rfl fun a w G S=>?_
    refine S.s (OpR.nlss S.ok rfl (S.e 0 rfl) (rfl : _ = nv .u64 4294967296) MT.self) rfl fun a w G S=>?_
    refine S.m rfl (S.g 0 rfl) rfl fun a w G S=>?_
    rcases Bool.eq_false_or_eq_true (decide (r < 4294967296)) with hc9 | hc9
    ·
     have hp10:=of_decide_eq_true hc9
     replace S:=S.boolIs 0 rfl hc9
     refine S.stepG 0 (OpR.mv S.ok rfl (S.g 5 rfl)) rfl rfl rfl rfl rfl rfl fun a w G S=>?_
     refine S.stepG 1 (OpR.ngeq S.ok rfl (S.e 0 rfl) (rfl : _ = nv .u64 4294967296) MT.self) rfl rfl rfl rfl rfl rfl fun a w G S=>?_
     refine S.stepG 2 (OpR.mv S.ok rfl (S.g 0 rfl)) rfl rfl rfl rfl rfl rfl fun a w G S=>?_
     rcases Bool.eq_false_or_eq_true (decide (4294967296 ≤ g)) with hc11 | hc11
     ·
      have hp12:=of_decide_eq_true hc11
      replace S:=S.boolIs 0 rfl hc11
      refine S.skipG 0 rfl rfl rfl rfl rfl rfl fun a w G S=>?_
      refine S.skipG 1 rfl rfl rfl rfl rfl rfl fun a w G S=>?_
      refine S.skipG 2 rfl rfl rfl rfl rfl rfl fun a w G S=>?_
      refine S.skipG 3 rfl rfl rfl rfl rfl rfl fun a w G S=>?_
      refine S.skipG 4 rfl rfl rfl rfl rfl rfl fun a w G S=>?_
      refine S.skipG 5 rfl rfl rfl rfl rfl rfl fun a w G S=>?_
      refine S.skipG 6 rfl rfl rfl rfl rfl rfl fun a w G S=>?_
      refine S.skipG 7 rfl rfl rfl rfl rfl rfl fun a w G S=>?_
      refine S.skipG 8 rfl rfl rfl rfl rfl rfl fun a w G S=>?_
      refine S.skipG 9 rfl rfl rfl rfl rfl rfl fun a w G S=>?_
      refine S.skipG 10 rfl rfl rfl rfl rfl rfl fun a w G S=>?_
      refine S.skipG 11 rfl rfl rfl rfl rfl rfl fun a w G S=>?_
      refine S.skipG 12 rfl rfl rfl rfl rfl rfl fun a w G S=>?_
      refine S.skipG 13 rfl rfl rfl rfl rfl rfl fun a w G S=>?_
      refine S.stepG (τ:=BT true) 18 (OpR.pick S.ok rfl (S.e 14 rfl) rfl) rfl rfl rfl rfl rfl rfl fun a w G S=>?_
      refine S.s (τ:=BT true) (OpR.pick S.ok rfl (S.e 19 rfl) (S.g 0 rfl)) rfl fun a w G S=>?_
      refine wn hK ?_;clear hK K
      replace S:=S.d23.d22.d21.d20.d19.d18.d17.d16.d15.d14.d13.d12.d11.d10.d9.d8.d7.d6.d5.d4.d3.d2.d1
      refine wp_cond_true (S.e 0 rfl) ?_
      refine wp_skip ?_
      refine hK _ _ ?_;clear hK K
      refine wp_block ?_
      refine wp_reg fun K hK=>?_
      have hst:=DG.step hDG hgr (by omega) hgU
      refine S.m rfl (S.g 2 rfl) rfl fun a w G S=>?_
      refine S.s (OpR.nsub S.ok rfl (S.e 0 rfl) (rfl : _ = nv .u64 1) (by omega) (wr_u64 (by omega)) MT.self) rfl fun a w G S=>?_
      replace S:=S.d4
      refine S.q rfl (S.g 0 rfl) rfl fun a w G S=>?_
      refine wn hK ?_;clear hK K
      replace S:=S.d2.d1
      refine wp_region_lit ?_
      refine S.m rfl (S.g 2 rfl) rfl fun a w G S=>?_
      refine S.m rfl (S.g 8 rfl) rfl fun a w G S=>?_
      refine S.s (OpR.nadd S.ok rfl (S.e 1 rfl) (S.e 0 rfl) (wr_u64 (by omega)) MT.self) rfl fun a w G S=>?_
      replace S:=S.d5
      refine S.q rfl (S.g 0 rfl) rfl fun a w G S=>?_
      refine wpList_nil ?_
      replace S:=S.d3.d2.d1
      replace S:=S.also (t:=18) (τ:=MT.ex (nv .u64 ((r + (dig (vs) (vs.length - 1)))))) ((S.e 0 rfl).trans (nv_eq (by first | rfl | omega | (simp only [Nat.zero_add,Nat.add_zero];done) | (simp;done) | (push_cast;omega))))
      replace S:=S.also (t:=17) (τ:=MT.ex (nv .u64 ((g - 1)))) ((S.e 2 rfl).trans (nv_eq (by first | rfl | omega | (simp only [Nat.zero_add,Nat.add_zero];done) | (simp;done) | (push_cast;omega))))
      exact ⟨(g - 1),(by have:=hst.2;omega),g - 1,r + (dig (vs) (vs.length - 1)),_,rfl,(dg_next hst.2 hgr),hst.1,(S.keep [1,0,5,6,7,8,9,10,11,12,13,14,15,16,17,18,19]).keepB [0,1] (by decide)⟩
     ·
      have hp13:=of_decide_eq_false hc11
      replace S:=S.boolIs 0 rfl hc11
      refine S.stepG 0 (OpR.mv S.ok rfl (S.g 9 rfl)) rfl rfl rfl rfl rfl rfl fun a w G S=>?_
      refine S.stepG 1 (OpR.mv S.ok rfl (S.g 14 rfl)) rfl rfl rfl rfl rfl rfl fun a w G S=>?_
      refine S.stepG 2 (OpR.nmul S.ok rfl (S.e 1 rfl) (S.e 0 rfl) (wr_u64 (mul32_lt (by omega) hd1)) MT.self) rfl rfl rfl rfl rfl rfl fun a w G S=>?_
      refine S.stepG 3 (OpR.mv S.ok rfl (S.g 11 rfl)) rfl rfl rfl rfl rfl rfl fun a w G S=>?_
      refine S.stepG 4 (OpR.nshl S.ok rfl (S.e 0 rfl) (rfl : _ = nv .u64 32) (by decide) (wr_u64 (by omega)) MT.self) rfl rfl rfl rfl rfl rfl fun a w G S=>?_
      refine S.stepG 5 (OpR.mv S.ok rfl (S.g 15 rfl)) rfl rfl rfl rfl rfl rfl fun a w G S=>?_
      refine S.stepG 6 (OpR.mv S.ok rfl (S.g 22 rfl)) rfl rfl rfl rfl rfl rfl fun a w G S=>?_
      refine S.stepG 7 (OpR.lenL S.ok rfl Tryz.underlying22 (S.g 0 rfl) MT.self) rfl rfl rfl rfl rfl rfl fun a w G S=>?_
      refine S.stepG (τ:=IT (((vs.length : Nat) : Int) - ((2 : Nat) : Int))) 8 (OpR.isub S.ok rfl (S.e 0 rfl) (rfl : _ = nv .i64 2) (iw_i64 (by omega) (by omega))) rfl rfl rfl rfl rfl rfl fun a w G S=>?_
      refine S.stepG (τ:=MT.ex (Value.pointer (some ⟨b55,k - 1 + (vs.length - 2),none⟩))) 9 (OpR.ixA (i:=vs.length - 2) S.ok rfl Tryz.underlying22 tS_141 (S.e 3 rfl) (S.e 0 rfl) (by omega) (by first | omega | (simp;omega)) (ptr_eq (by simp only [Option.getD_none] <;> omega))) rfl rfl rfl rfl rfl rfl fun a w G S=>?_
      refine S.stepG 10 (OpR.ldElem S.ok rfl (S.e 0 rfl) (S.box 1 rfl) tS_141 (dig_get (by first | omega | (simp;omega)))) rfl rfl rfl rfl rfl rfl fun a w G S=>?_
      refine S.stepG 11 (OpR.nconv S.ok rfl (S.e 0 rfl) it_141 it_147 (wr_u64 (by omega)) MT.self) rfl rfl rfl rfl rfl rfl fun a w G S=>?_
      refine S.stepG (τ:=MT.ex (nv .u64 (r * 4294967296 + dig l (k - 1 + (vs.length - 2))))) 12 (OpR.nor S.ok rfl (S.e 7 rfl) (S.e 0 rfl) (by omega) (by omega) (nv_eq (shl_or hu2))) rfl rfl rfl rfl rfl rfl fun a w G S=>?_
      refine S.stepG 13 (OpR.ngtr S.ok rfl (S.e 10 rfl) (S.e 0 rfl) MT.self) rfl rfl rfl rfl rfl rfl fun a w G S=>?_
      refine S.stepG (τ:=BT (decide ((r * 4294967296 + dig l (k - 1 + (vs.length - 2))) < (g * (dig (vs) (vs.length - 2)))))) 18 (OpR.pick S.ok rfl (S.e 14 rfl) (S.g 0 rfl)) rfl rfl rfl rfl rfl rfl fun a w G S=>?_
      refine S.s (τ:=BT (decide ((r * 4294967296 + dig l (k - 1 + (vs.length - 2))) < (g * (dig (vs) (vs.length - 2)))))) (OpR.pick S.ok rfl (S.e 19 rfl) (S.g 0 rfl)) rfl fun a w G S=>?_
      refine wn hK ?_;clear hK K
      replace S:=S.d23.d22.d21.d20.d19.d18.d17.d16.d15.d14.d13.d12.d11.d10.d9.d8.d7.d6.d5.d4.d3.d2.d1
      refine S.cond 0 rfl (fun hc14=>?_) (fun hc14=>?_)
      ·
       have hp15:=of_decide_eq_true hc14
       refine wp_skip ?_
       refine hK _ _ ?_;clear hK K
       refine wp_block ?_
       refine wp_reg fun K hK=>?_
       have hst:=DG.step hDG hgr (by omega) hgU
       refine S.m rfl (S.g 2 rfl) rfl fun a w G S=>?_
       refine S.s (OpR.nsub S.ok rfl (S.e 0 rfl) (rfl : _ = nv .u64 1) (by omega) (wr_u64 (by omega)) MT.self) rfl fun a w G S=>?_
       replace S:=S.d4
       refine S.q rfl (S.g 0 rfl) rfl fun a w G S=>?_
       refine wn hK ?_;clear hK K
       replace S:=S.d2.d1
       refine wp_region_lit ?_
       refine S.m rfl (S.g 2 rfl) rfl fun a w G S=>?_
       refine S.m rfl (S.g 8 rfl) rfl fun a w G S=>?_
       refine S.s (OpR.nadd S.ok rfl (S.e 1 rfl) (S.e 0 rfl) (wr_u64 (by omega)) MT.self) rfl fun a w G S=>?_
       replace S:=S.d5
       refine S.q rfl (S.g 0 rfl) rfl fun a w G S=>?_
       refine wpList_nil ?_
       replace S:=S.d3.d2.d1
       replace S:=S.also (t:=18) (τ:=MT.ex (nv .u64 ((r + (dig (vs) (vs.length - 1)))))) ((S.e 0 rfl).trans (nv_eq (by first | rfl | omega | (simp only [Nat.zero_add,Nat.add_zero];done) | (simp;done) | (push_cast;omega))))
       replace S:=S.also (t:=17) (τ:=MT.ex (nv .u64 ((g - 1)))) ((S.e 2 rfl).trans (nv_eq (by first | rfl | omega | (simp only [Nat.zero_add,Nat.add_zero];done) | (simp;done) | (push_cast;omega))))
       exact ⟨(g - 1),(by have:=hst.2;omega),g - 1,r + (dig (vs) (vs.length - 1)),_,rfl,(dg_next hst.2 hgr),hst.1,(S.keep [1,0,5,6,7,8,9,10,11,12,13,14,15,16,17,18,19]).keepB [0,1] (by decide)⟩
      ·
       have hp16:=of_decide_eq_false hc14
       refine wp_exit (then_exit (then_exit (exit_same ?_)))
       clear hK K
       refine hK _ _ ?_;clear hK K
       refine wp_seq_k fun K hK=>?_
       refine wp_reg fun K hK=>?_
       have hfin:=DG.fin hDG hgr (by omega)
       refine S.m rfl (S.g 3 rfl) rfl fun a w G S=>?_
       refine S.m rfl (S.g 10 rfl) rfl fun a w G S=>?_
       refine S.m rfl (S.g 4 rfl) rfl fun a w G S=>?_
       replace S : St W0 G0 158 [(141,MT.ex (nv .u64 (g))),(140,SL vs),(139,MT.ex (Value.slice (some ⟨b55,k - 1,none⟩) (vs.length + 1) ((words x).length + 1 - (k - 1)))),(133,BT (decide ((r * 4294967296 + dig l (k - 1 + (vs.length - 2))) < (g * (dig (vs) (vs.length - 2)))))),(18,MT.ex (nv .u64 (r))),(17,MT.ex (nv .u64 (g))),(15,MT.ex (Value.slice (some ⟨b55,k - 1,none⟩) (vs.length + 1) ((words x).length + 1 - (k - 1)))),(80,BT (decide ((((k : Nat) : Int) - ((1 : Nat) : Int)) ≥ 0))),(14,IT (((k : Nat) : Int) - ((1 : Nat) : Int))),(13,MT.ex (nv .u64 (dig (vs) (vs.length - 2)))),(12,MT.ex (nv .u64 (dig (vs) (vs.length - 1)))),(11,MT.ex (Value.slice (some ⟨b61,0,none⟩) (((words x).length + 1) - vs.length) (((words x).length + 1) - vs.length))),(9,SL vs),(10,MT.ex (Value.slice (some ⟨b55,0,none⟩) ((words x).length + 1) ((words x).length + 1))),(8,NT s),(27,BT (decide (((words (y)).length) = 1))),(22,BT (decide ((cmpN x y) < 0))),(5,MT.ex (Value.slice none 0 0)),(4,MT.ex (Value.slice none 0 0)),(1,SN nb y),(0,SN na x)] [⟨b55,141,some ((words x).length + 1),MT.ex (Value.agg (ucells (l)).toArray)⟩,⟨b61,141,some (((words x).length + 1) - vs.length),MT.ex (Value.agg (ucells (qq)).toArray)⟩] a _ _:=S.keepB [1,0] (by decide)
       refine S.stepM3 0 rfl rfl rfl c_134 (remove_ok S.world (S.g 2 rfl) (S.g 1 rfl) (S.g 0 rfl) (by omega) (by omega) hlw (by omega) (by simp only [LIM];omega)) rfl rfl fun vR l1 a w G hR hl1 S=>?_
       obtain ⟨hw1,hA1,hB1,C1,c1,hcc,rfl,hv1,hz1⟩:=hR
       have hx1:=seg_lt (i:=k - 1) (n:=vs.length + 1) hw1
       refine wn hK ?_;clear hK K
       replace S:=S.d3.d2.d1
       refine S.cond 0 rfl (fun hc17=>?_) (fun hc17=>?_)
       ·
        have hp18:=of_decide_eq_true hc17
        have hc1:=hp18
        have hgp:=digit_pos hc1 hv1 hx1
        refine wp_reg fun K hK=>?_
        refine S.m rfl (S.g 3 rfl) rfl fun a w G S=>?_
        refine S.s (OpR.nsub S.ok rfl (S.e 0 rfl) (rfl : _ = nv .u64 1) (by omega) (wr_u64 (by omega)) MT.self) rfl fun a w G S=>?_
        replace S:=S.d5
        refine S.q rfl (S.g 0 rfl) rfl fun a w G S=>?_
        refine wn hK ?_;clear hK K
        replace S:=S.d2.d1
        refine wp_region_lit ?_
        refine S.m rfl (S.g 4 rfl) rfl fun a w G S=>?_
        refine S.m rfl (S.g 11 rfl) rfl fun a w G S=>?_
        refine S.stepM2 0 rfl rfl rfl c_135 (back_ok S.world (S.g 1 rfl) (S.g 0 rfl) (by omega) hw1 (by omega) (by simp only [LIM];omega)) rfl rfl fun vR2 l2 a w G hR hl2 S=>?_
        obtain ⟨hw2,hA2,hB2,c2,hcc2,hv2⟩:=hR
        have hx2:=seg_lt (i:=k - 1) (n:=vs.length + 1) hw2
        have hqd:=digit_back rfl hV0 hvw rfl hc1 hz1 hv1 hx1 hx2 hfin.2 hv2 hcc2
        have hds:=div_step hvw hlw hw2 hlt2 hinv2 hV0 (by omega) (hA2.trans hA1) (hB2.trans hB1) hqd.1 (by omega) hqd.2.2
        have hlo:=hl2
        have hwo:=hw2
        refine wpList_nil ?_
        replace S:=S.d2.d1.d0
        refine hK _ _ ?_;clear hK K
        refine wp_region_lit ?_
        refine S.m rfl (S.g 9 rfl) rfl fun a w G S=>?_
        refine S.m rfl (S.g 7 rfl) rfl fun a w G S=>?_
        refine S.m rfl (S.g 2 rfl) rfl fun a w G S=>?_
        refine S.s (OpR.nconv32 S.ok rfl (S.e 0 rfl) it_147 it_141 MT.self) rfl fun a w G S=>?_
        refine S.s (τ:=MT.ex (Value.pointer (some ⟨b61,k - 1,none⟩))) (OpR.ixA (i:=k - 1) S.ok rfl Tryz.underlying22 tS_141 (S.e 3 rfl) (S.e 2 rfl) (by omega) (by first | omega | (simp;omega)) (ptr_eq (by simp only [Option.getD_none] <;> omega))) rfl fun a w G S=>?_
        refine S.setElem 1 (z:=(g - 1) % 4294967296) rfl rfl rfl rfl (S.e 0 rfl) tS_141 (S.e 1 rfl) rfl (by first | omega | (simp;omega)) fun w S=>?_
        replace S:=S.n1
        refine wpList_nil ?_
        replace S:=S.d4.d3.d2.d1.d0
        refine hK _ _ ?_;clear hK K
        refine wp_region_lit ?_
        refine S.m rfl (S.g 6 rfl) rfl fun a w G S=>?_
        refine S.s (τ:=IT ((((k : Nat) : Int) - ((1 : Nat) : Int)) - 1)) (OpR.isub S.ok rfl (S.e 0 rfl) (rfl : _ = nv .i64 1) (iw_i64 (by omega) (by omega))) rfl fun a w G S=>?_
        replace S:=S.d8
        refine S.q rfl (S.g 0 rfl) rfl fun a w G S=>?_
        refine wpList_nil ?_
        replace S:=S.d2.d1
        replace S:=S.also (t:=14) (τ:=IT ((((k - 1) : Nat) : Int) - ((1 : Nat) : Int))) ((S.e 0 rfl).trans (iv_eq (by first | rfl | omega | (simp only [Nat.zero_add,Nat.add_zero];done) | (simp;done) | (push_cast;omega))))
        replace S:=S.castBox (τ':=MT.ex (Value.agg (ucells ((qq.set (k - 1) ((g - 1) % 4294967296)))).toArray)) 1 rfl fun _ h _=>Eq.trans h (congrArg (fun l=>Value.agg (ucells l).toArray) (by simp))
        replace S:=S.n1
        exact ⟨(k - 1),(by omega),(k - 1),l2,qq.set (k - 1) ((g - 1) % 4294967296),_,rfl,(by omega),(by omega),hwo,(by simpa using hqq),(hqw.set (Nat.mod_lt _ (by decide))),hds.2,hds.1,(S.keep [0,8,9,10,11,12,13,14,15,16,17,18,19]).keepB [1,0] (by decide)⟩
       ·
        have hp19:=of_decide_eq_false hc17
        have hqd:=digit_hit rfl hV0 rfl (by omega) hz1 hv1 hgU
        have hds:=div_step hvw hlw hw1 hlt2 hinv2 hV0 (by omega) hA1 hB1 hqd.1 hfin.1 hqd.2
        have hlo:=hl1
        have hwo:=hw1
        refine wp_skip ?_
        refine hK _ _ ?_;clear hK K
        refine wp_region_lit ?_
        refine S.m rfl (S.g 9 rfl) rfl fun a w G S=>?_
        refine S.m rfl (S.g 7 rfl) rfl fun a w G S=>?_
        refine S.m rfl (S.g 5 rfl) rfl fun a w G S=>?_
        refine S.s (OpR.nconv32 S.ok rfl (S.e 0 rfl) it_147 it_141 MT.self) rfl fun a w G S=>?_
        refine S.s (τ:=MT.ex (Value.pointer (some ⟨b61,k - 1,none⟩))) (OpR.ixA (i:=k - 1) S.ok rfl Tryz.underlying22 tS_141 (S.e 3 rfl) (S.e 2 rfl) (by omega) (by first | omega | (simp;omega)) (ptr_eq (by simp only [Option.getD_none] <;> omega))) rfl fun a w G S=>?_
        refine S.setElem 1 (z:=g % 4294967296) rfl rfl rfl rfl (S.e 0 rfl) tS_141 (S.e 1 rfl) rfl (by first | omega | (simp;omega)) fun w S=>?_
        replace S:=S.n1
        refine wpList_nil ?_
        replace S:=S.d4.d3.d2.d1.d0
        refine hK _ _ ?_;clear hK K
        refine wp_region_lit ?_
        refine S.m rfl (S.g 6 rfl) rfl fun a w G S=>?_
        refine S.s (τ:=IT ((((k : Nat) : Int) - ((1 : Nat) : Int)) - 1)) (OpR.isub S.ok rfl (S.e 0 rfl) (rfl : _ = nv .i64 1) (iw_i64 (by omega) (by omega))) rfl fun a w G S=>?_
        replace S:=S.d8
        refine S.q rfl (S.g 0 rfl) rfl fun a w G S=>?_
        refine wpList_nil ?_
        replace S:=S.d2.d1
        replace S:=S.also (t:=14) (τ:=IT ((((k - 1) : Nat) : Int) - ((1 : Nat) : Int))) ((S.e 0 rfl).trans (iv_eq (by first | rfl | omega | (simp only [Nat.zero_add,Nat.add_zero];done) | (simp;done) | (push_cast;omega))))
        replace S:=S.castBox (τ':=MT.ex (Value.agg (ucells ((qq.set (k - 1) (g % 4294967296)))).toArray)) 1 rfl fun _ h _=>Eq.trans h (congrArg (fun l=>Value.agg (ucells l).toArray) (by simp))
        replace S:=S.n1
        exact ⟨(k - 1),(by omega),(k - 1),l1,qq.set (k - 1) (g % 4294967296),_,rfl,(by omega),(by omega),hwo,(by simpa using hqq),(hqw.set (Nat.mod_lt _ (by decide))),hds.2,hds.1,(S.keep [0,8,9,10,11,12,13,14,15,16,17,18,19]).keepB [1,0] (by decide)⟩
    ·
     have hp20:=of_decide_eq_false hc9
     replace S:=S.boolIs 0 rfl hc9
     refine S.skipG 0 rfl rfl rfl rfl rfl rfl fun a w G S=>?_
     refine S.skipG 1 rfl rfl rfl rfl rfl rfl fun a w G S=>?_
     refine S.skipG 2 rfl rfl rfl rfl rfl rfl fun a w G S=>?_
     refine S.skipU 0 rfl rfl rfl rfl rfl rfl fun a w G S=>?_
     refine S.skipU 1 rfl rfl rfl rfl rfl rfl fun a w G S=>?_
     refine S.skipU 2 rfl rfl rfl rfl rfl rfl fun a w G S=>?_
     refine S.skipU 3 rfl rfl rfl rfl rfl rfl fun a w G S=>?_
     refine S.skipU 4 rfl rfl rfl rfl rfl rfl fun a w G S=>?_
     refine S.skipU 5 rfl rfl rfl rfl rfl rfl fun a w G S=>?_
     refine S.skipU 6 rfl rfl rfl rfl rfl rfl fun a w G S=>?_
     refine S.skipU 7 rfl rfl rfl rfl rfl rfl fun a w G S=>?_
     refine S.skipU 8 rfl rfl rfl rfl rfl rfl fun a w G S=>?_
     refine S.skipU 9 rfl rfl rfl rfl rfl rfl fun a w G S=>?_
     refine S.skipU 10 rfl rfl rfl rfl rfl rfl fun a w G S=>?_
     refine S.skipU 11 rfl rfl rfl rfl rfl rfl fun a w G S=>?_
     refine S.skipU 12 rfl rfl rfl rfl rfl rfl fun a w G S=>?_
     refine S.skipU 13 rfl rfl rfl rfl rfl rfl fun a w G S=>?_
     refine S.skipG 17 rfl rfl rfl rfl rfl rfl fun a w G S=>?_
     refine S.s (τ:=BT false) (OpR.pick S.ok rfl (S.e 18 rfl) rfl) rfl fun a w G S=>?_
     refine wn hK ?_;clear hK K
     replace S:=S.d22.d21.d20.d19.d18.d17.d16.d15.d14.d13.d12.d11.d10.d9.d8.d7.d6.d5.d4.d3.d2.d1
     refine wp_cond_false (S.e 0 rfl) ?_
     refine wp_exit (then_exit (then_exit (exit_same ?_)))
     clear hK K
     refine hK _ _ ?_;clear hK K
     refine wp_seq_k fun K hK=>?_
     refine wp_reg fun K hK=>?_
     have hfin:=DG.fin hDG hgr (by omega)
     refine S.m rfl (S.g 3 rfl) rfl fun a w G S=>?_
     refine S.m rfl (S.g 10 rfl) rfl fun a w G S=>?_
     refine S.m rfl (S.g 4 rfl) rfl fun a w G S=>?_
     replace S : St W0 G0 158 [(141,MT.ex (nv .u64 (g))),(140,SL vs),(139,MT.ex (Value.slice (some ⟨b55,k - 1,none⟩) (vs.length + 1) ((words x).length + 1 - (k - 1)))),(133,BT false),(18,MT.ex (nv .u64 (r))),(17,MT.ex (nv .u64 (g))),(15,MT.ex (Value.slice (some ⟨b55,k - 1,none⟩) (vs.length + 1) ((words x).length + 1 - (k - 1)))),(80,BT (decide ((((k : Nat) : Int) - ((1 : Nat) : Int)) ≥ 0))),(14,IT (((k : Nat) : Int) - ((1 : Nat) : Int))),(13,MT.ex (nv .u64 (dig (vs) (vs.length - 2)))),(12,MT.ex (nv .u64 (dig (vs) (vs.length - 1)))),(11,MT.ex (Value.slice (some ⟨b61,0,none⟩) (((words x).length + 1) - vs.length) (((words x).length + 1) - vs.length))),(9,SL vs),(10,MT.ex (Value.slice (some ⟨b55,0,none⟩) ((words x).length + 1) ((words x).length + 1))),(8,NT s),(27,BT (decide (((words (y)).length) = 1))),(22,BT (decide ((cmpN x y) < 0))),(5,MT.ex (Value.slice none 0 0)),(4,MT.ex (Value.slice none 0 0)),(1,SN nb y),(0,SN na x)] [⟨b55,141,some ((words x).length + 1),MT.ex (Value.agg (ucells (l)).toArray)⟩,⟨b61,141,some (((words x).length + 1) - vs.length),MT.ex (Value.agg (ucells (qq)).toArray)⟩] a _ _:=S.keepB [1,0] (by decide)
     refine S.stepM3 0 rfl rfl rfl c_134 (remove_ok S.world (S.g 2 rfl) (S.g 1 rfl) (S.g 0 rfl) (by omega) (by omega) hlw (by omega) (by simp only [LIM];omega)) rfl rfl fun vR l1 a w G hR hl1 S=>?_
     obtain ⟨hw1,hA1,hB1,C1,c1,hcc,rfl,hv1,hz1⟩:=hR
     have hx1:=seg_lt (i:=k - 1) (n:=vs.length + 1) hw1
     refine wn hK ?_;clear hK K
     replace S:=S.d3.d2.d1
     refine S.cond 0 rfl (fun hc21=>?_) (fun hc21=>?_)
     ·
      have hp22:=of_decide_eq_true hc21
      have hc1:=hp22
      have hgp:=digit_pos hc1 hv1 hx1
      refine wp_reg fun K hK=>?_
      refine S.m rfl (S.g 3 rfl) rfl fun a w G S=>?_
      refine S.s (OpR.nsub S.ok rfl (S.e 0 rfl) (rfl : _ = nv .u64 1) (by omega) (wr_u64 (by omega)) MT.self) rfl fun a w G S=>?_
      replace S:=S.d5
      refine S.q rfl (S.g 0 rfl) rfl fun a w G S=>?_
      refine wn hK ?_;clear hK K
      replace S:=S.d2.d1
      refine wp_region_lit ?_
      refine S.m rfl (S.g 4 rfl) rfl fun a w G S=>?_
      refine S.m rfl (S.g 11 rfl) rfl fun a w G S=>?_
      refine S.stepM2 0 rfl rfl rfl c_135 (back_ok S.world (S.g 1 rfl) (S.g 0 rfl) (by omega) hw1 (by omega) (by simp only [LIM];omega)) rfl rfl fun vR2 l2 a w G hR hl2 S=>?_
      obtain ⟨hw2,hA2,hB2,c2,hcc2,hv2⟩:=hR
      have hx2:=seg_lt (i:=k - 1) (n:=vs.length + 1) hw2
      have hqd:=digit_back rfl hV0 hvw rfl hc1 hz1 hv1 hx1 hx2 hfin.2 hv2 hcc2
      have hds:=div_step hvw hlw hw2 hlt2 hinv2 hV0 (by omega) (hA2.trans hA1) (hB2.trans hB1) hqd.1 (by omega) hqd.2.2
      have hlo:=hl2
      have hwo:=hw2
      refine wpList_nil ?_
      replace S:=S.d2.d1.d0
      refine hK _ _ ?_;clear hK K
      refine wp_region_lit ?_
      refine S.m rfl (S.g 9 rfl) rfl fun a w G S=>?_
      refine S.m rfl (S.g 7 rfl) rfl fun a w G S=>?_
      refine S.m rfl (S.g 2 rfl) rfl fun a w G S=>?_
      refine S.s (OpR.nconv32 S.ok rfl (S.e 0 rfl) it_147 it_141 MT.self) rfl fun a w G S=>?_
      refine S.s (τ:=MT.ex (Value.pointer (some ⟨b61,k - 1,none⟩))) (OpR.ixA (i:=k - 1) S.ok rfl Tryz.underlying22 tS_141 (S.e 3 rfl) (S.e 2 rfl) (by omega) (by first | omega | (simp;omega)) (ptr_eq (by simp only [Option.getD_none] <;> omega))) rfl fun a w G S=>?_
      refine S.setElem 1 (z:=(g - 1) % 4294967296) rfl rfl rfl rfl (S.e 0 rfl) tS_141 (S.e 1 rfl) rfl (by first | omega | (simp;omega)) fun w S=>?_
      replace S:=S.n1
      refine wpList_nil ?_
      replace S:=S.d4.d3.d2.d1.d0
      refine hK _ _ ?_;clear hK K
      refine wp_region_lit ?_
      refine S.m rfl (S.g 6 rfl) rfl fun a w G S=>?_
      refine S.s (τ:=IT ((((k : Nat) : Int) - ((1 : Nat) : Int)) - 1)) (OpR.isub S.ok rfl (S.e 0 rfl) (rfl : _ = nv .i64 1) (iw_i64 (by omega) (by omega))) rfl fun a w G S=>?_
      replace S:=S.d8
      refine S.q rfl (S.g 0 rfl) rfl fun a w G S=>?_
      refine wpList_nil ?_
      replace S:=S.d2.d1
      replace S:=S.also (t:=14) (τ:=IT ((((k - 1) : Nat) : Int) - ((1 : Nat) : Int))) ((S.e 0 rfl).trans (iv_eq (by first | rfl | omega | (simp only [Nat.zero_add,Nat.add_zero];done) | (simp;done) | (push_cast;omega))))
      replace S:=S.castBox (τ':=MT.ex (Value.agg (ucells ((qq.set (k - 1) ((g - 1) % 4294967296)))).toArray)) 1 rfl fun _ h _=>Eq.trans h (congrArg (fun l=>Value.agg (ucells l).toArray) (by simp))
      replace S:=S.n1
      exact ⟨(k - 1),(by omega),(k - 1),l2,qq.set (k - 1) ((g - 1) % 4294967296),_,rfl,(by omega),(by omega),hwo,(by simpa using hqq),(hqw.set (Nat.mod_lt _ (by decide))),hds.2,hds.1,(S.keep [0,8,9,10,11,12,13,14,15,16,17,18,19]).keepB [1,0] (by decide)⟩
     ·
      have hp23:=of_decide_eq_false hc21
      have hqd:=digit_hit rfl hV0 rfl (by omega) hz1 hv1 hgU
      have hds:=div_step hvw hlw hw1 hlt2 hinv2 hV0 (by omega) hA1 hB1 hqd.1 hfin.1 hqd.2
      have hlo:=hl1
      have hwo:=hw1
      refine wp_skip ?_
      refine hK _ _ ?_;clear hK K
      refine wp_region_lit ?_
      refine S.m rfl (S.g 9 rfl) rfl fun a w G S=>?_
      refine S.m rfl (S.g 7 rfl) rfl fun a w G S=>?_
      refine S.m rfl (S.g 5 rfl) rfl fun a w G S=>?_
      refine S.s (OpR.nconv32 S.ok rfl (S.e 0 rfl) it_147 it_141 MT.self) rfl fun a w G S=>?_
      refine S.s (τ:=MT.ex (Value.pointer (some ⟨b61,k - 1,none⟩))) (OpR.ixA (i:=k - 1) S.ok rfl Tryz.underlying22 tS_141 (S.e 3 rfl) (S.e 2 rfl) (by omega) (by first | omega | (simp;omega)) (ptr_eq (by simp only [Option.getD_none] <;> omega))) rfl fun a w G S=>?_
      refine S.setElem 1 (z:=g % 4294967296) rfl rfl rfl rfl (S.e 0 rfl) tS_141 (S.e 1 rfl) rfl (by first | omega | (simp;omega)) fun w S=>?_
      replace S:=S.n1
      refine wpList_nil ?_
      replace S:=S.d4.d3.d2.d1.d0
      refine hK _ _ ?_;clear hK K
      refine wp_region_lit ?_
      refine S.m rfl (S.g 6 rfl) rfl fun a w G S=>?_
      refine S.s (τ:=IT ((((k : Nat) : Int) - ((1 : Nat) : Int)) - 1)) (OpR.isub S.ok rfl (S.e 0 rfl) (rfl : _ = nv .i64 1) (iw_i64 (by omega) (by omega))) rfl fun a w G S=>?_
      replace S:=S.d8
      refine S.q rfl (S.g 0 rfl) rfl fun a w G S=>?_
      refine wpList_nil ?_
      replace S:=S.d2.d1
      replace S:=S.also (t:=14) (τ:=IT ((((k - 1) : Nat) : Int) - ((1 : Nat) : Int))) ((S.e 0 rfl).trans (iv_eq (by first | rfl | omega | (simp only [Nat.zero_add,Nat.add_zero];done) | (simp;done) | (push_cast;omega))))
      replace S:=S.castBox (τ':=MT.ex (Value.agg (ucells ((qq.set (k - 1) (g % 4294967296)))).toArray)) 1 rfl fun _ h _=>Eq.trans h (congrArg (fun l=>Value.agg (ucells l).toArray) (by simp))
      replace S:=S.n1
      exact ⟨(k - 1),(by omega),(k - 1),l1,qq.set (k - 1) (g % 4294967296),_,rfl,(by omega),(by omega),hwo,(by simpa using hqq),(hqw.set (Nat.mod_lt _ (by decide))),hds.2,hds.1,(S.keep [0,8,9,10,11,12,13,14,15,16,17,18,19]).keepB [1,0] (by decide)⟩
   ·
    have hp24:=of_decide_eq_false hc7
    refine wp_exit (then_exit (then_exit (exit_same ?_)))
    clear hK K
    refine hK _ _ ?_;clear hK K
    refine wp_reg fun K hK=>?_
    have hk0 : k = 0:=by omega
    have hdf:=div_fin hk0 hvv hlt hinv
    have hub:=div_ub hk0 hvv hlt hs32 hyb
    obtain ⟨vz25,Gz25,hz25,hs25,hg25,hle25,S⟩:=S.freeze 0 rfl
    have hsl25 : (SL (qq)).t (Value.slice (some ⟨b61,0,none⟩) (((words x).length + 1) - vs.length) (((words x).length + 1) - vs.length)) Gz25:=SL_frozen hz25 hg25 ⟨hqq.symm,Nat.le_refl _⟩ (by simp only [LIM];omega) hqw
    replace S:=S.also (t:=11) (τ:=SL (qq)) ((S.e 4 rfl).symm ▸ hsl25)
    replace S : St W0 G0 158 [(11,SL qq),(80,BT (decide ((((k : Nat) : Int) - ((1 : Nat) : Int)) ≥ 0))),(14,IT (((k : Nat) : Int) - ((1 : Nat) : Int))),(13,MT.ex (nv .u64 (dig (vs) (vs.length - 2)))),(12,MT.ex (nv .u64 (dig (vs) (vs.length - 1)))),(9,SL vs),(10,MT.ex (Value.slice (some ⟨b55,0,none⟩) ((words x).length + 1) ((words x).length + 1))),(8,NT s),(27,BT (decide (((words (y)).length) = 1))),(22,BT (decide ((cmpN x y) < 0))),(5,MT.ex (Value.slice none 0 0)),(4,MT.ex (Value.slice none 0 0)),(1,SN nb y),(0,SN na x)] [⟨b55,141,some ((words x).length + 1),MT.ex (Value.agg (ucells (l)).toArray)⟩] a _ _:=S.keep [0,1,2,3,4,6,7,8,9,10,11,12,13,14]
    refine S.m rfl (S.g 0 rfl) rfl fun a w G S=>?_
    refine S.s (τ:=SN na (x / y)) (OpR.call1 rfl c_127 (trim_ok S.ok (SL.asSV (S.g 0 rfl) ⟨hdf.1,hdb⟩))) rfl fun a w G S=>?_
    obtain ⟨vz26,Gz26,hz26,hs26,hg26,hle26,S⟩:=S.freeze 0 rfl
    have hsl26 : (SL (l)).t (Value.slice (some ⟨b55,0,none⟩) ((words x).length + 1) ((words x).length + 1)) Gz26:=SL_frozen hz26 hg26 ⟨hl.symm,Nat.le_refl _⟩ (by simp only [LIM];omega) hlw
    replace S:=S.also (t:=10) (τ:=SL (l)) ((S.e 8 rfl).symm ▸ hsl26)
    replace S : St W0 G0 158 [(10,SL l),(154,SN na (x / y)),(153,SL qq),(11,SL qq),(80,BT (decide ((((k : Nat) : Int) - ((1 : Nat) : Int)) ≥ 0))),(14,IT (((k : Nat) : Int) - ((1 : Nat) : Int))),(13,MT.ex (nv .u64 (dig (vs) (vs.length - 2)))),(12,MT.ex (nv .u64 (dig (vs) (vs.length - 1)))),(9,SL vs),(8,NT s),(27,BT (decide (((words (y)).length) = 1))),(22,BT (decide ((cmpN x y) < 0))),(5,MT.ex (Value.slice none 0 0)),(4,MT.ex (Value.slice none 0 0)),(1,SN nb y),(0,SN na x)] [] a _ _:=S.keep [0,1,2,3,4,5,6,7,8,10,11,12,13,14,15,16]
    refine S.m rfl (S.g 0 rfl) rfl fun a w G S=>?_
    refine S.m rfl (S.g 10 rfl) rfl fun a w G S=>?_
    refine S.s (τ:=SN (nb + 32) ((val l) / 2 ^ s)) (OpR.call2 rfl c_136 (down_ok S.ok (SL.asSV (S.g 1 rfl) ⟨rfl,hub⟩) (S.g 0 rfl) (by omega))) rfl fun a w G S=>?_
    replace S:=S.d16
    refine S.q rfl (S.g 4 rfl) rfl fun a w G S=>?_
    replace S:=S.d16
    refine S.q rfl (S.g 1 rfl) rfl fun a w G S=>?_
    refine wn hK ?_;clear hK K
    replace S:=S.d7.d6.d4.d3.d2
    exact wp_ret (S.retTmp2 rfl (S.g 1 rfl) (SN.cast (S.g 0 rfl) hdf.2 hmb))
end Go.Proofs.YtpbkcbnghhodiaaGreat
namespace Go.Proofs.YtpbkcbnghhodiaaGreat
set_option maxHeartbeats 1000000
set_option maxRecDepth 100000
open Go.RowKit (Below)
private theorem bt_112_01 : ∀ (s0 : Bool) (A1 : Option Addr) (n1 c1 : Nat),Tryz.prog.built 112 [(0,.bool s0),(1,.slice A1 n1 c1)] = some #[.bool s0,.slice A1 n1 c1]:=fun s0 A1 n1 c1=>by kernel_rfl
private theorem c_105 : callable Tryz.prog 105 = true:=by kernel_rfl
private theorem c_106 : callable Tryz.prog 106 = true:=by kernel_rfl
private theorem c_66 : callable Tryz.prog 66 = true:=by kernel_rfl
private theorem c_94 : callable Tryz.prog 94 = true:=by kernel_rfl
private theorem c_98 : callable Tryz.prog 98 = true:=by kernel_rfl
private theorem fo_112_0 : fldOff Tryz.prog 112 0 = some 0:=by kernel_rfl
private theorem fo_112_1 : fldOff Tryz.prog 112 1 = some 1:=by kernel_rfl
private theorem tS_112 : tyS Tryz.prog 112 (some 2) = true:=by kernel_rfl
private theorem tS_22 : tyS Tryz.prog 22 (none) = true:=by kernel_rfl
private theorem tS_4 : tyS Tryz.prog 4 (none) = true:=by kernel_rfl
private theorem z_112 : (Tryz.prog.info? 112).bind (·.zero) = some (.agg #[.bool false,.slice none 0 0]):=by kernel_rfl
private theorem zs_112 : Shaped (some 2) (.agg #[.bool false,.slice none 0 0]):=⟨_,rfl,rfl,by simp [Value.oneCell']⟩
theorem iValid_ok {s : Bool} {l : List Nat} {v1 : Value} {W0 : World} {G0 : Gh} (hok : Gok W0 G0) (h1 : (WR s l).t v1 G0)  : Calls Tryz.prog 94 #[v1] W0 (Ret W0 G0 (BT (wok s l))):=by
 have hlim:=WR.lim h1
 simp only [LIM] at hlim
 refine St.enter (N:=19) (L:=[(0,WR s l)]) (args:=[v1]) Tryz.func94 rfl rfl rfl hok (enter1 h1) fun a S=>?_
 refine wp_reg fun K hK=>?_
 refine S.boxop (x:=.tmp 0) (τ:=WR s l) (S.g 0 rfl) (sh (τ:=WR s l) (S.g 0 rfl)) rfl rfl rfl rfl rfl fun b1 a w G S=>?_
 refine S.s (τ:=BT false) (OpR.asn S.ok rfl rfl) rfl fun a w G S=>?_
 refine wn hK ?_;clear hK K
 replace S:=S.d2
 refine wp_seq_k fun K hK=>?_
 refine wp_reg fun K hK=>?_
 refine S.s (τ:=MT.ex (Value.pointer (some ⟨b1,1,none⟩))) (OpR.fldA S.ok rfl (S.e 1 rfl) fo_112_1 rfl) rfl fun a w G S=>?_
 refine S.s (OpR.ldCell S.ok rfl (S.e 0 rfl) (S.box 0 rfl) tS_22 fun _ h hs=>WR.f1 h hs) rfl fun a w G S=>?_
 refine S.s (OpR.lenL S.ok rfl Tryz.underlying22 (S.g 0 rfl) MT.self) rfl fun a w G S=>?_
 refine S.s (OpR.neql S.ok rfl (S.e 0 rfl) (rfl : _ = nv .i64 0) MT.self) rfl fun a w G S=>?_
 refine wn hK ?_;clear hK K
 replace S:=S.d3.d2.d1
 refine S.cond 0 rfl (fun hc1=>?_) (fun hc1=>?_)
 ·
  have hp2:=of_decide_eq_true hc1
  refine wp_reg fun K hK=>?_
  refine S.s (τ:=PB b1) (OpR.fldA S.ok rfl (S.e 2 rfl) fo_112_0 rfl) rfl fun a w G S=>?_
  refine S.s (OpR.ldCell S.ok rfl (S.e 0 rfl) (S.box 0 rfl) tS_4 fun _ h hs=>WR.f0 h hs) rfl fun a w G S=>?_
  refine S.s (OpR.bnot S.ok rfl (S.e 0 rfl) MT.self) rfl fun a w G S=>?_
  replace S:=S.d4
  refine S.q rfl (S.g 0 rfl) rfl fun a w G S=>?_
  refine wn hK ?_;clear hK K
  replace S:=S.d3.d2.d1
  exact wp_ret (then_ret (S.retTmp rfl ((S.e 0 rfl).trans (bv_eq (wok_nil ‹_›)))))
 ·
  have hp3:=of_decide_eq_false hc1
  refine wp_skip ?_
  refine hK _ _ ?_;clear hK K
  refine wp_reg fun K hK=>?_
  refine S.s (τ:=MT.ex (Value.pointer (some ⟨b1,1,none⟩))) (OpR.fldA S.ok rfl (S.e 2 rfl) fo_112_1 rfl) rfl fun a w G S=>?_
  refine S.s (OpR.ldCell S.ok rfl (S.e 0 rfl) (S.box 0 rfl) tS_22 fun _ h hs=>WR.f1 h hs) rfl fun a w G S=>?_
  refine S.s (τ:=MT.ex (Value.pointer (some ⟨b1,1,none⟩))) (OpR.fldA S.ok rfl (S.e 4 rfl) fo_112_1 rfl) rfl fun a w G S=>?_
  refine S.s (OpR.ldCell S.ok rfl (S.e 0 rfl) (S.box 0 rfl) tS_22 fun _ h hs=>WR.f1 h hs) rfl fun a w G S=>?_
  refine S.s (OpR.lenL S.ok rfl Tryz.underlying22 (S.g 0 rfl) MT.self) rfl fun a w G S=>?_
  refine S.s (τ:=IT (((l.length : Nat) : Int) - ((1 : Nat) : Int))) (OpR.isub S.ok rfl (S.e 0 rfl) (rfl : _ = nv .i64 1) (iw_i64 (by omega) (by omega))) rfl fun a w G S=>?_
  refine S.s (τ:=PE (none) (MT.ex (nv .u32 (dig (l) (l.length - 1))))) (OpR.ixL (i:=l.length - 1) S.ok rfl Tryz.underlying22 tS_141 (S.g 4 rfl) (S.e 0 rfl) (by omega) (dig_get (by first | omega | (simp;omega)))) rfl fun a w G S=>?_
  refine S.s (OpR.ldE S.ok rfl tS_141 (S.g 0 rfl)) rfl fun a w G S=>?_
  refine S.s (OpR.nneq S.ok rfl (S.e 0 rfl) (rfl : _ = nv .u32 0) MT.self) rfl fun a w G S=>?_
  replace S:=S.d10
  refine S.q rfl (S.g 0 rfl) rfl fun a w G S=>?_
  refine wn hK ?_;clear hK K
  replace S:=S.d9.d8.d7.d6.d5.d4.d3.d2.d1
  exact wp_ret (S.retTmp rfl ((S.e 0 rfl).trans (bv_eq (wok_last ‹_›))))
theorem imag_ok {n : Nat} {z : Int} {v1 : Value} {W0 : World} {G0 : Gh} (hok : Gok W0 G0) (h1 : (W n z).t v1 G0)  : Calls Tryz.prog 98 #[v1] W0 (Ret W0 G0 (SN n z.natAbs)):=by
 obtain ⟨hlt,s,l,hv,h1⟩:=h1
 have hwf:=WR.wf h1
 refine St.enter (N:=8) (L:=[(0,WR s l)]) (args:=[v1]) Tryz.func98 rfl rfl rfl hok (enter1 h1) fun a S=>?_
 refine wp_reg fun K hK=>?_
 refine S.boxop (x:=.tmp 0) (τ:=WR s l) (S.g 0 rfl) (sh (τ:=WR s l) (S.g 0 rfl)) rfl rfl rfl rfl rfl fun b1 a w G S=>?_
 refine S.s (τ:=MT.ex (Value.slice none 0 0)) (OpR.asn S.ok rfl rfl) rfl fun a w G S=>?_
 refine wn hK ?_;clear hK K
 replace S:=S.d2
 refine wp_seq_k fun K hK=>?_
 refine wp_reg fun K hK=>?_
 refine S.s (OpR.ldBox S.ok rfl (S.e 1 rfl) (S.box 0 rfl) tS_112) rfl fun a w G S=>?_
 refine S.s (τ:=BT (wok s l)) (OpR.call1 rfl c_94 (iValid_ok S.ok (S.g 0 rfl))) rfl fun a w G S=>?_
 refine S.s (OpR.bnot S.ok rfl (S.e 0 rfl) MT.self) rfl fun a w G S=>?_
 refine wn hK ?_;clear hK K
 replace S:=S.d2.d1
 refine S.cond 0 rfl (fun hc1=>?_) (fun hc1=>?_)
 ·
  refine wp_reg fun K hK=>?_
  replace S:=S.d1
  refine S.s (τ:=MT.ex (Value.slice none 0 0)) (OpR.asn S.ok rfl rfl) rfl fun a w G S=>?_
  refine wn hK ?_;clear hK K
  exact wp_ret (then_ret (S.retTmp rfl (SN_nil_of (S.e 0 rfl) (by rw [not_wok hv (not_true_of ‹_›)];rfl))))
 ·
  refine wp_skip ?_
  refine hK _ _ ?_;clear hK K
  refine wp_reg fun K hK=>?_
  refine S.s (τ:=MT.ex (Value.pointer (some ⟨b1,1,none⟩))) (OpR.fldA S.ok rfl (S.e 2 rfl) fo_112_1 rfl) rfl fun a w G S=>?_
  refine S.s (OpR.ldCell S.ok rfl (S.e 0 rfl) (S.box 0 rfl) tS_22 fun _ h hs=>WR.f1 h hs) rfl fun a w G S=>?_
  replace S:=S.d3
  refine S.q rfl (S.g 0 rfl) rfl fun a w G S=>?_
  refine wn hK ?_;clear hK K
  replace S:=S.d2.d1
  exact wp_ret (S.retTmp rfl (SL.toSN (S.g 0 rfl) (mag_of hwf hv (not_false_of ‹_›)) hlt))
theorem ineg_ok {n : Nat} {z : Int} {v1 : Value} {W0 : World} {G0 : Gh} (hok : Gok W0 G0) (h1 : (W n z).t v1 G0)  : Calls Tryz.prog 105 #[v1] W0 (Ret W0 G0 (BT (decide (z < 0)))):=by
 obtain ⟨hlt,s,l,hv,h1⟩:=h1
 have hwf:=WR.wf h1
 refine St.enter (N:=9) (L:=[(0,WR s l)]) (args:=[v1]) Tryz.func105 rfl rfl rfl hok (enter1 h1) fun a S=>?_
 refine wp_reg fun K hK=>?_
 refine S.boxop (x:=.tmp 0) (τ:=WR s l) (S.g 0 rfl) (sh (τ:=WR s l) (S.g 0 rfl)) rfl rfl rfl rfl rfl fun b1 a w G S=>?_
 refine S.s (τ:=BT false) (OpR.asn S.ok rfl rfl) rfl fun a w G S=>?_
 refine wn hK ?_;clear hK K
 replace S:=S.d2
 refine wp_reg fun K hK=>?_
 refine S.s (OpR.ldBox S.ok rfl (S.e 1 rfl) (S.box 0 rfl) tS_112) rfl fun a w G S=>?_
 refine S.s (τ:=BT (wok s l)) (OpR.call1 rfl c_94 (iValid_ok S.ok (S.g 0 rfl))) rfl fun a w G S=>?_
 refine S.m rfl (S.g 0 rfl) rfl fun a w G S=>?_
 rcases Bool.eq_false_or_eq_true (wok s l) with hc1 | hc1
 ·
  replace S:=S.boolIs 0 rfl hc1
  refine S.stepG (τ:=PB b1) 0 (OpR.fldA S.ok rfl (S.e 5 rfl) fo_112_0 rfl) rfl rfl rfl rfl rfl rfl fun a w G S=>?_
  refine S.stepG 1 (OpR.ldCell S.ok rfl (S.e 0 rfl) (S.box 0 rfl) tS_4 fun _ h hs=>WR.f0 h hs) rfl rfl rfl rfl rfl rfl fun a w G S=>?_
  refine S.s (τ:=BT s) (OpR.pick S.ok rfl (S.e 2 rfl) (S.g 0 rfl)) rfl fun a w G S=>?_
  replace S:=S.d7
  refine S.q rfl (S.g 0 rfl) rfl fun a w G S=>?_
  refine wn hK ?_;clear hK K
  replace S:=S.d8.d7.d6.d5.d4.d3.d2.d1
  exact wp_ret (S.retTmp rfl ((S.e 0 rfl).trans (bv_eq (neg_of hwf hv ‹_›))))
 ·
  replace S:=S.boolIs 0 rfl hc1
  refine S.skipG 0 rfl rfl rfl rfl rfl rfl fun a w G S=>?_
  refine S.skipG 1 rfl rfl rfl rfl rfl rfl fun a w G S=>?_
  refine S.s (τ:=BT false) (OpR.pick S.ok rfl (S.e 2 rfl) rfl) rfl fun a w G S=>?_
  replace S:=S.d7
  refine S.q rfl (S.g 0 rfl) rfl fun a w G S=>?_
  refine wn hK ?_;clear hK K
  replace S:=S.d8.d7.d6.d5.d4.d3.d2.d1
  exact wp_ret (S.retTmp rfl ((S.e 0 rfl).trans (bv_eq (by rw [not_wok hv ‹_›];rfl))))
theorem iwhole_ok {s : Bool} {nb m : Nat} {v1 v2 : Value} {W0 : World} {G0 : Gh} (hok : Gok W0 G0) (h1 : (BT s).t v1 G0) (h2 : (SV nb m).t v2 G0)  : Calls Tryz.prog 106 #[v1,v2] W0 (Ret W0 G0 (WC nb (sg s m))):=by
 have hm:=h2.1
 refine St.enter (N:=15) (L:=[(1,SV nb m),(0,BT s)]) (args:=[v1,v2]) Tryz.func106 rfl rfl rfl hok (enter2 h1 h2) fun a S=>?_
 refine wp_reg fun K hK=>?_
 refine S.alloc rfl rfl rfl z_112 zs_112 rfl rfl fun b4 a w G S=>?_
 refine wn hK ?_;clear hK K
 refine wp_reg fun K hK=>?_
 refine S.m rfl (S.g 1 rfl) rfl fun a w G S=>?_
 refine S.s (τ:=SN nb m) (OpR.call1 rfl c_127 (trim_ok S.ok (S.g 0 rfl))) rfl fun a w G S=>?_
 replace S:=S.d3
 refine S.q rfl (S.g 0 rfl) rfl fun a w G S=>?_
 refine wn hK ?_;clear hK K
 replace S:=S.d2.d1
 refine wp_reg fun K hK=>?_
 refine S.m rfl (S.g 2 rfl) rfl fun a w G S=>?_
 refine S.m rfl (S.g 0 rfl) rfl fun a w G S=>?_
 rcases Bool.eq_false_or_eq_true (s) with hc1 | hc1
 ·
  replace S:=S.boolIs 0 rfl hc1
  refine S.stepG 0 (OpR.mv S.ok rfl (S.g 3 rfl)) rfl rfl rfl rfl rfl rfl fun a w G S=>?_
  refine S.stepG 1 (OpR.lenL S.ok rfl Tryz.underlying22 (SN.toSL (S.g 0 rfl)) MT.self) rfl rfl rfl rfl rfl rfl fun a w G S=>?_
  refine S.stepG 2 (OpR.ngtr S.ok rfl (S.e 0 rfl) (rfl : _ = nv .i64 0) MT.self) rfl rfl rfl rfl rfl rfl fun a w G S=>?_
  refine S.s (τ:=BT (decide (0 < ((words (m)).length)))) (OpR.pick S.ok rfl (S.e 3 rfl) (S.g 0 rfl)) rfl fun a w G S=>?_
  refine S.m rfl (S.g 7 rfl) rfl fun a w G S=>?_
  refine S.s (τ:=WR (decide (0 < ((words (m)).length))) (words (m))) (OpR.bWR S.ok rfl bt_112_01 (S.e 1 rfl) (SN.toSL (S.g 0 rfl))) rfl fun a w G S=>?_
  refine S.store (τ:=WR (decide (0 < ((words (m)).length))) (words (m))) 0 rfl rfl rfl rfl (S.e 10 rfl) tS_112 (S.g 0 rfl) (sh (τ:=WR (decide (0 < ((words (m)).length))) (words (m))) (S.g 0 rfl)) fun w S=>?_
  replace S:=S.n0
  refine wn hK ?_;clear hK K
  replace S:=S.d11.d8.d7.d6.d5.d4.d3.d2.d1.d0
  exact wp_ret (S.retCell (i:=0) rfl (S.e 1 rfl) rfl tS_112 (fun _ h=>(WR.whole h (by simp [*]) hm)))
 ·
  replace S:=S.boolIs 0 rfl hc1
  refine S.skipG 0 rfl rfl rfl rfl rfl rfl fun a w G S=>?_
  refine S.skipG 1 rfl rfl rfl rfl rfl rfl fun a w G S=>?_
  refine S.skipG 2 rfl rfl rfl rfl rfl rfl fun a w G S=>?_
  refine S.s (τ:=BT false) (OpR.pick S.ok rfl (S.e 3 rfl) rfl) rfl fun a w G S=>?_
  refine S.m rfl (S.g 7 rfl) rfl fun a w G S=>?_
  refine S.s (τ:=WR false (words (m))) (OpR.bWR S.ok rfl bt_112_01 (S.e 1 rfl) (SN.toSL (S.g 0 rfl))) rfl fun a w G S=>?_
  refine S.store (τ:=WR false (words (m))) 0 rfl rfl rfl rfl (S.e 10 rfl) tS_112 (S.g 0 rfl) (sh (τ:=WR false (words (m))) (S.g 0 rfl)) fun w S=>?_
  replace S:=S.n0
  refine wn hK ?_;clear hK K
  replace S:=S.d11.d8.d7.d6.d5.d4.d3.d2.d1.d0
  exact wp_ret (S.retCell (i:=0) rfl (S.e 1 rfl) rfl tS_112 (fun _ h=>(WR.whole h (by simp [*]) hm)))
theorem iSign_ok {n : Nat} {z : Int} {v1 : Value} {W0 : World} {G0 : Gh} (hok : Gok W0 G0) (h1 : (W n z).t v1 G0)  : Calls Tryz.prog 66 #[v1] W0 (Ret W0 G0 (IT z.sign)):=by
 obtain ⟨hlt,s,l,hv,h1⟩:=h1
 have hwf:=WR.wf h1
 refine St.enter (N:=11) (L:=[(0,WR s l)]) (args:=[v1]) Tryz.func66 rfl rfl rfl hok (enter1 h1) fun a S=>?_
 refine wp_reg fun K hK=>?_
 refine S.boxop (x:=.tmp 0) (τ:=WR s l) (S.g 0 rfl) (sh (τ:=WR s l) (S.g 0 rfl)) rfl rfl rfl rfl rfl fun b1 a w G S=>?_
 refine S.s (τ:=NT 0) (OpR.asn S.ok rfl (rfl : _ = nv .i64 0)) rfl fun a w G S=>?_
 refine wn hK ?_;clear hK K
 replace S:=S.d2
 refine wp_seq_k fun K hK=>?_
 refine wp_block ?_
 refine wp_reg fun K hK=>?_
 refine S.s (OpR.ldBox S.ok rfl (S.e 1 rfl) (S.box 0 rfl) tS_112) rfl fun a w G S=>?_
 refine S.s (τ:=SN n z.natAbs) (OpR.call1 rfl c_98 (imag_ok S.ok (WR.toW (S.g 0 rfl) ⟨hv,hlt⟩))) rfl fun a w G S=>?_
 refine S.s (OpR.lenL S.ok rfl Tryz.underlying22 (SN.toSL (S.g 0 rfl)) MT.self) rfl fun a w G S=>?_
 refine S.s (OpR.neql S.ok rfl (S.e 0 rfl) (rfl : _ = nv .i64 0) MT.self) rfl fun a w G S=>?_
 refine S.q rfl (S.g 0 rfl) rfl fun a w G S=>?_
 refine wn hK ?_;clear hK K
 replace S:=S.d4.d3.d2.d1
 refine S.cond 0 rfl (fun hc1=>?_) (fun hc1=>?_)
 ·
  have hp2:=of_decide_eq_true hc1
  refine wp_reg fun K hK=>?_
  replace S:=S.d1
  refine S.s (τ:=NT 0) (OpR.asn S.ok rfl (rfl : _ = nv .i64 0)) rfl fun a w G S=>?_
  refine wn hK ?_;clear hK K
  exact wp_ret (block_ret (then_ret (S.retTmp rfl ((S.e 0 rfl).trans (iv_eq (sign_zero ‹_›))))))
 ·
  have hp3:=of_decide_eq_false hc1
  refine wp_reg fun K hK=>?_
  refine S.s (τ:=PB b1) (OpR.fldA S.ok rfl (S.e 2 rfl) fo_112_0 rfl) rfl fun a w G S=>?_
  refine S.s (OpR.ldCell S.ok rfl (S.e 0 rfl) (S.box 0 rfl) tS_4 fun _ h hs=>WR.f0 h hs) rfl fun a w G S=>?_
  refine S.q rfl (S.g 0 rfl) rfl fun a w G S=>?_
  refine wn hK ?_;clear hK K
  replace S:=S.d2.d1
  refine S.cond 0 rfl (fun hc4=>?_) (fun hc4=>?_)
  ·
   refine wp_reg fun K hK=>?_
   replace S:=S.d2
   refine S.s (τ:=IT (-1)) (OpR.asn S.ok rfl (rfl : _ = Value.int .i64 (-1))) rfl fun a w G S=>?_
   refine wn hK ?_;clear hK K
   exact wp_ret (block_ret (then_ret (S.retTmp rfl ((S.e 0 rfl).trans (iv_eq (sign_neg hwf hv ‹_› ‹_›))))))
  ·
   refine wp_skip ?_
   refine hK _ _ ?_;clear hK K
   refine wp_reg fun K hK=>?_
   replace S:=S.d2
   refine S.s (τ:=NT 1) (OpR.asn S.ok rfl (rfl : _ = nv .i64 1)) rfl fun a w G S=>?_
   refine wn hK ?_;clear hK K
   exact wp_ret (S.retTmp rfl ((S.e 0 rfl).trans (iv_eq (sign_pos hwf hv ‹_› ‹_›))))
theorem iCmp_ok {n m : Nat} {x y : Int} {v1 v2 : Value} {W0 : World} {G0 : Gh} (hok : Gok W0 G0) (h1 : (W n x).t v1 G0) (h2 : (W m y).t v2 G0)  : Calls Tryz.prog 74 #[v1,v2] W0 (Ret W0 G0 (IT (cmpZ x y))):=by
 have hcb:=cmpN_bd x.natAbs y.natAbs
 refine St.enter (N:=28) (L:=[(1,W m y),(0,W n x)]) (args:=[v1,v2]) Tryz.func74 rfl rfl rfl hok (enter2 h1 h2) fun a S=>?_
 refine wp_reg fun K hK=>?_
 refine S.boxop (x:=.tmp 0) (τ:=W n x) (S.g 1 rfl) (sh (τ:=W n x) (S.g 1 rfl)) rfl rfl rfl rfl rfl fun b2 a w G S=>?_
 refine S.boxop (x:=.tmp 1) (τ:=W m y) (S.g 1 rfl) (sh (τ:=W m y) (S.g 1 rfl)) rfl rfl rfl rfl rfl fun b3 a w G S=>?_
 refine S.s (τ:=NT 0) (OpR.asn S.ok rfl (rfl : _ = nv .i64 0)) rfl fun a w G S=>?_
 refine wn hK ?_;clear hK K
 replace S:=S.d4.d3
 refine wp_seq_k fun K hK=>?_
 refine wp_seq_k fun K hK=>?_
 refine S.drawn [⟨8,.g (W n x),[]⟩,⟨9,.g (IT x.sign),[0]⟩,⟨10,.g (W m y),[]⟩,⟨11,.g (IT y.sign),[2]⟩,⟨5,.g (IT x.sign),[1]⟩,⟨6,.g (IT y.sign),[3]⟩] mixedOrders (by kernel_rfl)
  ⟨fun a w G S=>.of rfl (OpR.ldBox S.ok rfl (S.e 2 rfl) (S.box 1 rfl) tS_112),
   fun a w G S=>.of rfl (OpR.call1 rfl c_66 (iSign_ok S.ok (S.g 0 rfl))),
   fun a w G S=>.of rfl (OpR.ldBox S.ok rfl (S.e 1 rfl) (S.box 0 rfl) tS_112),
   fun a w G S=>.of rfl (OpR.call1 rfl c_66 (iSign_ok S.ok (S.g 0 rfl))),
   fun a w G S=>.of rfl (OpR.asn S.ok rfl (S.g 0 rfl)),
   fun a w G S=>.of rfl (OpR.asn S.ok rfl (S.g 0 rfl)),trivial⟩ fun β a w G S=>?_
 replace S : St W0 G0 28 [(6,IT y.sign),(5,IT x.sign),(4,NT 0),(3,PB b3),(2,PB b2)] [⟨b3,112,some 2,W m y⟩,⟨b2,112,some 2,W n x⟩] a _ _:=S.keep [0,1,6,7,8]
 refine wn hK ?_;clear hK K
 refine wp_reg fun K hK=>?_
 refine S.m rfl (S.g 1 rfl) rfl fun a w G S=>?_
 refine S.m rfl (S.g 1 rfl) rfl fun a w G S=>?_
 refine S.s (OpR.zneq S.ok rfl (S.e 1 rfl) (S.e 0 rfl) MT.self) rfl fun a w G S=>?_
 refine wn hK ?_;clear hK K
 replace S:=S.d2.d1
 refine S.cond 0 rfl (fun hc1=>?_) (fun hc1=>?_)
 ·
  have hp2:=of_decide_eq_true hc1
  refine wp_seq_k fun K hK=>?_
  refine wp_reg fun K hK=>?_
  refine S.m rfl (S.g 2 rfl) rfl fun a w G S=>?_
  refine S.m rfl (S.g 2 rfl) rfl fun a w G S=>?_
  refine S.s (OpR.ilss S.ok rfl (S.e 1 rfl) (S.e 0 rfl) MT.self) rfl fun a w G S=>?_
  refine wn hK ?_;clear hK K
  replace S:=S.d2.d1
  refine S.cond 0 rfl (fun hc3=>?_) (fun hc3=>?_)
  ·
   have hp4:=of_decide_eq_true hc3
   refine wp_reg fun K hK=>?_
   replace S:=S.d4
   refine S.s (τ:=IT (-1)) (OpR.asn S.ok rfl (rfl : _ = Value.int .i64 (-1))) rfl fun a w G S=>?_
   refine wn hK ?_;clear hK K
   exact wp_ret (then_ret (then_ret (S.retTmp rfl ((S.e 0 rfl).trans (iv_eq (cmp_lt ‹_›))))))
  ·
   have hp5:=of_decide_eq_false hc3
   refine wp_skip ?_
   refine hK _ _ ?_;clear hK K
   refine wp_reg fun K hK=>?_
   replace S:=S.d4
   refine S.s (τ:=NT 1) (OpR.asn S.ok rfl (rfl : _ = nv .i64 1)) rfl fun a w G S=>?_
   refine wn hK ?_;clear hK K
   exact wp_ret (then_ret (S.retTmp rfl ((S.e 0 rfl).trans (iv_eq (cmp_gt ‹_› ‹_›)))))
 ·
  have hp6:=of_decide_eq_false hc1
  refine wp_skip ?_
  refine hK _ _ ?_;clear hK K
  refine wp_seq_k fun K hK=>?_
  refine S.drawn [⟨18,.g (W n x),[]⟩,⟨19,.g (SN n x.natAbs),[0]⟩,⟨20,.g (W m y),[]⟩,⟨21,.g (SN m y.natAbs),[2]⟩,⟨22,.g (IT (cmpN (x.natAbs) (y.natAbs))),[1,3]⟩,⟨7,.g (IT (cmpN (x.natAbs) (y.natAbs))),[4]⟩] mixedOrders (by kernel_rfl)
   ⟨fun a w G S=>.of rfl (OpR.ldBox S.ok rfl (S.e 5 rfl) (S.box 1 rfl) tS_112),
    fun a w G S=>.of rfl (OpR.call1 rfl c_98 (imag_ok S.ok (S.g 0 rfl))),
    fun a w G S=>.of rfl (OpR.ldBox S.ok rfl (S.e 4 rfl) (S.box 0 rfl) tS_112),
    fun a w G S=>.of rfl (OpR.call1 rfl c_98 (imag_ok S.ok (S.g 0 rfl))),
    fun a w G S=>.of rfl (OpR.call2 rfl c_104 (compare_ok S.ok (S.g 0 rfl) (S.g 1 rfl))),
    fun a w G S=>.of rfl (OpR.asn S.ok rfl (S.g 0 rfl)),trivial⟩ fun β a w G S=>?_
  replace S : St W0 G0 28 [(7,IT (cmpN (x.natAbs) (y.natAbs))),(14,BT (decide (x.sign ≠ y.sign))),(6,IT y.sign),(5,IT x.sign),(4,NT 0),(3,PB b3),(2,PB b2)] [⟨b3,112,some 2,W m y⟩,⟨b2,112,some 2,W n x⟩] a _ _:=S.keep [0,6,7,8,9,10,11]
  refine wn hK ?_;clear hK K
  refine wp_seq_k fun K hK=>?_
  refine wp_reg fun K hK=>?_
  refine S.s (OpR.ldBox S.ok rfl (S.e 6 rfl) (S.box 1 rfl) tS_112) rfl fun a w G S=>?_
  refine S.s (τ:=BT (decide (x < 0))) (OpR.call1 rfl c_105 (ineg_ok S.ok (S.g 0 rfl))) rfl fun a w G S=>?_
  refine wn hK ?_;clear hK K
  replace S:=S.d1
  refine S.cond 0 rfl (fun hc7=>?_) (fun hc7=>?_)
  ·
   have hp8:=of_decide_eq_true hc7
   refine wp_reg fun K hK=>?_
   refine S.m rfl (S.g 1 rfl) rfl fun a w G S=>?_
   refine S.s (τ:=IT (-(cmpN (x.natAbs) (y.natAbs)))) (OpR.ineg S.ok rfl (S.e 0 rfl) (iw_i64 (by omega) (by omega))) rfl fun a w G S=>?_
   replace S:=S.d7
   refine S.q rfl (S.g 0 rfl) rfl fun a w G S=>?_
   refine wn hK ?_;clear hK K
   replace S:=S.d2.d1
   exact wp_ret (then_ret (S.retTmp rfl ((S.e 0 rfl).trans (iv_eq (cmp_neg ‹_› (of_decide_eq_true ‹_›))))))
  ·
   have hp9:=of_decide_eq_false hc7
   refine wp_skip ?_
   refine hK _ _ ?_;clear hK K
   refine wp_reg fun K hK=>?_
   refine S.m rfl (S.g 1 rfl) rfl fun a w G S=>?_
   replace S:=S.d6
   refine S.q rfl (S.g 0 rfl) rfl fun a w G S=>?_
   refine wn hK ?_;clear hK K
   replace S:=S.d1
   exact wp_ret (S.retTmp rfl ((S.e 0 rfl).trans (iv_eq (cmp_pos ‹_› (of_decide_eq_false ‹_›)))))
theorem iNeg_ok {n : Nat} {z : Int} {v1 : Value} {W0 : World} {G0 : Gh} (hok : Gok W0 G0) (h1 : (W n z).t v1 G0)  : Calls Tryz.prog 81 #[v1] W0 (Ret W0 G0 (WC n (-z))):=by
 refine St.enter (N:=9) (L:=[(0,W n z)]) (args:=[v1]) Tryz.func81 rfl rfl rfl hok (enter1 h1) fun a S=>?_
 refine wp_reg fun K hK=>?_
 refine S.boxop (x:=.tmp 0) (τ:=W n z) (S.g 0 rfl) (sh (τ:=W n z) (S.g 0 rfl)) rfl rfl rfl rfl rfl fun b1 a w G S=>?_
 refine S.alloc rfl rfl rfl z_112 zs_112 rfl rfl fun b2 a w G S=>?_
 refine wn hK ?_;clear hK K
 replace S:=S.d2
 refine wp_seq_k fun K hK=>?_
 refine S.drawn [⟨3,.g (W n z),[]⟩,⟨4,.g (BT (decide (z < 0))),[0]⟩,⟨5,.g (BT (!(decide (z < 0)))),[1]⟩,⟨6,.g (W n z),[]⟩,⟨7,.g (SN n z.natAbs),[3]⟩,⟨8,.g (WC n (sg (!(decide (z < 0))) (z.natAbs))),[2,4]⟩] mixedOrders (by kernel_rfl)
  ⟨fun a w G S=>.of rfl (OpR.ldBox S.ok rfl (S.e 1 rfl) (S.box 1 rfl) tS_112),
   fun a w G S=>.of rfl (OpR.call1 rfl c_105 (ineg_ok S.ok (S.g 0 rfl))),
   fun a w G S=>.of rfl (OpR.bnot S.ok rfl (S.e 0 rfl) MT.self),
   fun a w G S=>.of rfl (OpR.ldBox S.ok rfl (S.e 1 rfl) (S.box 1 rfl) tS_112),
   fun a w G S=>.of rfl (OpR.call1 rfl c_98 (imag_ok S.ok (S.g 0 rfl))),
   fun a w G S=>.of rfl (OpR.call2 rfl c_106 (iwhole_ok S.ok (S.g 0 rfl) (SN.toSV (S.g 1 rfl)))),trivial⟩ fun β a w G S=>?_
 replace S : St W0 G0 9 [(8,WC n (sg (!(decide (z < 0))) (z.natAbs))),(2,PB b2)] [⟨b2,112,some 2,MT.ex ((.agg #[.bool false,.slice none 0 0] : Value))⟩,⟨b1,112,some 2,W n z⟩] a _ _:=S.keep [0,6]
 refine S.store (τ:=WC n (sg (!(decide (z < 0))) (z.natAbs))) 0 rfl rfl rfl rfl (S.e 1 rfl) tS_112 (S.g 0 rfl) (sh (τ:=WC n (sg (!(decide (z < 0))) (z.natAbs))) (S.g 0 rfl)) fun w S=>?_
 replace S:=S.n0
 refine wn hK ?_;clear hK K
 replace S:=S.d0
 exact wp_ret (S.retCell (i:=0) rfl (S.e 0 rfl) rfl tS_112 (fun _ h=>(WC.eq h neg_sg)))
end Go.Proofs.YtpbkcbnghhodiaaGreat
namespace Go.Proofs.YtpbkcbnghhodiaaGreat
set_option maxHeartbeats 1000000
set_option maxRecDepth 100000
open Go.RowKit (Below)
private theorem bt_112_ : Tryz.prog.built 112 [] = some #[.bool false,.slice none 0 0]:=by kernel_rfl
private theorem c_107 : callable Tryz.prog 107 = true:=by kernel_rfl
private theorem c_109 : callable Tryz.prog 109 = true:=by kernel_rfl
private theorem c_110 : callable Tryz.prog 110 = true:=by kernel_rfl
private theorem c_119 : callable Tryz.prog 119 = true:=by kernel_rfl
private theorem it_3 : intTy Tryz.prog 3 .i64 = true:=by kernel_rfl
private theorem ni_70 : (match Tryz.prog.underlying 70 with | some (.interface _)=>false | some _=>true | none=>false) = true:=by kernel_rfl
theorem iAdd_ok {n m : Nat} {x y : Int} {v1 v2 : Value} {W0 : World} {G0 : Gh} (hok : Gok W0 G0) (h1 : (W n x).t v1 G0) (h2 : (W m y).t v2 G0) (hna : n ≤ BIG) (hnb : m ≤ BIG) : Calls Tryz.prog 80 #[v1,v2] W0 (Ret W0 G0 (WC (max n m + 1) (x + y))):=by
 refine St.enter (N:=40) (L:=[(1,W m y),(0,W n x)]) (args:=[v1,v2]) Tryz.func80 rfl rfl rfl hok (enter2 h1 h2) fun a S=>?_
 refine wp_reg fun K hK=>?_
 refine S.boxop (x:=.tmp 0) (τ:=W n x) (S.g 1 rfl) (sh (τ:=W n x) (S.g 1 rfl)) rfl rfl rfl rfl rfl fun b2 a w G S=>?_
 refine S.boxop (x:=.tmp 1) (τ:=W m y) (S.g 1 rfl) (sh (τ:=W m y) (S.g 1 rfl)) rfl rfl rfl rfl rfl fun b3 a w G S=>?_
 refine S.alloc rfl rfl rfl z_112 zs_112 rfl rfl fun b4 a w G S=>?_
 refine wn hK ?_;clear hK K
 replace S:=S.d4.d3
 refine wp_seq_k fun K hK=>?_
 refine S.drawn [⟨7,.g (W n x),[]⟩,⟨8,.g (SN n x.natAbs),[0]⟩,⟨9,.g (W m y),[]⟩,⟨10,.g (SN m y.natAbs),[2]⟩,⟨5,.g (SN n x.natAbs),[1]⟩,⟨6,.g (SN m y.natAbs),[3]⟩] mixedOrders (by kernel_rfl)
  ⟨fun a w G S=>.of rfl (OpR.ldBox S.ok rfl (S.e 2 rfl) (S.box 2 rfl) tS_112),
   fun a w G S=>.of rfl (OpR.call1 rfl c_98 (imag_ok S.ok (S.g 0 rfl))),
   fun a w G S=>.of rfl (OpR.ldBox S.ok rfl (S.e 1 rfl) (S.box 1 rfl) tS_112),
   fun a w G S=>.of rfl (OpR.call1 rfl c_98 (imag_ok S.ok (S.g 0 rfl))),
   fun a w G S=>.of rfl (OpR.asn S.ok rfl (S.g 0 rfl)),
   fun a w G S=>.of rfl (OpR.asn S.ok rfl (S.g 0 rfl)),trivial⟩ fun β a w G S=>?_
 replace S : St W0 G0 40 [(6,SN m y.natAbs),(5,SN n x.natAbs),(4,PB b4),(3,PB b3),(2,PB b2)] [⟨b4,112,some 2,MT.ex ((.agg #[.bool false,.slice none 0 0] : Value))⟩,⟨b3,112,some 2,W m y⟩,⟨b2,112,some 2,W n x⟩] a _ _:=S.keep [0,1,6,7,8]
 refine wn hK ?_;clear hK K
 refine wp_seq_k fun K hK=>?_
 refine wp_block ?_
 refine wp_seq_k fun K hK=>?_
 refine S.drawn [⟨12,.g (W n x),[]⟩,⟨13,.g (BT (decide (x < 0))),[0]⟩,⟨14,.g (W m y),[]⟩,⟨15,.g (BT (decide (y < 0))),[2]⟩,⟨16,.g (BT ((decide (x < 0)) == (decide (y < 0)))),[1,3]⟩,⟨11,.g (BT ((decide (x < 0)) == (decide (y < 0)))),[4]⟩] mixedOrders (by kernel_rfl)
  ⟨fun a w G S=>.of rfl (OpR.ldBox S.ok rfl (S.e 4 rfl) (S.box 2 rfl) tS_112),
   fun a w G S=>.of rfl (OpR.call1 rfl c_105 (ineg_ok S.ok (S.g 0 rfl))),
   fun a w G S=>.of rfl (OpR.ldBox S.ok rfl (S.e 3 rfl) (S.box 1 rfl) tS_112),
   fun a w G S=>.of rfl (OpR.call1 rfl c_105 (ineg_ok S.ok (S.g 0 rfl))),
   fun a w G S=>.of rfl (OpR.beql S.ok rfl (S.e 0 rfl) (S.e 1 rfl) Tryz.underlying4 MT.self),
   fun a w G S=>.of rfl (OpR.asn S.ok rfl (S.g 0 rfl)),trivial⟩ fun β a w G S=>?_
 replace S : St W0 G0 40 [(11,BT ((decide (x < 0)) == (decide (y < 0)))),(6,SN m y.natAbs),(5,SN n x.natAbs),(4,PB b4),(3,PB b3),(2,PB b2)] [⟨b4,112,some 2,MT.ex ((.agg #[.bool false,.slice none 0 0] : Value))⟩,⟨b3,112,some 2,W m y⟩,⟨b2,112,some 2,W n x⟩] a _ _:=S.keep [0,6,7,8,9,10]
 refine wn hK ?_;clear hK K
 refine S.cond 0 rfl (fun hc1=>?_) (fun hc1=>?_)
 ·
  refine wp_reg fun K hK=>?_
  refine S.s (OpR.ldBox S.ok rfl (S.e 5 rfl) (S.box 2 rfl) tS_112) rfl fun a w G S=>?_
  refine S.s (τ:=BT (decide (x < 0))) (OpR.call1 rfl c_105 (ineg_ok S.ok (S.g 0 rfl))) rfl fun a w G S=>?_
  refine S.m rfl (S.g 4 rfl) rfl fun a w G S=>?_
  refine S.m rfl (S.g 4 rfl) rfl fun a w G S=>?_
  refine S.s (τ:=SN (max n m + 1) ((x.natAbs) + (y.natAbs))) (OpR.call2 rfl c_109 (plus_ok S.ok (S.g 1 rfl) (S.g 0 rfl) (by omega) (by omega))) rfl fun a w G S=>?_
  refine S.s (τ:=WC (max n m + 1) (sg (decide (x < 0)) ((x.natAbs) + (y.natAbs)))) (OpR.call2 rfl c_106 (iwhole_ok S.ok (S.g 3 rfl) (SN.toSV (S.g 0 rfl)))) rfl fun a w G S=>?_
  refine S.store (τ:=WC (max n m + 1) (sg (decide (x < 0)) ((x.natAbs) + (y.natAbs)))) 0 rfl rfl rfl rfl (S.e 9 rfl) tS_112 (S.g 0 rfl) (sh (τ:=WC (max n m + 1) (sg (decide (x < 0)) ((x.natAbs) + (y.natAbs)))) (S.g 0 rfl)) fun w S=>?_
  replace S:=S.n0
  refine wn hK ?_;clear hK K
  replace S:=S.d5.d4.d3.d2.d1.d0
  exact wp_ret (block_ret (then_ret (S.retCell (i:=0) rfl (S.e 3 rfl) rfl tS_112 (fun _ h=>(WC.eq h (add_same ‹_›))))))
 ·
  refine wp_reg fun K hK=>?_
  refine S.m rfl (S.g 2 rfl) rfl fun a w G S=>?_
  refine S.m rfl (S.g 2 rfl) rfl fun a w G S=>?_
  refine S.s (τ:=IT (cmpN (x.natAbs) (y.natAbs))) (OpR.call2 rfl c_104 (compare_ok S.ok (S.g 1 rfl) (S.g 0 rfl))) rfl fun a w G S=>?_
  refine S.s (OpR.igeq S.ok rfl (S.e 0 rfl) (rfl : _ = nv .i64 0) MT.self) rfl fun a w G S=>?_
  refine S.q rfl (S.g 0 rfl) rfl fun a w G S=>?_
  refine wn hK ?_;clear hK K
  replace S:=S.d4.d3.d2.d1
  refine S.cond 0 rfl (fun hc4=>?_) (fun hc4=>?_)
  ·
   have hp5:=of_decide_eq_true hc4
   have hle:=cmpN_ge.1 hp5
   refine wp_reg fun K hK=>?_
   refine S.s (OpR.ldBox S.ok rfl (S.e 6 rfl) (S.box 2 rfl) tS_112) rfl fun a w G S=>?_
   refine S.s (τ:=BT (decide (x < 0))) (OpR.call1 rfl c_105 (ineg_ok S.ok (S.g 0 rfl))) rfl fun a w G S=>?_
   refine S.m rfl (S.g 5 rfl) rfl fun a w G S=>?_
   refine S.m rfl (S.g 5 rfl) rfl fun a w G S=>?_
   refine S.s (τ:=SN n ((x.natAbs) - (y.natAbs))) (OpR.call2 rfl c_110 (less_ok S.ok (S.g 1 rfl) (S.g 0 rfl) (by omega))) rfl fun a w G S=>?_
   refine S.s (τ:=WC n (sg (decide (x < 0)) ((x.natAbs) - (y.natAbs)))) (OpR.call2 rfl c_106 (iwhole_ok S.ok (S.g 3 rfl) (SN.toSV (S.g 0 rfl)))) rfl fun a w G S=>?_
   refine S.store (τ:=WC n (sg (decide (x < 0)) ((x.natAbs) - (y.natAbs)))) 0 rfl rfl rfl rfl (S.e 10 rfl) tS_112 (S.g 0 rfl) (sh (τ:=WC n (sg (decide (x < 0)) ((x.natAbs) - (y.natAbs)))) (S.g 0 rfl)) fun w S=>?_
   replace S:=S.n0
   refine wn hK ?_;clear hK K
   replace S:=S.d5.d4.d3.d2.d1.d0
   exact wp_ret (block_ret (then_ret (S.retCell (i:=0) rfl (S.e 4 rfl) rfl tS_112 (fun _ h=>(WC.eq (WC.up h (by omega)) (add_diff ‹_› ‹_›))))))
  ·
   have hp6:=of_decide_eq_false hc4
   have hle : x.natAbs ≤ y.natAbs:=Nat.le_of_lt (Nat.not_le.1 fun h=>hp6 (cmpN_ge.2 h))
   refine wp_skip ?_
   refine hK _ _ ?_;clear hK K
   refine wp_reg fun K hK=>?_
   refine S.s (OpR.ldBox S.ok rfl (S.e 5 rfl) (S.box 1 rfl) tS_112) rfl fun a w G S=>?_
   refine S.s (τ:=BT (decide (y < 0))) (OpR.call1 rfl c_105 (ineg_ok S.ok (S.g 0 rfl))) rfl fun a w G S=>?_
   refine S.m rfl (S.g 4 rfl) rfl fun a w G S=>?_
   refine S.m rfl (S.g 6 rfl) rfl fun a w G S=>?_
   refine S.s (τ:=SN m ((y.natAbs) - (x.natAbs))) (OpR.call2 rfl c_110 (less_ok S.ok (S.g 1 rfl) (S.g 0 rfl) (by omega))) rfl fun a w G S=>?_
   refine S.s (τ:=WC m (sg (decide (y < 0)) ((y.natAbs) - (x.natAbs)))) (OpR.call2 rfl c_106 (iwhole_ok S.ok (S.g 3 rfl) (SN.toSV (S.g 0 rfl)))) rfl fun a w G S=>?_
   refine S.store (τ:=WC m (sg (decide (y < 0)) ((y.natAbs) - (x.natAbs)))) 0 rfl rfl rfl rfl (S.e 10 rfl) tS_112 (S.g 0 rfl) (sh (τ:=WC m (sg (decide (y < 0)) ((y.natAbs) - (x.natAbs)))) (S.g 0 rfl)) fun w S=>?_
   replace S:=S.n0
   refine wn hK ?_;clear hK K
   replace S:=S.d5.d4.d3.d2.d1.d0
   exact wp_ret (S.retCell (i:=0) rfl (S.e 4 rfl) rfl tS_112 (fun _ h=>(WC.eq (WC.up h (by omega)) (add_diff2 ‹_› ‹_›))))
theorem iMul_ok {n m : Nat} {x y : Int} {v1 v2 : Value} {W0 : World} {G0 : Gh} (hok : Gok W0 G0) (h1 : (W n x).t v1 G0) (h2 : (W m y).t v2 G0) (hn : n + m ≤ BIG) : Calls Tryz.prog 75 #[v1,v2] W0 (Ret W0 G0 (WC (n + m) (x * y))):=by
 refine St.enter (N:=16) (L:=[(1,W m y),(0,W n x)]) (args:=[v1,v2]) Tryz.func75 rfl rfl rfl hok (enter2 h1 h2) fun a S=>?_
 refine wp_reg fun K hK=>?_
 refine S.boxop (x:=.tmp 0) (τ:=W n x) (S.g 1 rfl) (sh (τ:=W n x) (S.g 1 rfl)) rfl rfl rfl rfl rfl fun b2 a w G S=>?_
 refine S.boxop (x:=.tmp 1) (τ:=W m y) (S.g 1 rfl) (sh (τ:=W m y) (S.g 1 rfl)) rfl rfl rfl rfl rfl fun b3 a w G S=>?_
 refine S.alloc rfl rfl rfl z_112 zs_112 rfl rfl fun b4 a w G S=>?_
 refine wn hK ?_;clear hK K
 replace S:=S.d4.d3
 refine wp_seq_k fun K hK=>?_
 refine S.drawn [⟨5,.g (W n x),[]⟩,⟨6,.g (BT (decide (x < 0))),[0]⟩,⟨7,.g (W m y),[]⟩,⟨8,.g (BT (decide (y < 0))),[2]⟩,⟨9,.g (BT (!((decide (x < 0)) == (decide (y < 0))))),[1,3]⟩,⟨10,.g (W n x),[]⟩,⟨11,.g (SN n x.natAbs),[5]⟩,⟨12,.g (W m y),[]⟩,⟨13,.g (SN m y.natAbs),[7]⟩,⟨14,.g (SN (n + m) ((x.natAbs) * (y.natAbs))),[6,8]⟩,⟨15,.g (WC (n + m) (sg (!((decide (x < 0)) == (decide (y < 0)))) ((x.natAbs) * (y.natAbs)))),[4,9]⟩] mixedOrders (by kernel_rfl)
  ⟨fun a w G S=>.of rfl (OpR.ldBox S.ok rfl (S.e 2 rfl) (S.box 2 rfl) tS_112),
   fun a w G S=>.of rfl (OpR.call1 rfl c_105 (ineg_ok S.ok (S.g 0 rfl))),
   fun a w G S=>.of rfl (OpR.ldBox S.ok rfl (S.e 1 rfl) (S.box 1 rfl) tS_112),
   fun a w G S=>.of rfl (OpR.call1 rfl c_105 (ineg_ok S.ok (S.g 0 rfl))),
   fun a w G S=>.of rfl (OpR.bneq S.ok rfl (S.e 0 rfl) (S.e 1 rfl) Tryz.underlying4 MT.self),
   fun a w G S=>.of rfl (OpR.ldBox S.ok rfl (S.e 2 rfl) (S.box 2 rfl) tS_112),
   fun a w G S=>.of rfl (OpR.call1 rfl c_98 (imag_ok S.ok (S.g 0 rfl))),
   fun a w G S=>.of rfl (OpR.ldBox S.ok rfl (S.e 1 rfl) (S.box 1 rfl) tS_112),
   fun a w G S=>.of rfl (OpR.call1 rfl c_98 (imag_ok S.ok (S.g 0 rfl))),
   fun a w G S=>.of rfl (OpR.call2 rfl c_107 (times_ok S.ok (S.g 0 rfl) (S.g 1 rfl) (by omega))),
   fun a w G S=>.of rfl (OpR.call2 rfl c_106 (iwhole_ok S.ok (S.g 0 rfl) (SN.toSV (S.g 1 rfl)))),trivial⟩ fun β a w G S=>?_
 replace S : St W0 G0 16 [(15,WC (n + m) (sg (!((decide (x < 0)) == (decide (y < 0)))) ((x.natAbs) * (y.natAbs)))),(4,PB b4)] [⟨b4,112,some 2,MT.ex ((.agg #[.bool false,.slice none 0 0] : Value))⟩,⟨b3,112,some 2,W m y⟩,⟨b2,112,some 2,W n x⟩] a _ _:=S.keep [0,11]
 refine S.store (τ:=WC (n + m) (sg (!((decide (x < 0)) == (decide (y < 0)))) ((x.natAbs) * (y.natAbs)))) 0 rfl rfl rfl rfl (S.e 1 rfl) tS_112 (S.g 0 rfl) (sh (τ:=WC (n + m) (sg (!((decide (x < 0)) == (decide (y < 0)))) ((x.natAbs) * (y.natAbs)))) (S.g 0 rfl)) fun w S=>?_
 replace S:=S.n0
 refine wn hK ?_;clear hK K
 replace S:=S.d0
 exact wp_ret (S.retCell (i:=0) rfl (S.e 0 rfl) rfl tS_112 (fun _ h=>(WC.eq h mul_sg)))
theorem iDiv_ok {n m : Nat} {x y : Int} {v1 v2 : Value} {W0 : World} {G0 : Gh} (hok : Gok W0 G0) (h1 : (W n x).t v1 G0) (h2 : (W m y).t v2 G0) (hna : n ≤ BIG) (hnb : m ≤ BIG) : Calls Tryz.prog 108 #[v1,v2] W0 (Ret W0 G0 (MT.tup3 (WC n (x / y)) (WC m (if y = 0 then 0 else x % y)) (MT.ex (errV 70 (if y = 0 then 8 else 0))))):=by
 have hxl:=W.lt h1
 have hyl:=W.lt h2
 have hB1 : 1 ≤ BIG:=by decide
 refine St.enter (N:=47) (L:=[(1,W m y),(0,W n x)]) (args:=[v1,v2]) Tryz.func108 rfl rfl rfl hok (enter2 h1 h2) fun a S=>?_
 refine wp_reg fun K hK=>?_
 refine S.boxop (x:=.tmp 0) (τ:=W n x) (S.g 1 rfl) (sh (τ:=W n x) (S.g 1 rfl)) rfl rfl rfl rfl rfl fun b2 a w G S=>?_
 refine S.boxop (x:=.tmp 1) (τ:=W m y) (S.g 1 rfl) (sh (τ:=W m y) (S.g 1 rfl)) rfl rfl rfl rfl rfl fun b3 a w G S=>?_
 refine S.alloc rfl rfl rfl z_112 zs_112 rfl rfl fun b4 a w G S=>?_
 refine S.alloc rfl rfl rfl z_112 zs_112 rfl rfl fun b5 a w G S=>?_
 refine S.s (τ:=MT.ex (Value.nilIface)) (OpR.asn S.ok rfl rfl) rfl fun a w G S=>?_
 refine wn hK ?_;clear hK K
 replace S:=S.d6.d5
 refine wp_reg fun K hK=>?_
 refine S.s (OpR.ldBox S.ok rfl (S.e 3 rfl) (S.box 2 rfl) tS_112) rfl fun a w G S=>?_
 refine S.s (τ:=SN m y.natAbs) (OpR.call1 rfl c_98 (imag_ok S.ok (S.g 0 rfl))) rfl fun a w G S=>?_
 refine S.q rfl (S.g 0 rfl) rfl fun a w G S=>?_
 refine wn hK ?_;clear hK K
 replace S:=S.d2.d1
 refine wp_seq_k fun K hK=>?_
 refine wp_reg fun K hK=>?_
 refine S.m rfl (S.g 0 rfl) rfl fun a w G S=>?_
 refine S.s (OpR.lenL S.ok rfl Tryz.underlying22 (SN.toSL (S.g 0 rfl)) MT.self) rfl fun a w G S=>?_
 refine S.s (OpR.neql S.ok rfl (S.e 0 rfl) (rfl : _ = nv .i64 0) MT.self) rfl fun a w G S=>?_
 refine wn hK ?_;clear hK K
 replace S:=S.d2.d1
 refine S.cond 0 rfl (fun hc1=>?_) (fun hc1=>?_)
 ·
  have hp2:=of_decide_eq_true hc1
  have hy0 : y = 0:=by have:=len_zero hp2;omega
  refine wp_reg fun K hK=>?_
  refine S.s (τ:=WR false ([])) (OpR.bW0 S.ok rfl bt_112_) rfl fun a w G S=>?_
  refine S.s (τ:=WR false ([])) (OpR.bW0 S.ok rfl bt_112_) rfl fun a w G S=>?_
  refine S.s (OpR.mkI S.ok rfl ni_70 (rfl : _ = nv .i64 8) MT.self) rfl fun a w G S=>?_
  refine S.store (τ:=WR false ([])) 1 rfl rfl rfl rfl (S.e 7 rfl) tS_112 (S.g 2 rfl) (sh (τ:=WR false ([])) (S.g 2 rfl)) fun w S=>?_
  replace S:=S.n1
  refine S.store (τ:=WR false ([])) 0 rfl rfl rfl rfl (S.e 6 rfl) tS_112 (S.g 1 rfl) (sh (τ:=WR false ([])) (S.g 1 rfl)) fun w S=>?_
  replace S:=S.n0
  replace S:=S.d5
  refine S.q rfl (S.g 0 rfl) rfl fun a w G S=>?_
  refine wn hK ?_;clear hK K
  replace S:=S.d3.d2.d1
  exact wp_ret (then_ret (S.retCell3 (i:=1) (i2:=0) rfl (S.e 4 rfl) rfl tS_112 (S.e 3 rfl) rfl tS_112 (fun _ h=>(WR.zero h (by rw [hy0];exact Int.ediv_zero x))) (fun _ h=>(WR.zero h (if_pos hy0))) ((S.e 0 rfl).trans (err_is (if_pos hy0) (by decide)))))
 ·
  have hp3:=of_decide_eq_false hc1
  have hy0:=abs_ne hp3
  have hlt:=Nat.mod_lt x.natAbs (show 0 < y.natAbs by omega)
  refine wp_skip ?_
  refine hK _ _ ?_;clear hK K
  refine wp_reg fun K hK=>?_
  refine S.s (OpR.ldBox S.ok rfl (S.e 6 rfl) (S.box 3 rfl) tS_112) rfl fun a w G S=>?_
  refine S.s (τ:=SN n x.natAbs) (OpR.call1 rfl c_98 (imag_ok S.ok (S.g 0 rfl))) rfl fun a w G S=>?_
  refine S.m rfl (S.g 3 rfl) rfl fun a w G S=>?_
  refine S.s (τ:=MT.tup2 (SN n ((x.natAbs) / (y.natAbs))) (SN m ((x.natAbs) % (y.natAbs)))) (OpR.call2 rfl c_119 (divide_ok S.ok (S.g 1 rfl) (S.g 0 rfl) (by omega) (by omega) (by omega))) rfl fun a w G S=>?_
  refine S.m rfl (S.g 0 rfl) rfl fun a w G S=>?_
  refine S.s (OpR.ext2a S.ok rfl (S.g 0 rfl)) rfl fun a w G S=>?_
  refine S.s (OpR.ext2b S.ok rfl (S.g 1 rfl)) rfl fun a w G S=>?_
  refine S.q rfl (S.g 1 rfl) rfl fun a w G S=>?_
  refine S.q rfl (S.g 1 rfl) rfl fun a w G S=>?_
  refine wn hK ?_;clear hK K
  replace S:=S.d8.d7.d6.d5.d4.d3.d2
  refine wp_seq_k fun K hK=>?_
  refine wp_reg fun K hK=>?_
  refine S.s (OpR.ldBox S.ok rfl (S.e 8 rfl) (S.box 3 rfl) tS_112) rfl fun a w G S=>?_
  refine S.s (τ:=BT (decide (x < 0))) (OpR.call1 rfl c_105 (ineg_ok S.ok (S.g 0 rfl))) rfl fun a w G S=>?_
  refine S.m rfl (S.g 0 rfl) rfl fun a w G S=>?_
  rcases Bool.eq_false_or_eq_true (decide (x < 0)) with hc4 | hc4
  ·
   have hp5:=of_decide_eq_true hc4
   replace S:=S.boolIs 0 rfl hc4
   refine S.stepG 0 (OpR.mv S.ok rfl (S.g 4 rfl)) rfl rfl rfl rfl rfl rfl fun a w G S=>?_
   refine S.stepG 1 (OpR.lenL S.ok rfl Tryz.underlying22 (SN.toSL (S.g 0 rfl)) MT.self) rfl rfl rfl rfl rfl rfl fun a w G S=>?_
   refine S.stepG 2 (OpR.ngtr S.ok rfl (S.e 0 rfl) (rfl : _ = nv .i64 0) MT.self) rfl rfl rfl rfl rfl rfl fun a w G S=>?_
   refine S.s (τ:=BT (decide (0 < ((words ((x.natAbs) % (y.natAbs))).length)))) (OpR.pick S.ok rfl (S.e 3 rfl) (S.g 0 rfl)) rfl fun a w G S=>?_
   refine wn hK ?_;clear hK K
   replace S:=S.d7.d6.d5.d4.d3.d2.d1
   refine S.cond 0 rfl (fun hc6=>?_) (fun hc6=>?_)
   ·
    have hp7:=of_decide_eq_true hc6
    have hr:=len_pos_iff.1 hp7
    refine wp_region_lit ?_
    refine S.m rfl (S.g 2 rfl) rfl fun a w G S=>?_
    refine S.s (τ:=SL ([1])) (OpR.build32 S.ok rfl Tryz.underlying22 el_141 (by omega) rfl (by simp [wfl] <;> omega) (fill1 (rfl : _ = nv .u32 1))) rfl fun a w G S=>?_
    refine S.s (τ:=SN (max n 1 + 1) (((x.natAbs) / (y.natAbs)) + 1)) (OpR.call2 rfl c_109 (plus_ok S.ok (S.g 1 rfl) (SL.toSN (S.g 0 rfl) words_one (by decide)) (by omega) (by omega))) rfl fun a w G S=>?_
    refine S.m rfl (S.g 7 rfl) rfl fun a w G S=>?_
    refine S.m rfl (S.g 5 rfl) rfl fun a w G S=>?_
    refine S.s (τ:=SN m ((y.natAbs) - ((x.natAbs) % (y.natAbs)))) (OpR.call2 rfl c_110 (less_ok S.ok (S.g 1 rfl) (S.g 0 rfl) (by omega))) rfl fun a w G S=>?_
    replace S:=S.d8
    refine S.s (τ:=SN n (x.natAbs / y.natAbs + 1)) (OpR.asn S.ok rfl (SN.cast (S.g 3 rfl) rfl (qd_bound hxl (by omega) hy0))) rfl fun a w G S=>?_
    replace S:=S.d8
    refine S.q rfl (S.g 1 rfl) rfl fun a w G S=>?_
    refine wpList_nil ?_
    replace S:=S.d7.d6.d5.d4.d3.d2
    refine hK _ _ ?_;clear hK K
    refine wp_seq_k fun K hK=>?_
    refine S.drawn [⟨38,.g (W n x),[]⟩,⟨39,.g (BT (decide (x < 0))),[0]⟩,⟨40,.g (W m y),[]⟩,⟨41,.g (BT (decide (y < 0))),[2]⟩,⟨42,.g (BT (!((decide (x < 0)) == (decide (y < 0))))),[1,3]⟩,⟨43,.g (SN n (x.natAbs / y.natAbs + 1)),[]⟩,⟨44,.g (WC n (sg (!((decide (x < 0)) == (decide (y < 0)))) (x.natAbs / y.natAbs + 1))),[4,5]⟩,⟨45,.g (SN m ((y.natAbs) - ((x.natAbs) % (y.natAbs)))),[]⟩,⟨46,.g (WC m (sg false ((y.natAbs) - ((x.natAbs) % (y.natAbs))))),[7]⟩] mixedOrders (by kernel_rfl)
     ⟨fun a w G S=>.of rfl (OpR.ldBox S.ok rfl (S.e 9 rfl) (S.box 3 rfl) tS_112),
      fun a w G S=>.of rfl (OpR.call1 rfl c_105 (ineg_ok S.ok (S.g 0 rfl))),
      fun a w G S=>.of rfl (OpR.ldBox S.ok rfl (S.e 8 rfl) (S.box 2 rfl) tS_112),
      fun a w G S=>.of rfl (OpR.call1 rfl c_105 (ineg_ok S.ok (S.g 0 rfl))),
      fun a w G S=>.of rfl (OpR.bneq S.ok rfl (S.e 0 rfl) (S.e 1 rfl) Tryz.underlying4 MT.self),
      fun a w G S=>.of rfl (OpR.mv S.ok rfl (S.g 1 rfl)),
      fun a w G S=>.of rfl (OpR.call2 rfl c_106 (iwhole_ok S.ok (S.g 0 rfl) (SN.toSV (S.g 1 rfl)))),
      fun a w G S=>.of rfl (OpR.mv S.ok rfl (S.g 0 rfl)),
      fun a w G S=>.of rfl (OpR.call2 rfl c_106 (iwhole_ok S.ok rfl (SN.toSV (S.g 0 rfl)))),trivial⟩ fun β a w G S=>?_
    replace S : St W0 G0 47 [(46,WC m (sg false ((y.natAbs) - ((x.natAbs) % (y.natAbs))))),(44,WC n (sg (!((decide (x < 0)) == (decide (y < 0)))) (x.natAbs / y.natAbs + 1))),(9,SN m ((y.natAbs) - ((x.natAbs) % (y.natAbs)))),(8,SN n (x.natAbs / y.natAbs + 1)),(31,BT (decide (0 < ((words ((x.natAbs) % (y.natAbs))).length)))),(14,BT (decide (((words (y.natAbs)).length) = 0))),(7,SN m y.natAbs),(6,MT.ex (Value.nilIface)),(5,PB b5),(4,PB b4),(3,PB b3),(2,PB b2)] [⟨b5,112,some 2,MT.ex ((.agg #[.bool false,.slice none 0 0] : Value))⟩,⟨b4,112,some 2,MT.ex ((.agg #[.bool false,.slice none 0 0] : Value))⟩,⟨b3,112,some 2,W m y⟩,⟨b2,112,some 2,W n x⟩] a _ _:=S.keep [0,2,9,10,11,12,13,14,15,16,17,18]
    refine S.store (τ:=WC n (sg (!((decide (x < 0)) == (decide (y < 0)))) (x.natAbs / y.natAbs + 1))) 1 rfl rfl rfl rfl (S.e 9 rfl) tS_112 (S.g 1 rfl) (sh (τ:=WC n (sg (!((decide (x < 0)) == (decide (y < 0)))) (x.natAbs / y.natAbs + 1))) (S.g 1 rfl)) fun w S=>?_
    replace S:=S.n1
    refine S.store (τ:=WC m (sg false ((y.natAbs) - ((x.natAbs) % (y.natAbs))))) 0 rfl rfl rfl rfl (S.e 8 rfl) tS_112 (S.g 0 rfl) (sh (τ:=WC m (sg false ((y.natAbs) - ((x.natAbs) % (y.natAbs))))) (S.g 0 rfl)) fun w S=>?_
    replace S:=S.n0
    replace S:=S.d7
    refine S.s (τ:=MT.ex (Value.nilIface)) (OpR.asn S.ok rfl rfl) rfl fun a w G S=>?_
    refine wn hK ?_;clear hK K
    replace S:=S.d2.d1
    exact wp_ret (S.retCell3 (i:=1) (i2:=0) rfl (S.e 7 rfl) rfl tS_112 (S.e 6 rfl) rfl tS_112 (fun _ h=>(WC.eq h (by first | exact (qd1 hy0 (of_decide_eq_true ‹_›) (by omega)).1 | exact (qd2 hy0 (.inr (by omega))).1 | exact (qd2 hy0 (.inl (of_decide_eq_false ‹_›))).1))) (fun _ h=>(WC.eq h (by rw [if_neg hy0];first | exact (qd1 hy0 (of_decide_eq_true ‹_›) (by omega)).2 | exact (qd2 hy0 (.inr (by omega))).2 | exact (qd2 hy0 (.inl (of_decide_eq_false ‹_›))).2))) ((S.e 0 rfl).trans (err_no (if_neg hy0))))
   ·
    have hp8:=of_decide_eq_false hc6
    have hr : x.natAbs % y.natAbs = 0:=len_zero (by omega)
    refine wp_skip ?_
    refine hK _ _ ?_;clear hK K
    refine wp_seq_k fun K hK=>?_
    refine S.drawn [⟨38,.g (W n x),[]⟩,⟨39,.g (BT (decide (x < 0))),[0]⟩,⟨40,.g (W m y),[]⟩,⟨41,.g (BT (decide (y < 0))),[2]⟩,⟨42,.g (BT (!((decide (x < 0)) == (decide (y < 0))))),[1,3]⟩,⟨43,.g (SN n ((x.natAbs) / (y.natAbs))),[]⟩,⟨44,.g (WC n (sg (!((decide (x < 0)) == (decide (y < 0)))) ((x.natAbs) / (y.natAbs)))),[4,5]⟩,⟨45,.g (SN m ((x.natAbs) % (y.natAbs))),[]⟩,⟨46,.g (WC m (sg false ((x.natAbs) % (y.natAbs)))),[7]⟩] mixedOrders (by kernel_rfl)
     ⟨fun a w G S=>.of rfl (OpR.ldBox S.ok rfl (S.e 9 rfl) (S.box 3 rfl) tS_112),
      fun a w G S=>.of rfl (OpR.call1 rfl c_105 (ineg_ok S.ok (S.g 0 rfl))),
      fun a w G S=>.of rfl (OpR.ldBox S.ok rfl (S.e 8 rfl) (S.box 2 rfl) tS_112),
      fun a w G S=>.of rfl (OpR.call1 rfl c_105 (ineg_ok S.ok (S.g 0 rfl))),
      fun a w G S=>.of rfl (OpR.bneq S.ok rfl (S.e 0 rfl) (S.e 1 rfl) Tryz.underlying4 MT.self),
      fun a w G S=>.of rfl (OpR.mv S.ok rfl (S.g 2 rfl)),
      fun a w G S=>.of rfl (OpR.call2 rfl c_106 (iwhole_ok S.ok (S.g 0 rfl) (SN.toSV (S.g 1 rfl)))),
      fun a w G S=>.of rfl (OpR.mv S.ok rfl (S.g 1 rfl)),
      fun a w G S=>.of rfl (OpR.call2 rfl c_106 (iwhole_ok S.ok rfl (SN.toSV (S.g 0 rfl)))),trivial⟩ fun β a w G S=>?_
    replace S : St W0 G0 47 [(46,WC m (sg false ((x.natAbs) % (y.natAbs)))),(44,WC n (sg (!((decide (x < 0)) == (decide (y < 0)))) ((x.natAbs) / (y.natAbs)))),(31,BT (decide (0 < ((words ((x.natAbs) % (y.natAbs))).length)))),(9,SN m ((x.natAbs) % (y.natAbs))),(8,SN n ((x.natAbs) / (y.natAbs))),(14,BT (decide (((words (y.natAbs)).length) = 0))),(7,SN m y.natAbs),(6,MT.ex (Value.nilIface)),(5,PB b5),(4,PB b4),(3,PB b3),(2,PB b2)] [⟨b5,112,some 2,MT.ex ((.agg #[.bool false,.slice none 0 0] : Value))⟩,⟨b4,112,some 2,MT.ex ((.agg #[.bool false,.slice none 0 0] : Value))⟩,⟨b3,112,some 2,W m y⟩,⟨b2,112,some 2,W n x⟩] a _ _:=S.keep [0,2,9,10,11,12,13,14,15,16,17,18]
    refine S.store (τ:=WC n (sg (!((decide (x < 0)) == (decide (y < 0)))) ((x.natAbs) / (y.natAbs)))) 1 rfl rfl rfl rfl (S.e 9 rfl) tS_112 (S.g 1 rfl) (sh (τ:=WC n (sg (!((decide (x < 0)) == (decide (y < 0)))) ((x.natAbs) / (y.natAbs)))) (S.g 1 rfl)) fun w S=>?_
    replace S:=S.n1
    refine S.store (τ:=WC m (sg false ((x.natAbs) % (y.natAbs)))) 0 rfl rfl rfl rfl (S.e 8 rfl) tS_112 (S.g 0 rfl) (sh (τ:=WC m (sg false ((x.natAbs) % (y.natAbs)))) (S.g 0 rfl)) fun w S=>?_
    replace S:=S.n0
    replace S:=S.d7
    refine S.s (τ:=MT.ex (Value.nilIface)) (OpR.asn S.ok rfl rfl) rfl fun a w G S=>?_
    refine wn hK ?_;clear hK K
    replace S:=S.d2.d1
    exact wp_ret (S.retCell3 (i:=1) (i2:=0) rfl (S.e 7 rfl) rfl tS_112 (S.e 6 rfl) rfl tS_112 (fun _ h=>(WC.eq h (by first | exact (qd1 hy0 (of_decide_eq_true ‹_›) (by omega)).1 | exact (qd2 hy0 (.inr (by omega))).1 | exact (qd2 hy0 (.inl (of_decide_eq_false ‹_›))).1))) (fun _ h=>(WC.eq h (by rw [if_neg hy0];first | exact (qd1 hy0 (of_decide_eq_true ‹_›) (by omega)).2 | exact (qd2 hy0 (.inr (by omega))).2 | exact (qd2 hy0 (.inl (of_decide_eq_false ‹_›))).2))) ((S.e 0 rfl).trans (err_no (if_neg hy0))))
  ·
   have hp9:=of_decide_eq_false hc4
   replace S:=S.boolIs 0 rfl hc4
   refine S.skipG 0 rfl rfl rfl rfl rfl rfl fun a w G S=>?_
   refine S.skipG 1 rfl rfl rfl rfl rfl rfl fun a w G S=>?_
   refine S.skipG 2 rfl rfl rfl rfl rfl rfl fun a w G S=>?_
   refine S.s (τ:=BT false) (OpR.pick S.ok rfl (S.e 3 rfl) rfl) rfl fun a w G S=>?_
   refine wn hK ?_;clear hK K
   replace S:=S.d7.d6.d5.d4.d3.d2.d1
   refine wp_cond_false (S.e 0 rfl) ?_
   refine wp_skip ?_
   refine hK _ _ ?_;clear hK K
   refine wp_seq_k fun K hK=>?_
   refine S.drawn [⟨38,.g (W n x),[]⟩,⟨39,.g (BT (decide (x < 0))),[0]⟩,⟨40,.g (W m y),[]⟩,⟨41,.g (BT (decide (y < 0))),[2]⟩,⟨42,.g (BT (!((decide (x < 0)) == (decide (y < 0))))),[1,3]⟩,⟨43,.g (SN n ((x.natAbs) / (y.natAbs))),[]⟩,⟨44,.g (WC n (sg (!((decide (x < 0)) == (decide (y < 0)))) ((x.natAbs) / (y.natAbs)))),[4,5]⟩,⟨45,.g (SN m ((x.natAbs) % (y.natAbs))),[]⟩,⟨46,.g (WC m (sg false ((x.natAbs) % (y.natAbs)))),[7]⟩] mixedOrders (by kernel_rfl)
    ⟨fun a w G S=>.of rfl (OpR.ldBox S.ok rfl (S.e 9 rfl) (S.box 3 rfl) tS_112),
     fun a w G S=>.of rfl (OpR.call1 rfl c_105 (ineg_ok S.ok (S.g 0 rfl))),
     fun a w G S=>.of rfl (OpR.ldBox S.ok rfl (S.e 8 rfl) (S.box 2 rfl) tS_112),
     fun a w G S=>.of rfl (OpR.call1 rfl c_105 (ineg_ok S.ok (S.g 0 rfl))),
     fun a w G S=>.of rfl (OpR.bneq S.ok rfl (S.e 0 rfl) (S.e 1 rfl) Tryz.underlying4 MT.self),
     fun a w G S=>.of rfl (OpR.mv S.ok rfl (S.g 2 rfl)),
     fun a w G S=>.of rfl (OpR.call2 rfl c_106 (iwhole_ok S.ok (S.g 0 rfl) (SN.toSV (S.g 1 rfl)))),
     fun a w G S=>.of rfl (OpR.mv S.ok rfl (S.g 1 rfl)),
     fun a w G S=>.of rfl (OpR.call2 rfl c_106 (iwhole_ok S.ok rfl (SN.toSV (S.g 0 rfl)))),trivial⟩ fun β a w G S=>?_
   replace S : St W0 G0 47 [(46,WC m (sg false ((x.natAbs) % (y.natAbs)))),(44,WC n (sg (!((decide (x < 0)) == (decide (y < 0)))) ((x.natAbs) / (y.natAbs)))),(31,BT false),(9,SN m ((x.natAbs) % (y.natAbs))),(8,SN n ((x.natAbs) / (y.natAbs))),(14,BT (decide (((words (y.natAbs)).length) = 0))),(7,SN m y.natAbs),(6,MT.ex (Value.nilIface)),(5,PB b5),(4,PB b4),(3,PB b3),(2,PB b2)] [⟨b5,112,some 2,MT.ex ((.agg #[.bool false,.slice none 0 0] : Value))⟩,⟨b4,112,some 2,MT.ex ((.agg #[.bool false,.slice none 0 0] : Value))⟩,⟨b3,112,some 2,W m y⟩,⟨b2,112,some 2,W n x⟩] a _ _:=S.keep [0,2,9,10,11,12,13,14,15,16,17,18]
   refine S.store (τ:=WC n (sg (!((decide (x < 0)) == (decide (y < 0)))) ((x.natAbs) / (y.natAbs)))) 1 rfl rfl rfl rfl (S.e 9 rfl) tS_112 (S.g 1 rfl) (sh (τ:=WC n (sg (!((decide (x < 0)) == (decide (y < 0)))) ((x.natAbs) / (y.natAbs)))) (S.g 1 rfl)) fun w S=>?_
   replace S:=S.n1
   refine S.store (τ:=WC m (sg false ((x.natAbs) % (y.natAbs)))) 0 rfl rfl rfl rfl (S.e 8 rfl) tS_112 (S.g 0 rfl) (sh (τ:=WC m (sg false ((x.natAbs) % (y.natAbs)))) (S.g 0 rfl)) fun w S=>?_
   replace S:=S.n0
   replace S:=S.d7
   refine S.s (τ:=MT.ex (Value.nilIface)) (OpR.asn S.ok rfl rfl) rfl fun a w G S=>?_
   refine wn hK ?_;clear hK K
   replace S:=S.d2.d1
   exact wp_ret (S.retCell3 (i:=1) (i2:=0) rfl (S.e 7 rfl) rfl tS_112 (S.e 6 rfl) rfl tS_112 (fun _ h=>(WC.eq h (by first | exact (qd1 hy0 (of_decide_eq_true ‹_›) (by omega)).1 | exact (qd2 hy0 (.inr (by omega))).1 | exact (qd2 hy0 (.inl (of_decide_eq_false ‹_›))).1))) (fun _ h=>(WC.eq h (by rw [if_neg hy0];first | exact (qd1 hy0 (of_decide_eq_true ‹_›) (by omega)).2 | exact (qd2 hy0 (.inr (by omega))).2 | exact (qd2 hy0 (.inl (of_decide_eq_false ‹_›))).2))) ((S.e 0 rfl).trans (err_no (if_neg hy0))))
theorem iGcd_ok {n m : Nat} {x y : Int} {v1 v2 : Value} {W0 : World} {G0 : Gh} (hok : Gok W0 G0) (h1 : (W n x).t v1 G0) (h2 : (W m y).t v2 G0) (hna : n ≤ BIG) (hnb : m ≤ BIG) : Calls Tryz.prog 95 #[v1,v2] W0 (Ret W0 G0 (WC (max n m) ((Nat.gcd x.natAbs y.natAbs : Nat) : Int))):=by
 refine St.enter (N:=26) (L:=[(1,W m y),(0,W n x)]) (args:=[v1,v2]) Tryz.func95 rfl rfl rfl hok (enter2 h1 h2) fun a S=>?_
 refine wp_reg fun K hK=>?_
 refine S.boxop (x:=.tmp 0) (τ:=W n x) (S.g 1 rfl) (sh (τ:=W n x) (S.g 1 rfl)) rfl rfl rfl rfl rfl fun b2 a w G S=>?_
 refine S.boxop (x:=.tmp 1) (τ:=W m y) (S.g 1 rfl) (sh (τ:=W m y) (S.g 1 rfl)) rfl rfl rfl rfl rfl fun b3 a w G S=>?_
 refine S.alloc rfl rfl rfl z_112 zs_112 rfl rfl fun b4 a w G S=>?_
 refine wn hK ?_;clear hK K
 replace S:=S.d4.d3
 refine wp_seq_k fun K hK=>?_
 refine S.drawn [⟨9,.g (W n x),[]⟩,⟨10,.g (SN n x.natAbs),[0]⟩,⟨11,.g (W m y),[]⟩,⟨12,.g (SN m y.natAbs),[2]⟩,⟨5,.g (SN n x.natAbs),[1]⟩,⟨6,.g (SN m y.natAbs),[3]⟩] mixedOrders (by kernel_rfl)
  ⟨fun a w G S=>.of rfl (OpR.ldBox S.ok rfl (S.e 2 rfl) (S.box 2 rfl) tS_112),
   fun a w G S=>.of rfl (OpR.call1 rfl c_98 (imag_ok S.ok (S.g 0 rfl))),
   fun a w G S=>.of rfl (OpR.ldBox S.ok rfl (S.e 1 rfl) (S.box 1 rfl) tS_112),
   fun a w G S=>.of rfl (OpR.call1 rfl c_98 (imag_ok S.ok (S.g 0 rfl))),
   fun a w G S=>.of rfl (OpR.asn S.ok rfl (S.g 0 rfl)),
   fun a w G S=>.of rfl (OpR.asn S.ok rfl (S.g 0 rfl)),trivial⟩ fun β a w G S=>?_
 replace S : St W0 G0 26 [(6,SN m y.natAbs),(5,SN n x.natAbs),(4,PB b4)] [⟨b4,112,some 2,MT.ex ((.agg #[.bool false,.slice none 0 0] : Value))⟩,⟨b3,112,some 2,W m y⟩,⟨b2,112,some 2,W n x⟩] a _ _:=S.keep [0,1,6]
 refine wn hK ?_;clear hK K
 refine wp_seq_k fun K hK=>?_
 refine wp_block ?_
 replace S:=S.also (t:=6) (τ:=SN (max n m) y.natAbs) (SN.up (S.g 0 rfl) (by omega))
 replace S:=S.also (t:=5) (τ:=SN (max n m) x.natAbs) (SN.up (S.g 2 rfl) (by omega))
 refine wp_loopJ (fun μ a w=>∃ (p : Nat) (r : Nat) (G : Gh),μ = r ∧ (Nat.gcd p r = Nat.gcd x.natAbs y.natAbs) ∧  St W0 G0 26 [(6,SN (max n m) r),(5,SN (max n m) p),(4,PB b4)] [⟨b4,112,some 2,MT.ex ((.agg #[.bool false,.slice none 0 0] : Value))⟩,⟨b3,112,some 2,W m y⟩,⟨b2,112,some 2,W n x⟩] a w G) (y.natAbs) ⟨x.natAbs,y.natAbs,_,rfl,rfl,(S.keep [1,0,4]).keepB [0,1,2] (by decide)⟩ ?_
 clear S
 intro μ a w ⟨p,r,G,hm,hg,S⟩
 refine wp_seq_k fun K hK=>?_
 refine wp_reg fun K hK=>?_
 refine S.m rfl (S.g 0 rfl) rfl fun a w G S=>?_
 refine S.s (OpR.lenL S.ok rfl Tryz.underlying22 (SN.toSL (S.g 0 rfl)) MT.self) rfl fun a w G S=>?_
 refine S.s (OpR.ngtr S.ok rfl (S.e 0 rfl) (rfl : _ = nv .i64 0) MT.self) rfl fun a w G S=>?_
 refine wn hK ?_;clear hK K
 replace S:=S.d2.d1
 refine S.cond 0 rfl (fun hc1=>?_) (fun hc1=>?_)
 ·
  have hp2:=of_decide_eq_true hc1
  have hr:=len_pos_iff.1 hp2
  refine wp_skip ?_
  refine hK _ _ ?_;clear hK K
  refine wp_block ?_
  refine wp_reg fun K hK=>?_
  refine S.m rfl (S.g 2 rfl) rfl fun a w G S=>?_
  refine S.m rfl (S.g 2 rfl) rfl fun a w G S=>?_
  refine S.s (τ:=MT.tup2 (SN (max n m) (p / r)) (SN (max n m) (p % r))) (OpR.call2 rfl c_119 (divide_ok S.ok (S.g 1 rfl) (S.g 0 rfl) (by omega) (by omega) (by omega))) rfl fun a w G S=>?_
  refine S.m rfl (S.g 0 rfl) rfl fun a w G S=>?_
  refine S.s (OpR.ext2a S.ok rfl (S.g 0 rfl)) rfl fun a w G S=>?_
  refine S.s (OpR.ext2b S.ok rfl (S.g 1 rfl)) rfl fun a w G S=>?_
  refine S.q rfl (S.g 1 rfl) rfl fun a w G S=>?_
  refine S.q rfl (S.g 1 rfl) rfl fun a w G S=>?_
  refine wn hK ?_;clear hK K
  replace S:=S.d7.d6.d5.d4.d3.d2.d1
  refine wp_region_lit ?_
  refine S.m rfl (S.g 2 rfl) rfl fun a w G S=>?_
  refine S.m rfl (S.g 1 rfl) rfl fun a w G S=>?_
  replace S:=S.d5
  refine S.q rfl (S.g 1 rfl) rfl fun a w G S=>?_
  replace S:=S.d5
  refine S.q rfl (S.g 1 rfl) rfl fun a w G S=>?_
  refine wpList_nil ?_
  replace S:=S.d4.d3.d2
  exact ⟨(p % r),(by have:=Nat.mod_lt p (Nat.pos_of_ne_zero hr);omega),r,p % r,_,rfl,(gcd_next hg),(S.keep [0,1,3]).keepB [0,1,2] (by decide)⟩
 ·
  have hp3:=of_decide_eq_false hc1
  refine wp_exit (then_exit (then_exit (exit_same ?_)))
  clear hK K
  refine hK _ _ ?_;clear hK K
  refine wp_reg fun K hK=>?_
  refine S.m rfl (S.g 2 rfl) rfl fun a w G S=>?_
  refine S.s (τ:=WC (max n m) (sg false p)) (OpR.call2 rfl c_106 (iwhole_ok S.ok rfl (SN.toSV (S.g 0 rfl)))) rfl fun a w G S=>?_
  refine S.store (τ:=WC (max n m) (sg false p)) 0 rfl rfl rfl rfl (S.e 5 rfl) tS_112 (S.g 0 rfl) (sh (τ:=WC (max n m) (sg false p)) (S.g 0 rfl)) fun w S=>?_
  replace S:=S.n0
  refine wn hK ?_;clear hK K
  replace S:=S.d1.d0
  exact wp_ret (S.retCell (i:=0) rfl (S.e 3 rfl) rfl tS_112 (fun _ h=>(WC.eq h (gcd_end hg ‹_›))))
theorem iOf_ok {z : Int} {v1 : Value} {W0 : World} {G0 : Gh} (hok : Gok W0 G0) (h1 : (IT z).t v1 G0) (hz : -9223372036854775808 ≤ z ∧ z ≤ 9223372036854775807) : Calls Tryz.prog 77 #[v1] W0 (Ret W0 G0 (WC 64 z)):=by
 refine St.enter (N:=19) (L:=[(0,IT z)]) (args:=[v1]) Tryz.func77 rfl rfl rfl hok (enter1 h1) fun a S=>?_
 refine wp_reg fun K hK=>?_
 refine S.alloc rfl rfl rfl z_112 zs_112 rfl rfl fun b2 a w G S=>?_
 refine wn hK ?_;clear hK K
 refine wp_reg fun K hK=>?_
 refine S.m rfl (S.g 1 rfl) rfl fun a w G S=>?_
 refine S.s (τ:=MT.ex (nv .u64 ((z % 18446744073709551616).toNat))) (OpR.conv S.ok rfl (S.e 0 rfl) it_3 it_147 (iv_eq (of_wrap hz))) rfl fun a w G S=>?_
 refine S.q rfl (S.g 0 rfl) rfl fun a w G S=>?_
 refine wn hK ?_;clear hK K
 replace S:=S.d2.d1
 refine wp_seq_k fun K hK=>?_
 refine wp_reg fun K hK=>?_
 refine S.m rfl (S.g 2 rfl) rfl fun a w G S=>?_
 refine S.s (OpR.ilss S.ok rfl (S.e 0 rfl) (rfl : _ = nv .i64 0) MT.self) rfl fun a w G S=>?_
 refine wn hK ?_;clear hK K
 replace S:=S.d1
 refine S.cond 0 rfl (fun hc1=>?_) (fun hc1=>?_)
 ·
  have hp2:=of_decide_eq_true hc1
  refine wp_region_lit ?_
  refine S.m rfl (S.g 1 rfl) rfl fun a w G S=>?_
  refine S.s (τ:=MT.ex (nv .u64 (z.natAbs))) (OpR.ineg S.ok rfl (S.e 0 rfl) (iv_eq ((of_neg (by omega) (by omega)).trans (by omega)))) rfl fun a w G S=>?_
  replace S:=S.d3
  refine S.q rfl (S.g 0 rfl) rfl fun a w G S=>?_
  refine wpList_nil ?_
  replace S:=S.d2.d1
  refine hK _ _ ?_;clear hK K
  refine wp_reg fun K hK=>?_
  refine S.m rfl (S.g 3 rfl) rfl fun a w G S=>?_
  refine S.s (OpR.ilss S.ok rfl (S.e 0 rfl) (rfl : _ = nv .i64 0) MT.self) rfl fun a w G S=>?_
  refine S.m rfl (S.g 2 rfl) rfl fun a w G S=>?_
  refine S.s (OpR.nconv32 S.ok rfl (S.e 0 rfl) it_147 it_141 MT.self) rfl fun a w G S=>?_
  refine S.m rfl (S.g 4 rfl) rfl fun a w G S=>?_
  refine S.s (OpR.nshr S.ok rfl (S.e 0 rfl) (rfl : _ = nv .u64 32) (by decide) MT.self) rfl fun a w G S=>?_
  refine S.s (OpR.nconv32 S.ok rfl (S.e 0 rfl) it_147 it_141 MT.self) rfl fun a w G S=>?_
  refine S.s (τ:=SL ([z.natAbs % 4294967296,(z.natAbs / 2 ^ 32) % 4294967296])) (OpR.build32 S.ok rfl Tryz.underlying22 el_141 (by omega) rfl (by simp [wfl] <;> omega) (fill2 (S.e 3 rfl) (S.e 0 rfl))) rfl fun a w G S=>?_
  refine S.s (τ:=WC 64 (sg (decide (z < 0)) (z.natAbs))) (OpR.call2 rfl c_106 (iwhole_ok S.ok (S.g 6 rfl) (SL.asSV (S.g 0 rfl) ⟨by simp only [val];omega,by omega⟩))) rfl fun a w G S=>?_
  refine S.store (τ:=WC 64 (sg (decide (z < 0)) (z.natAbs))) 0 rfl rfl rfl rfl (S.e 11 rfl) tS_112 (S.g 0 rfl) (sh (τ:=WC 64 (sg (decide (z < 0)) (z.natAbs))) (S.g 0 rfl)) fun w S=>?_
  replace S:=S.n0
  refine wn hK ?_;clear hK K
  replace S:=S.d8.d7.d6.d5.d4.d3.d2.d1.d0
  exact wp_ret (S.retCell (i:=0) rfl (S.e 2 rfl) rfl tS_112 (fun _ h=>(WC.eq h (by unfold sg;split <;> simp_all <;> omega))))
 ·
  have hp3:=of_decide_eq_false hc1
  refine wp_skip ?_
  refine hK _ _ ?_;clear hK K
  refine wp_reg fun K hK=>?_
  refine S.m rfl (S.g 3 rfl) rfl fun a w G S=>?_
  refine S.s (OpR.ilss S.ok rfl (S.e 0 rfl) (rfl : _ = nv .i64 0) MT.self) rfl fun a w G S=>?_
  refine S.m rfl (S.g 3 rfl) rfl fun a w G S=>?_
  refine S.s (OpR.nconv32 S.ok rfl (S.e 0 rfl) it_147 it_141 MT.self) rfl fun a w G S=>?_
  refine S.m rfl (S.g 5 rfl) rfl fun a w G S=>?_
  refine S.s (OpR.nshr S.ok rfl (S.e 0 rfl) (rfl : _ = nv .u64 32) (by decide) MT.self) rfl fun a w G S=>?_
  refine S.s (OpR.nconv32 S.ok rfl (S.e 0 rfl) it_147 it_141 MT.self) rfl fun a w G S=>?_
  refine S.s (τ:=SL ([((z % 18446744073709551616).toNat) % 4294967296,(((z % 18446744073709551616).toNat) / 2 ^ 32) % 4294967296])) (OpR.build32 S.ok rfl Tryz.underlying22 el_141 (by omega) rfl (by simp [wfl] <;> omega) (fill2 (S.e 3 rfl) (S.e 0 rfl))) rfl fun a w G S=>?_
  refine S.s (τ:=WC 64 (sg (decide (z < 0)) (z.natAbs))) (OpR.call2 rfl c_106 (iwhole_ok S.ok (S.g 6 rfl) (SL.asSV (S.g 0 rfl) ⟨by simp only [val];omega,by omega⟩))) rfl fun a w G S=>?_
  refine S.store (τ:=WC 64 (sg (decide (z < 0)) (z.natAbs))) 0 rfl rfl rfl rfl (S.e 11 rfl) tS_112 (S.g 0 rfl) (sh (τ:=WC 64 (sg (decide (z < 0)) (z.natAbs))) (S.g 0 rfl)) fun w S=>?_
  replace S:=S.n0
  refine wn hK ?_;clear hK K
  replace S:=S.d8.d7.d6.d5.d4.d3.d2.d1.d0
  exact wp_ret (S.retCell (i:=0) rfl (S.e 2 rfl) rfl tS_112 (fun _ h=>(WC.eq h (by unfold sg;split <;> simp_all <;> omega))))
end Go.Proofs.YtpbkcbnghhodiaaGreat
namespace Go.Proofs.YtpbkcbnghhodiaaGreat
set_option maxHeartbeats 1000000
set_option maxRecDepth 100000
open Go.RowKit (Below)
private theorem bt_112_1 : ∀ (A1 : Option Addr) (n1 c1 : Nat),Tryz.prog.built 112 [(1,.slice A1 n1 c1)] = some #[.bool false,.slice A1 n1 c1]:=fun A1 n1 c1=>by kernel_rfl
private theorem bt_24_ : Tryz.prog.built 24 [] = some #[.bool false,.slice none 0 0,.slice none 0 0]:=by kernel_rfl
private theorem bt_24_012 : ∀ (s0 : Bool) (A1 : Option Addr) (n1 c1 : Nat) (A2 : Option Addr) (n2 c2 : Nat),Tryz.prog.built 24 [(0,.bool s0),(1,.slice A1 n1 c1),(2,.slice A2 n2 c2)] = some #[.bool s0,.slice A1 n1 c1,.slice A2 n2 c2]:=fun s0 A1 n1 c1 A2 n2 c2=>by kernel_rfl
private theorem c_108 : callable Tryz.prog 108 = true:=by kernel_rfl
private theorem c_63 : callable Tryz.prog 63 = true:=by kernel_rfl
private theorem c_74 : callable Tryz.prog 74 = true:=by kernel_rfl
private theorem c_77 : callable Tryz.prog 77 = true:=by kernel_rfl
private theorem c_78 : callable Tryz.prog 78 = true:=by kernel_rfl
private theorem c_81 : callable Tryz.prog 81 = true:=by kernel_rfl
private theorem c_95 : callable Tryz.prog 95 = true:=by kernel_rfl
private theorem fo_24_0 : fldOff Tryz.prog 24 0 = some 0:=by kernel_rfl
private theorem fo_24_1 : fldOff Tryz.prog 24 1 = some 1:=by kernel_rfl
private theorem fo_24_2 : fldOff Tryz.prog 24 2 = some 2:=by kernel_rfl
private theorem tS_24 : tyS Tryz.prog 24 (some 3) = true:=by kernel_rfl
private theorem z_24 : (Tryz.prog.info? 24).bind (·.zero) = some (.agg #[.bool false,.slice none 0 0,.slice none 0 0]):=by kernel_rfl
private theorem zs_24 : Shaped (some 3) (.agg #[.bool false,.slice none 0 0,.slice none 0 0]):=⟨_,rfl,rfl,by simp [Value.oneCell']⟩
theorem fone_ok  {W0 : World} {G0 : Gh} (hok : Gok W0 G0)   : Calls Tryz.prog 78 #[] W0 (Ret W0 G0 (WC 64 1)):=by
 refine St.enter (N:=2) (L:=[]) (args:=[]) Tryz.func78 rfl rfl rfl hok (enter0 ) fun a S=>?_
 refine wp_reg fun K hK=>?_
 refine S.alloc rfl rfl rfl z_112 zs_112 rfl rfl fun b0 a w G S=>?_
 refine wn hK ?_;clear hK K
 refine wp_reg fun K hK=>?_
 refine S.s (τ:=WC 64 (((1 : Nat) : Int))) (OpR.call1 rfl c_77 (iOf_ok S.ok ((rfl : _ = nv .i64 1).trans (iv_eq (by first | rfl | omega | (simp only [Nat.zero_add,Nat.add_zero];done) | (simp;done) | (push_cast;omega)))) (by omega))) rfl fun a w G S=>?_
 refine S.store (τ:=WC 64 (((1 : Nat) : Int))) 0 rfl rfl rfl rfl (S.e 1 rfl) tS_112 (S.g 0 rfl) (sh (τ:=WC 64 (((1 : Nat) : Int))) (S.g 0 rfl)) fun w S=>?_
 replace S:=S.n0
 refine wn hK ?_;clear hK K
 replace S:=S.d0
 exact wp_ret (S.retCell (i:=0) rfl (S.e 0 rfl) rfl tS_112 (fun _ h=>(WC.eq h (by first | rfl | omega | (simp only [Nat.zero_add,Nat.add_zero];done) | (simp;done) | (push_cast;omega)))))
theorem fValid_ok {s : Bool} {p q : List Nat} {n : Nat} {v1 : Value} {W0 : World} {G0 : Gh} (hok : Gok W0 G0) (h1 : (QR s p q).t v1 G0) (hpl : val p < 2 ^ n) (hql : val q < 2 ^ n) (hn : n ≤ BIG) : Calls Tryz.prog 63 #[v1] W0 (Ret W0 G0 (BT (qok s p q))):=by
 have hlim:=QR.lim h1
 simp only [LIM] at hlim
 refine St.enter (N:=50) (L:=[(0,QR s p q)]) (args:=[v1]) Tryz.func63 rfl rfl rfl hok (enter1 h1) fun a S=>?_
 refine wp_reg fun K hK=>?_
 refine S.boxop (x:=.tmp 0) (τ:=QR s p q) (S.g 0 rfl) (sh (τ:=QR s p q) (S.g 0 rfl)) rfl rfl rfl rfl rfl fun b1 a w G S=>?_
 refine S.s (τ:=BT false) (OpR.asn S.ok rfl rfl) rfl fun a w G S=>?_
 refine wn hK ?_;clear hK K
 replace S:=S.d2
 refine wp_seq_k fun K hK=>?_
 refine wp_reg fun K hK=>?_
 refine S.s (τ:=MT.ex (Value.pointer (some ⟨b1,1,none⟩))) (OpR.fldA S.ok rfl (S.e 1 rfl) fo_24_1 rfl) rfl fun a w G S=>?_
 refine S.s (OpR.ldCell S.ok rfl (S.e 0 rfl) (S.box 0 rfl) tS_22 fun _ h hs=>QR.f1 h hs) rfl fun a w G S=>?_
 refine S.s (OpR.lenL S.ok rfl Tryz.underlying22 (S.g 0 rfl) MT.self) rfl fun a w G S=>?_
 refine S.s (OpR.neql S.ok rfl (S.e 0 rfl) (rfl : _ = nv .i64 0) MT.self) rfl fun a w G S=>?_
 refine S.m rfl (S.g 0 rfl) rfl fun a w G S=>?_
 rcases Bool.eq_false_or_eq_true (decide (p.length = 0)) with hc1 | hc1
 ·
  have hp2:=of_decide_eq_true hc1
  replace S:=S.boolIs 0 rfl hc1
  refine S.stepG (τ:=MT.ex (Value.pointer (some ⟨b1,2,none⟩))) 0 (OpR.fldA S.ok rfl (S.e 7 rfl) fo_24_2 rfl) rfl rfl rfl rfl rfl rfl fun a w G S=>?_
  refine S.stepG 1 (OpR.ldCell S.ok rfl (S.e 0 rfl) (S.box 0 rfl) tS_22 fun _ h hs=>QR.f2 h hs) rfl rfl rfl rfl rfl rfl fun a w G S=>?_
  refine S.stepG 2 (OpR.lenL S.ok rfl Tryz.underlying22 (S.g 0 rfl) MT.self) rfl rfl rfl rfl rfl rfl fun a w G S=>?_
  refine S.stepG 3 (OpR.neql S.ok rfl (S.e 0 rfl) (rfl : _ = nv .i64 0) MT.self) rfl rfl rfl rfl rfl rfl fun a w G S=>?_
  refine S.s (τ:=BT (decide (q.length = 0))) (OpR.pick S.ok rfl (S.e 4 rfl) (S.g 0 rfl)) rfl fun a w G S=>?_
  refine wn hK ?_;clear hK K
  replace S:=S.d10.d9.d8.d7.d6.d5.d4.d3.d2.d1
  refine S.cond 0 rfl (fun hc3=>?_) (fun hc3=>?_)
  ·
   have hp4:=of_decide_eq_true hc3
   refine wp_reg fun K hK=>?_
   refine S.s (τ:=PB b1) (OpR.fldA S.ok rfl (S.e 2 rfl) fo_24_0 rfl) rfl fun a w G S=>?_
   refine S.s (OpR.ldCell S.ok rfl (S.e 0 rfl) (S.box 0 rfl) tS_4 fun _ h hs=>QR.f0 h hs) rfl fun a w G S=>?_
   refine S.s (OpR.bnot S.ok rfl (S.e 0 rfl) MT.self) rfl fun a w G S=>?_
   replace S:=S.d4
   refine S.q rfl (S.g 0 rfl) rfl fun a w G S=>?_
   refine wn hK ?_;clear hK K
   replace S:=S.d3.d2.d1
   exact wp_ret (then_ret (S.retTmp rfl ((S.e 0 rfl).trans (bv_eq (by first | exact qok_nil ‹_› ‹_› | exact qok_f1 (by omega) | exact qok_f2 ‹_› | exact qok_f3 ‹_› | exact qok_t (by omega) (by omega) ‹_› ‹_›)))))
  ·
   have hp5:=of_decide_eq_false hc3
   refine wp_skip ?_
   refine hK _ _ ?_;clear hK K
   refine wp_seq_k fun K hK=>?_
   refine S.drawnS [⟨18,.g (MT.ex (Value.pointer (some ⟨b1,1,none⟩))),[]⟩,⟨19,.g (SL p),[0]⟩,⟨20,.g (WR false p),[1]⟩,⟨21,.g (MT.ex (Value.pointer (some ⟨b1,2,none⟩))),[]⟩,⟨22,.g (SL q),[3]⟩,⟨23,.g (WR false q),[4]⟩,⟨3,.al mkP 112 (some 2) (MT.ex (.agg #[.bool false,.slice none 0 0])),[]⟩,⟨4,.al mkP 112 (some 2) (MT.ex (.agg #[.bool false,.slice none 0 0])),[]⟩,⟨9998,.st 7 (WR false p),[6,2]⟩,⟨9998,.st 8 (WR false q),[7,5]⟩] mixedOrders (by kernel_rfl)
    ⟨⟨rfl,fun a w G S=>.of rfl (OpR.fldA S.ok rfl (S.e 2 rfl) fo_24_1 rfl)⟩,
     ⟨rfl,fun a w G S=>have S:=S.boxes (B':=[⟨b1,24,some 3,QR s p q⟩]) (by kernel_rfl);OpG.of rfl (OpR.ldCell S.ok rfl (S.e 0 rfl) (S.box 0 rfl) tS_22 fun _ h hs=>QR.f1 h hs)⟩,
     ⟨rfl,fun a w G S=>.of rfl (OpR.bW1 S.ok rfl bt_112_1 (S.g 0 rfl))⟩,
     ⟨rfl,fun a w G S=>.of rfl (OpR.fldA S.ok rfl (S.e 2 rfl) fo_24_2 rfl)⟩,
     ⟨rfl,fun a w G S=>have S:=S.boxes (B':=[⟨b1,24,some 3,QR s p q⟩]) (by kernel_rfl);OpG.of rfl (OpR.ldCell S.ok rfl (S.e 0 rfl) (S.box 0 rfl) tS_22 fun _ h hs=>QR.f2 h hs)⟩,
     ⟨rfl,fun a w G S=>.of rfl (OpR.bW1 S.ok rfl bt_112_1 (S.g 0 rfl))⟩,
     ⟨rfl,fun _=>rfl,rfl,fun a w G S=>OpB.alloc S.ok rfl z_112 zs_112⟩,
     ⟨rfl,fun _=>rfl,rfl,fun a w G S=>OpB.alloc S.ok rfl z_112 zs_112⟩,
     ⟨rfl,rfl,rfl,.inl ⟨_,_,_,_,rfl,tS_112,fun a w G S=>⟨(S.g 0 rfl),sh (τ:=WR false p) (S.g 0 rfl)⟩,by rw [if_neg (by simp only [List.length_cons,List.length_nil];omega)];exact ⟨_,_,_,rfl,rfl,rfl,rfl⟩⟩⟩,
     ⟨rfl,rfl,rfl,.inl ⟨_,_,_,_,rfl,tS_112,fun a w G S=>⟨(S.g 0 rfl),sh (τ:=WR false q) (S.g 0 rfl)⟩,by rw [if_neg (by simp only [List.length_cons,List.length_nil];omega)];exact ⟨_,_,_,rfl,rfl,rfl,rfl⟩⟩⟩,trivial⟩ fun β a w G S=>?_
   replace S : St W0 G0 50 [(4,PB (β 7)),(3,PB (β 6)),(14,BT (decide (q.length = 0))),(2,BT false),(1,PB b1)] [⟨(β 7),112,some 2,WR false q⟩,⟨(β 6),112,some 2,WR false p⟩,⟨b1,24,some 3,QR s p q⟩] a _ _:=S.keep [0,1,8,9,10]
   generalize β 6 = b3 at S
   generalize β 7 = b4 at S
   refine wn hK ?_;clear hK K
   refine wp_seq_k fun K hK=>?_
   refine wp_reg fun K hK=>?_
   refine S.s (τ:=MT.ex (Value.pointer (some ⟨b1,1,none⟩))) (OpR.fldA S.ok rfl (S.e 4 rfl) fo_24_1 rfl) rfl fun a w G S=>?_
   refine S.s (OpR.ldCell S.ok rfl (S.e 0 rfl) (S.box 2 rfl) tS_22 fun _ h hs=>QR.f1 h hs) rfl fun a w G S=>?_
   refine S.s (OpR.lenL S.ok rfl Tryz.underlying22 (S.g 0 rfl) MT.self) rfl fun a w G S=>?_
   refine S.s (OpR.neql S.ok rfl (S.e 0 rfl) (rfl : _ = nv .i64 0) MT.self) rfl fun a w G S=>?_
   refine S.m rfl (S.g 0 rfl) rfl fun a w G S=>?_
   rcases Bool.eq_false_or_eq_true (decide (p.length = 0)) with hc6 | hc6
   ·
    have hp7:=of_decide_eq_true hc6
    replace S:=S.boolIs 0 rfl hc6
    refine S.skipG 0 rfl rfl rfl rfl rfl rfl fun a w G S=>?_
    refine S.skipG 1 rfl rfl rfl rfl rfl rfl fun a w G S=>?_
    refine S.skipG 2 rfl rfl rfl rfl rfl rfl fun a w G S=>?_
    refine S.skipG 3 rfl rfl rfl rfl rfl rfl fun a w G S=>?_
    refine S.s (τ:=BT true) (OpR.pick S.ok rfl (S.e 4 rfl) rfl) rfl fun a w G S=>?_
    refine S.m rfl (S.g 0 rfl) rfl fun a w G S=>?_
    refine S.skipG 0 rfl rfl rfl rfl rfl rfl fun a w G S=>?_
    refine S.skipG 1 rfl rfl rfl rfl rfl rfl fun a w G S=>?_
    refine S.skipG 2 rfl rfl rfl rfl rfl rfl fun a w G S=>?_
    refine S.s (τ:=BT true) (OpR.pick S.ok rfl (S.e 3 rfl) rfl) rfl fun a w G S=>?_
    refine S.m rfl (S.g 0 rfl) rfl fun a w G S=>?_
    refine S.skipG 0 rfl rfl rfl rfl rfl rfl fun a w G S=>?_
    refine S.skipG 1 rfl rfl rfl rfl rfl rfl fun a w G S=>?_
    refine S.skipG 2 rfl rfl rfl rfl rfl rfl fun a w G S=>?_
    refine S.s (τ:=BT true) (OpR.pick S.ok rfl (S.e 3 rfl) rfl) rfl fun a w G S=>?_
    refine wn hK ?_;clear hK K
    replace S:=S.d20.d19.d18.d17.d16.d15.d14.d13.d12.d11.d10.d9.d8.d7.d6.d5.d4.d3.d2.d1
    refine wp_cond_true (S.e 0 rfl) ?_
    refine wp_reg fun K hK=>?_
    replace S:=S.d4
    refine S.s (τ:=BT false) (OpR.asn S.ok rfl rfl) rfl fun a w G S=>?_
    refine wn hK ?_;clear hK K
    exact wp_ret (then_ret (S.retTmp rfl ((S.e 0 rfl).trans (bv_eq (by first | exact qok_nil ‹_› ‹_› | exact qok_f1 (by omega) | exact qok_f2 ‹_› | exact qok_f3 ‹_› | exact qok_t (by omega) (by omega) ‹_› ‹_›)))))
   ·
    have hp8:=of_decide_eq_false hc6
    replace S:=S.boolIs 0 rfl hc6
    refine S.stepG (τ:=MT.ex (Value.pointer (some ⟨b1,2,none⟩))) 0 (OpR.fldA S.ok rfl (S.e 10 rfl) fo_24_2 rfl) rfl rfl rfl rfl rfl rfl fun a w G S=>?_
    refine S.stepG 1 (OpR.ldCell S.ok rfl (S.e 0 rfl) (S.box 2 rfl) tS_22 fun _ h hs=>QR.f2 h hs) rfl rfl rfl rfl rfl rfl fun a w G S=>?_
    refine S.stepG 2 (OpR.lenL S.ok rfl Tryz.underlying22 (S.g 0 rfl) MT.self) rfl rfl rfl rfl rfl rfl fun a w G S=>?_
    refine S.stepG 3 (OpR.neql S.ok rfl (S.e 0 rfl) (rfl : _ = nv .i64 0) MT.self) rfl rfl rfl rfl rfl rfl fun a w G S=>?_
    refine S.s (τ:=BT (decide (q.length = 0))) (OpR.pick S.ok rfl (S.e 4 rfl) (S.g 0 rfl)) rfl fun a w G S=>?_
    refine S.m rfl (S.g 0 rfl) rfl fun a w G S=>?_
    rcases Bool.eq_false_or_eq_true (decide (q.length = 0)) with hc9 | hc9
    ·
     have hp10:=of_decide_eq_true hc9
     replace S:=S.boolIs 0 rfl hc9
     refine S.skipG 0 rfl rfl rfl rfl rfl rfl fun a w G S=>?_
     refine S.skipG 1 rfl rfl rfl rfl rfl rfl fun a w G S=>?_
     refine S.skipG 2 rfl rfl rfl rfl rfl rfl fun a w G S=>?_
     refine S.s (τ:=BT true) (OpR.pick S.ok rfl (S.e 3 rfl) rfl) rfl fun a w G S=>?_
     refine S.m rfl (S.g 0 rfl) rfl fun a w G S=>?_
     refine S.skipG 0 rfl rfl rfl rfl rfl rfl fun a w G S=>?_
     refine S.skipG 1 rfl rfl rfl rfl rfl rfl fun a w G S=>?_
     refine S.skipG 2 rfl rfl rfl rfl rfl rfl fun a w G S=>?_
     refine S.s (τ:=BT true) (OpR.pick S.ok rfl (S.e 3 rfl) rfl) rfl fun a w G S=>?_
     refine wn hK ?_;clear hK K
     replace S:=S.d21.d20.d19.d18.d17.d16.d15.d14.d13.d12.d11.d10.d9.d8.d7.d6.d5.d4.d3.d2.d1
     refine wp_cond_true (S.e 0 rfl) ?_
     refine wp_reg fun K hK=>?_
     replace S:=S.d4
     refine S.s (τ:=BT false) (OpR.asn S.ok rfl rfl) rfl fun a w G S=>?_
     refine wn hK ?_;clear hK K
     exact wp_ret (then_ret (S.retTmp rfl ((S.e 0 rfl).trans (bv_eq (by first | exact qok_nil ‹_› ‹_› | exact qok_f1 (by omega) | exact qok_f2 ‹_› | exact qok_f3 ‹_› | exact qok_t (by omega) (by omega) ‹_› ‹_›)))))
    ·
     have hp11:=of_decide_eq_false hc9
     replace S:=S.boolIs 0 rfl hc9
     refine S.stepG 0 (OpR.ldBox S.ok rfl (S.e 14 rfl) (S.box 1 rfl) tS_112) rfl rfl rfl rfl rfl rfl fun a w G S=>?_
     refine S.stepG (τ:=BT (wok false p)) 1 (OpR.call1 rfl c_94 (iValid_ok S.ok (S.g 0 rfl))) rfl rfl rfl rfl rfl rfl fun a w G S=>?_
     refine S.stepG 2 (OpR.bnot S.ok rfl (S.e 0 rfl) MT.self) rfl rfl rfl rfl rfl rfl fun a w G S=>?_
     refine S.s (τ:=BT (!(wok false p))) (OpR.pick S.ok rfl (S.e 3 rfl) (S.g 0 rfl)) rfl fun a w G S=>?_
     refine S.m rfl (S.g 0 rfl) rfl fun a w G S=>?_
     rcases Bool.eq_false_or_eq_true (!(wok false p)) with hc12 | hc12
     ·
      replace S:=S.boolIs 0 rfl hc12
      refine S.skipG 0 rfl rfl rfl rfl rfl rfl fun a w G S=>?_
      refine S.skipG 1 rfl rfl rfl rfl rfl rfl fun a w G S=>?_
      refine S.skipG 2 rfl rfl rfl rfl rfl rfl fun a w G S=>?_
      refine S.s (τ:=BT true) (OpR.pick S.ok rfl (S.e 3 rfl) rfl) rfl fun a w G S=>?_
      refine wn hK ?_;clear hK K
      replace S:=S.d22.d21.d20.d19.d18.d17.d16.d15.d14.d13.d12.d11.d10.d9.d8.d7.d6.d5.d4.d3.d2.d1
      refine wp_cond_true (S.e 0 rfl) ?_
      refine wp_reg fun K hK=>?_
      replace S:=S.d4
      refine S.s (τ:=BT false) (OpR.asn S.ok rfl rfl) rfl fun a w G S=>?_
      refine wn hK ?_;clear hK K
      exact wp_ret (then_ret (S.retTmp rfl ((S.e 0 rfl).trans (bv_eq (by first | exact qok_nil ‹_› ‹_› | exact qok_f1 (by omega) | exact qok_f2 ‹_› | exact qok_f3 ‹_› | exact qok_t (by omega) (by omega) ‹_› ‹_›)))))
     ·
      replace S:=S.boolIs 0 rfl hc12
      refine S.stepG 0 (OpR.ldBox S.ok rfl (S.e 19 rfl) (S.box 0 rfl) tS_112) rfl rfl rfl rfl rfl rfl fun a w G S=>?_
      refine S.stepG (τ:=BT (wok false q)) 1 (OpR.call1 rfl c_94 (iValid_ok S.ok (S.g 0 rfl))) rfl rfl rfl rfl rfl rfl fun a w G S=>?_
      refine S.stepG 2 (OpR.bnot S.ok rfl (S.e 0 rfl) MT.self) rfl rfl rfl rfl rfl rfl fun a w G S=>?_
      refine S.s (τ:=BT (!(wok false q))) (OpR.pick S.ok rfl (S.e 3 rfl) (S.g 0 rfl)) rfl fun a w G S=>?_
      refine wn hK ?_;clear hK K
      replace S:=S.d22.d21.d20.d19.d18.d17.d16.d15.d14.d13.d12.d11.d10.d9.d8.d7.d6.d5.d4.d3.d2.d1
      refine S.cond 0 rfl (fun hc15=>?_) (fun hc15=>?_)
      ·
       refine wp_reg fun K hK=>?_
       replace S:=S.d4
       refine S.s (τ:=BT false) (OpR.asn S.ok rfl rfl) rfl fun a w G S=>?_
       refine wn hK ?_;clear hK K
       exact wp_ret (then_ret (S.retTmp rfl ((S.e 0 rfl).trans (bv_eq (by first | exact qok_nil ‹_› ‹_› | exact qok_f1 (by omega) | exact qok_f2 ‹_› | exact qok_f3 ‹_› | exact qok_t (by omega) (by omega) ‹_› ‹_›)))))
      ·
       refine wp_skip ?_
       refine hK _ _ ?_;clear hK K
       refine wp_reg fun K hK=>?_
       refine S.s (OpR.ldBox S.ok rfl (S.e 2 rfl) (S.box 1 rfl) tS_112) rfl fun a w G S=>?_
       refine S.s (OpR.ldBox S.ok rfl (S.e 2 rfl) (S.box 0 rfl) tS_112) rfl fun a w G S=>?_
       refine S.s (τ:=WC (max n n) ((Nat.gcd (wval false p).natAbs (wval false q).natAbs : Nat) : Int)) (OpR.call2 rfl c_95 (iGcd_ok S.ok (WR.toW (S.g 1 rfl) ⟨rfl,Nat.lt_of_le_of_lt wval_abs_le hpl⟩) (WR.toW (S.g 0 rfl) ⟨rfl,Nat.lt_of_le_of_lt wval_abs_le hql⟩) (by omega) (by omega))) rfl fun a w G S=>?_
       refine S.s (τ:=WC 64 1) (OpR.call0 rfl c_78 (fone_ok S.ok )) rfl fun a w G S=>?_
       refine S.s (τ:=IT (cmpZ (((Nat.gcd (wval false p).natAbs (wval false q).natAbs : Nat) : Int)) 1)) (OpR.call2 rfl c_74 (iCmp_ok S.ok (WC.toW (S.g 1 rfl)) (WC.toW (S.g 0 rfl)))) rfl fun a w G S=>?_
       refine S.s (OpR.zeql S.ok rfl (S.e 0 rfl) (rfl : _ = nv .i64 0) MT.self) rfl fun a w G S=>?_
       replace S:=S.d10
       refine S.q rfl (S.g 0 rfl) rfl fun a w G S=>?_
       refine wn hK ?_;clear hK K
       replace S:=S.d6.d5.d4.d3.d2.d1
       exact wp_ret (S.retTmp rfl ((S.e 0 rfl).trans (bv_eq (by first | exact qok_nil ‹_› ‹_› | exact qok_f1 (by omega) | exact qok_f2 ‹_› | exact qok_f3 ‹_› | exact qok_t (by omega) (by omega) ‹_› ‹_›))))
 ·
  have hp18:=of_decide_eq_false hc1
  replace S:=S.boolIs 0 rfl hc1
  refine S.skipG 0 rfl rfl rfl rfl rfl rfl fun a w G S=>?_
  refine S.skipG 1 rfl rfl rfl rfl rfl rfl fun a w G S=>?_
  refine S.skipG 2 rfl rfl rfl rfl rfl rfl fun a w G S=>?_
  refine S.skipG 3 rfl rfl rfl rfl rfl rfl fun a w G S=>?_
  refine S.s (τ:=BT false) (OpR.pick S.ok rfl (S.e 4 rfl) rfl) rfl fun a w G S=>?_
  refine wn hK ?_;clear hK K
  replace S:=S.d10.d9.d8.d7.d6.d5.d4.d3.d2.d1
  refine wp_cond_false (S.e 0 rfl) ?_
  refine wp_skip ?_
  refine hK _ _ ?_;clear hK K
  refine wp_seq_k fun K hK=>?_
  refine S.drawnS [⟨18,.g (MT.ex (Value.pointer (some ⟨b1,1,none⟩))),[]⟩,⟨19,.g (SL p),[0]⟩,⟨20,.g (WR false p),[1]⟩,⟨21,.g (MT.ex (Value.pointer (some ⟨b1,2,none⟩))),[]⟩,⟨22,.g (SL q),[3]⟩,⟨23,.g (WR false q),[4]⟩,⟨3,.al mkP 112 (some 2) (MT.ex (.agg #[.bool false,.slice none 0 0])),[]⟩,⟨4,.al mkP 112 (some 2) (MT.ex (.agg #[.bool false,.slice none 0 0])),[]⟩,⟨9998,.st 7 (WR false p),[6,2]⟩,⟨9998,.st 8 (WR false q),[7,5]⟩] mixedOrders (by kernel_rfl)
   ⟨⟨rfl,fun a w G S=>.of rfl (OpR.fldA S.ok rfl (S.e 2 rfl) fo_24_1 rfl)⟩,
    ⟨rfl,fun a w G S=>have S:=S.boxes (B':=[⟨b1,24,some 3,QR s p q⟩]) (by kernel_rfl);OpG.of rfl (OpR.ldCell S.ok rfl (S.e 0 rfl) (S.box 0 rfl) tS_22 fun _ h hs=>QR.f1 h hs)⟩,
    ⟨rfl,fun a w G S=>.of rfl (OpR.bW1 S.ok rfl bt_112_1 (S.g 0 rfl))⟩,
    ⟨rfl,fun a w G S=>.of rfl (OpR.fldA S.ok rfl (S.e 2 rfl) fo_24_2 rfl)⟩,
    ⟨rfl,fun a w G S=>have S:=S.boxes (B':=[⟨b1,24,some 3,QR s p q⟩]) (by kernel_rfl);OpG.of rfl (OpR.ldCell S.ok rfl (S.e 0 rfl) (S.box 0 rfl) tS_22 fun _ h hs=>QR.f2 h hs)⟩,
    ⟨rfl,fun a w G S=>.of rfl (OpR.bW1 S.ok rfl bt_112_1 (S.g 0 rfl))⟩,
    ⟨rfl,fun _=>rfl,rfl,fun a w G S=>OpB.alloc S.ok rfl z_112 zs_112⟩,
    ⟨rfl,fun _=>rfl,rfl,fun a w G S=>OpB.alloc S.ok rfl z_112 zs_112⟩,
    ⟨rfl,rfl,rfl,.inl ⟨_,_,_,_,rfl,tS_112,fun a w G S=>⟨(S.g 0 rfl),sh (τ:=WR false p) (S.g 0 rfl)⟩,by rw [if_neg (by simp only [List.length_cons,List.length_nil];omega)];exact ⟨_,_,_,rfl,rfl,rfl,rfl⟩⟩⟩,
    ⟨rfl,rfl,rfl,.inl ⟨_,_,_,_,rfl,tS_112,fun a w G S=>⟨(S.g 0 rfl),sh (τ:=WR false q) (S.g 0 rfl)⟩,by rw [if_neg (by simp only [List.length_cons,List.length_nil];omega)];exact ⟨_,_,_,rfl,rfl,rfl,rfl⟩⟩⟩,trivial⟩ fun β a w G S=>?_
  replace S : St W0 G0 50 [(4,PB (β 7)),(3,PB (β 6)),(14,BT false),(2,BT false),(1,PB b1)] [⟨(β 7),112,some 2,WR false q⟩,⟨(β 6),112,some 2,WR false p⟩,⟨b1,24,some 3,QR s p q⟩] a _ _:=S.keep [0,1,8,9,10]
  generalize β 6 = b3 at S
  generalize β 7 = b4 at S
  refine wn hK ?_;clear hK K
  refine wp_seq_k fun K hK=>?_
  refine wp_reg fun K hK=>?_
  refine S.s (τ:=MT.ex (Value.pointer (some ⟨b1,1,none⟩))) (OpR.fldA S.ok rfl (S.e 4 rfl) fo_24_1 rfl) rfl fun a w G S=>?_
  refine S.s (OpR.ldCell S.ok rfl (S.e 0 rfl) (S.box 2 rfl) tS_22 fun _ h hs=>QR.f1 h hs) rfl fun a w G S=>?_
  refine S.s (OpR.lenL S.ok rfl Tryz.underlying22 (S.g 0 rfl) MT.self) rfl fun a w G S=>?_
  refine S.s (OpR.neql S.ok rfl (S.e 0 rfl) (rfl : _ = nv .i64 0) MT.self) rfl fun a w G S=>?_
  refine S.m rfl (S.g 0 rfl) rfl fun a w G S=>?_
  rcases Bool.eq_false_or_eq_true (decide (p.length = 0)) with hc19 | hc19
  ·
   have hp20:=of_decide_eq_true hc19
   replace S:=S.boolIs 0 rfl hc19
   refine S.skipG 0 rfl rfl rfl rfl rfl rfl fun a w G S=>?_
   refine S.skipG 1 rfl rfl rfl rfl rfl rfl fun a w G S=>?_
   refine S.skipG 2 rfl rfl rfl rfl rfl rfl fun a w G S=>?_
   refine S.skipG 3 rfl rfl rfl rfl rfl rfl fun a w G S=>?_
   refine S.s (τ:=BT true) (OpR.pick S.ok rfl (S.e 4 rfl) rfl) rfl fun a w G S=>?_
   refine S.m rfl (S.g 0 rfl) rfl fun a w G S=>?_
   refine S.skipG 0 rfl rfl rfl rfl rfl rfl fun a w G S=>?_
   refine S.skipG 1 rfl rfl rfl rfl rfl rfl fun a w G S=>?_
   refine S.skipG 2 rfl rfl rfl rfl rfl rfl fun a w G S=>?_
   refine S.s (τ:=BT true) (OpR.pick S.ok rfl (S.e 3 rfl) rfl) rfl fun a w G S=>?_
   refine S.m rfl (S.g 0 rfl) rfl fun a w G S=>?_
   refine S.skipG 0 rfl rfl rfl rfl rfl rfl fun a w G S=>?_
   refine S.skipG 1 rfl rfl rfl rfl rfl rfl fun a w G S=>?_
   refine S.skipG 2 rfl rfl rfl rfl rfl rfl fun a w G S=>?_
   refine S.s (τ:=BT true) (OpR.pick S.ok rfl (S.e 3 rfl) rfl) rfl fun a w G S=>?_
   refine wn hK ?_;clear hK K
   replace S:=S.d20.d19.d18.d17.d16.d15.d14.d13.d12.d11.d10.d9.d8.d7.d6.d5.d4.d3.d2.d1
   refine wp_cond_true (S.e 0 rfl) ?_
   refine wp_reg fun K hK=>?_
   replace S:=S.d4
   refine S.s (τ:=BT false) (OpR.asn S.ok rfl rfl) rfl fun a w G S=>?_
   refine wn hK ?_;clear hK K
   exact wp_ret (then_ret (S.retTmp rfl ((S.e 0 rfl).trans (bv_eq (by first | exact qok_nil ‹_› ‹_› | exact qok_f1 (by omega) | exact qok_f2 ‹_› | exact qok_f3 ‹_› | exact qok_t (by omega) (by omega) ‹_› ‹_›)))))
  ·
   have hp21:=of_decide_eq_false hc19
   replace S:=S.boolIs 0 rfl hc19
   refine S.stepG (τ:=MT.ex (Value.pointer (some ⟨b1,2,none⟩))) 0 (OpR.fldA S.ok rfl (S.e 10 rfl) fo_24_2 rfl) rfl rfl rfl rfl rfl rfl fun a w G S=>?_
   refine S.stepG 1 (OpR.ldCell S.ok rfl (S.e 0 rfl) (S.box 2 rfl) tS_22 fun _ h hs=>QR.f2 h hs) rfl rfl rfl rfl rfl rfl fun a w G S=>?_
   refine S.stepG 2 (OpR.lenL S.ok rfl Tryz.underlying22 (S.g 0 rfl) MT.self) rfl rfl rfl rfl rfl rfl fun a w G S=>?_
   refine S.stepG 3 (OpR.neql S.ok rfl (S.e 0 rfl) (rfl : _ = nv .i64 0) MT.self) rfl rfl rfl rfl rfl rfl fun a w G S=>?_
   refine S.s (τ:=BT (decide (q.length = 0))) (OpR.pick S.ok rfl (S.e 4 rfl) (S.g 0 rfl)) rfl fun a w G S=>?_
   refine S.m rfl (S.g 0 rfl) rfl fun a w G S=>?_
   rcases Bool.eq_false_or_eq_true (decide (q.length = 0)) with hc22 | hc22
   ·
    have hp23:=of_decide_eq_true hc22
    replace S:=S.boolIs 0 rfl hc22
    refine S.skipG 0 rfl rfl rfl rfl rfl rfl fun a w G S=>?_
    refine S.skipG 1 rfl rfl rfl rfl rfl rfl fun a w G S=>?_
    refine S.skipG 2 rfl rfl rfl rfl rfl rfl fun a w G S=>?_
    refine S.s (τ:=BT true) (OpR.pick S.ok rfl (S.e 3 rfl) rfl) rfl fun a w G S=>?_
    refine S.m rfl (S.g 0 rfl) rfl fun a w G S=>?_
    refine S.skipG 0 rfl rfl rfl rfl rfl rfl fun a w G S=>?_
    refine S.skipG 1 rfl rfl rfl rfl rfl rfl fun a w G S=>?_
    refine S.skipG 2 rfl rfl rfl rfl rfl rfl fun a w G S=>?_
    refine S.s (τ:=BT true) (OpR.pick S.ok rfl (S.e 3 rfl) rfl) rfl fun a w G S=>?_
    refine wn hK ?_;clear hK K
    replace S:=S.d21.d20.d19.d18.d17.d16.d15.d14.d13.d12.d11.d10.d9.d8.d7.d6.d5.d4.d3.d2.d1
    refine wp_cond_true (S.e 0 rfl) ?_
    refine wp_reg fun K hK=>?_
    replace S:=S.d4
    refine S.s (τ:=BT false) (OpR.asn S.ok rfl rfl) rfl fun a w G S=>?_
    refine wn hK ?_;clear hK K
    exact wp_ret (then_ret (S.retTmp rfl ((S.e 0 rfl).trans (bv_eq (by first | exact qok_nil ‹_› ‹_› | exact qok_f1 (by omega) | exact qok_f2 ‹_› | exact qok_f3 ‹_› | exact qok_t (by omega) (by omega) ‹_› ‹_›)))))
   ·
    have hp24:=of_decide_eq_false hc22
    replace S:=S.boolIs 0 rfl hc22
    refine S.stepG 0 (OpR.ldBox S.ok rfl (S.e 14 rfl) (S.box 1 rfl) tS_112) rfl rfl rfl rfl rfl rfl fun a w G S=>?_
    refine S.stepG (τ:=BT (wok false p)) 1 (OpR.call1 rfl c_94 (iValid_ok S.ok (S.g 0 rfl))) rfl rfl rfl rfl rfl rfl fun a w G S=>?_
    refine S.stepG 2 (OpR.bnot S.ok rfl (S.e 0 rfl) MT.self) rfl rfl rfl rfl rfl rfl fun a w G S=>?_
    refine S.s (τ:=BT (!(wok false p))) (OpR.pick S.ok rfl (S.e 3 rfl) (S.g 0 rfl)) rfl fun a w G S=>?_
    refine S.m rfl (S.g 0 rfl) rfl fun a w G S=>?_
    rcases Bool.eq_false_or_eq_true (!(wok false p)) with hc25 | hc25
    ·
     replace S:=S.boolIs 0 rfl hc25
     refine S.skipG 0 rfl rfl rfl rfl rfl rfl fun a w G S=>?_
     refine S.skipG 1 rfl rfl rfl rfl rfl rfl fun a w G S=>?_
     refine S.skipG 2 rfl rfl rfl rfl rfl rfl fun a w G S=>?_
     refine S.s (τ:=BT true) (OpR.pick S.ok rfl (S.e 3 rfl) rfl) rfl fun a w G S=>?_
     refine wn hK ?_;clear hK K
     replace S:=S.d22.d21.d20.d19.d18.d17.d16.d15.d14.d13.d12.d11.d10.d9.d8.d7.d6.d5.d4.d3.d2.d1
     refine wp_cond_true (S.e 0 rfl) ?_
     refine wp_reg fun K hK=>?_
     replace S:=S.d4
     refine S.s (τ:=BT false) (OpR.asn S.ok rfl rfl) rfl fun a w G S=>?_
     refine wn hK ?_;clear hK K
     exact wp_ret (then_ret (S.retTmp rfl ((S.e 0 rfl).trans (bv_eq (by first | exact qok_nil ‹_› ‹_› | exact qok_f1 (by omega) | exact qok_f2 ‹_› | exact qok_f3 ‹_› | exact qok_t (by omega) (by omega) ‹_› ‹_›)))))
    ·
     replace S:=S.boolIs 0 rfl hc25
     refine S.stepG 0 (OpR.ldBox S.ok rfl (S.e 19 rfl) (S.box 0 rfl) tS_112) rfl rfl rfl rfl rfl rfl fun a w G S=>?_
     refine S.stepG (τ:=BT (wok false q)) 1 (OpR.call1 rfl c_94 (iValid_ok S.ok (S.g 0 rfl))) rfl rfl rfl rfl rfl rfl fun a w G S=>?_
     refine S.stepG 2 (OpR.bnot S.ok rfl (S.e 0 rfl) MT.self) rfl rfl rfl rfl rfl rfl fun a w G S=>?_
     refine S.s (τ:=BT (!(wok false q))) (OpR.pick S.ok rfl (S.e 3 rfl) (S.g 0 rfl)) rfl fun a w G S=>?_
     refine wn hK ?_;clear hK K
     replace S:=S.d22.d21.d20.d19.d18.d17.d16.d15.d14.d13.d12.d11.d10.d9.d8.d7.d6.d5.d4.d3.d2.d1
     refine S.cond 0 rfl (fun hc28=>?_) (fun hc28=>?_)
     ·
      refine wp_reg fun K hK=>?_
      replace S:=S.d4
      refine S.s (τ:=BT false) (OpR.asn S.ok rfl rfl) rfl fun a w G S=>?_
      refine wn hK ?_;clear hK K
      exact wp_ret (then_ret (S.retTmp rfl ((S.e 0 rfl).trans (bv_eq (by first | exact qok_nil ‹_› ‹_› | exact qok_f1 (by omega) | exact qok_f2 ‹_› | exact qok_f3 ‹_› | exact qok_t (by omega) (by omega) ‹_› ‹_›)))))
     ·
      refine wp_skip ?_
      refine hK _ _ ?_;clear hK K
      refine wp_reg fun K hK=>?_
      refine S.s (OpR.ldBox S.ok rfl (S.e 2 rfl) (S.box 1 rfl) tS_112) rfl fun a w G S=>?_
      refine S.s (OpR.ldBox S.ok rfl (S.e 2 rfl) (S.box 0 rfl) tS_112) rfl fun a w G S=>?_
      refine S.s (τ:=WC (max n n) ((Nat.gcd (wval false p).natAbs (wval false q).natAbs : Nat) : Int)) (OpR.call2 rfl c_95 (iGcd_ok S.ok (WR.toW (S.g 1 rfl) ⟨rfl,Nat.lt_of_le_of_lt wval_abs_le hpl⟩) (WR.toW (S.g 0 rfl) ⟨rfl,Nat.lt_of_le_of_lt wval_abs_le hql⟩) (by omega) (by omega))) rfl fun a w G S=>?_
      refine S.s (τ:=WC 64 1) (OpR.call0 rfl c_78 (fone_ok S.ok )) rfl fun a w G S=>?_
      refine S.s (τ:=IT (cmpZ (((Nat.gcd (wval false p).natAbs (wval false q).natAbs : Nat) : Int)) 1)) (OpR.call2 rfl c_74 (iCmp_ok S.ok (WC.toW (S.g 1 rfl)) (WC.toW (S.g 0 rfl)))) rfl fun a w G S=>?_
      refine S.s (OpR.zeql S.ok rfl (S.e 0 rfl) (rfl : _ = nv .i64 0) MT.self) rfl fun a w G S=>?_
      replace S:=S.d10
      refine S.q rfl (S.g 0 rfl) rfl fun a w G S=>?_
      refine wn hK ?_;clear hK K
      replace S:=S.d6.d5.d4.d3.d2.d1
      exact wp_ret (S.retTmp rfl ((S.e 0 rfl).trans (bv_eq (by first | exact qok_nil ‹_› ‹_› | exact qok_f1 (by omega) | exact qok_f2 ‹_› | exact qok_f3 ‹_› | exact qok_t (by omega) (by omega) ‹_› ‹_›))))
theorem fParts_ok {n : Nat} {x : Rat} {v1 : Value} {W0 : World} {G0 : Gh} (hok : Gok W0 G0) (h1 : (QV n x).t v1 G0) (hn : n ≤ BIG) : Calls Tryz.prog 65 #[v1] W0 (Ret W0 G0 (MT.tup2 (WC n x.num) (WC n ((x.den : Nat) : Int)))):=by
 obtain ⟨h1n,s,p,q,hv,hpl,hql,h1⟩:=h1
 have hwf:=QR.wf h1
 have hlim:=QR.lim h1
 simp only [LIM] at hlim
 refine St.enter (N:=28) (L:=[(0,QR s p q)]) (args:=[v1]) Tryz.func65 rfl rfl rfl hok (enter1 h1) fun a S=>?_
 refine wp_reg fun K hK=>?_
 refine S.boxop (x:=.tmp 0) (τ:=QR s p q) (S.g 0 rfl) (sh (τ:=QR s p q) (S.g 0 rfl)) rfl rfl rfl rfl rfl fun b1 a w G S=>?_
 refine S.alloc rfl rfl rfl z_112 zs_112 rfl rfl fun b2 a w G S=>?_
 refine S.alloc rfl rfl rfl z_112 zs_112 rfl rfl fun b3 a w G S=>?_
 refine wn hK ?_;clear hK K
 replace S:=S.d3
 refine wp_seq_k fun K hK=>?_
 refine wp_reg fun K hK=>?_
 refine S.s (OpR.ldBox S.ok rfl (S.e 2 rfl) (S.box 2 rfl) tS_24) rfl fun a w G S=>?_
 refine S.s (τ:=BT (qok s p q)) (OpR.call1 rfl c_63 (fValid_ok S.ok (S.g 0 rfl) hpl hql hn)) rfl fun a w G S=>?_
 refine S.s (OpR.bnot S.ok rfl (S.e 0 rfl) MT.self) rfl fun a w G S=>?_
 refine S.m rfl (S.g 0 rfl) rfl fun a w G S=>?_
 rcases Bool.eq_false_or_eq_true (!(qok s p q)) with hc1 | hc1
 ·
  replace S:=S.boolIs 0 rfl hc1
  refine S.skipG 0 rfl rfl rfl rfl rfl rfl fun a w G S=>?_
  refine S.skipG 1 rfl rfl rfl rfl rfl rfl fun a w G S=>?_
  refine S.skipG 2 rfl rfl rfl rfl rfl rfl fun a w G S=>?_
  refine S.skipG 3 rfl rfl rfl rfl rfl rfl fun a w G S=>?_
  refine S.s (τ:=BT true) (OpR.pick S.ok rfl (S.e 4 rfl) rfl) rfl fun a w G S=>?_
  refine wn hK ?_;clear hK K
  replace S:=S.d9.d8.d7.d6.d5.d4.d3.d2.d1
  refine wp_cond_true (S.e 0 rfl) ?_
  refine wp_reg fun K hK=>?_
  refine S.s (τ:=WR false ([])) (OpR.bW0 S.ok rfl bt_112_) rfl fun a w G S=>?_
  refine S.s (τ:=WC 64 1) (OpR.call0 rfl c_78 (fone_ok S.ok )) rfl fun a w G S=>?_
  refine S.store (τ:=WR false ([])) 1 rfl rfl rfl rfl (S.e 4 rfl) tS_112 (S.g 1 rfl) (sh (τ:=WR false ([])) (S.g 1 rfl)) fun w S=>?_
  replace S:=S.n1
  refine S.store (τ:=WC 64 1) 0 rfl rfl rfl rfl (S.e 3 rfl) tS_112 (S.g 0 rfl) (sh (τ:=WC 64 1) (S.g 0 rfl)) fun w S=>?_
  replace S:=S.n0
  refine wn hK ?_;clear hK K
  replace S:=S.d1.d0
  exact wp_ret (then_ret (S.retCell2 (i:=1) (i2:=0) rfl (S.e 2 rfl) rfl tS_112 (S.e 1 rfl) rfl tS_112 (fun _ h=>(by first | exact part_num h hwf hv (not_false_of ‹_›) ‹_› hpl | exact WR.zero h (by rw [← hv,qval_not (not_true_of ‹_›)];rfl) | exact WR.zero h (by rw [← hv,qval_nil ‹_›];rfl))) (fun _ h=>(by first | exact part_den h hwf hv (not_false_of ‹_›) ‹_› hql | exact WC.cast h (by rw [← hv,qval_not (not_true_of ‹_›)];rfl) (by rw [← hv,qval_not (not_true_of ‹_›)];exact one_lt_pow h1n) | exact WC.cast h (by rw [← hv,qval_nil ‹_›];rfl) (by rw [← hv,qval_nil ‹_›];exact one_lt_pow h1n)))))
 ·
  replace S:=S.boolIs 0 rfl hc1
  refine S.stepG (τ:=MT.ex (Value.pointer (some ⟨b1,1,none⟩))) 0 (OpR.fldA S.ok rfl (S.e 7 rfl) fo_24_1 rfl) rfl rfl rfl rfl rfl rfl fun a w G S=>?_
  refine S.stepG 1 (OpR.ldCell S.ok rfl (S.e 0 rfl) (S.box 2 rfl) tS_22 fun _ h hs=>QR.f1 h hs) rfl rfl rfl rfl rfl rfl fun a w G S=>?_
  refine S.stepG 2 (OpR.lenL S.ok rfl Tryz.underlying22 (S.g 0 rfl) MT.self) rfl rfl rfl rfl rfl rfl fun a w G S=>?_
  refine S.stepG 3 (OpR.neql S.ok rfl (S.e 0 rfl) (rfl : _ = nv .i64 0) MT.self) rfl rfl rfl rfl rfl rfl fun a w G S=>?_
  refine S.s (τ:=BT (decide (p.length = 0))) (OpR.pick S.ok rfl (S.e 4 rfl) (S.g 0 rfl)) rfl fun a w G S=>?_
  refine wn hK ?_;clear hK K
  replace S:=S.d9.d8.d7.d6.d5.d4.d3.d2.d1
  refine S.cond 0 rfl (fun hc4=>?_) (fun hc4=>?_)
  ·
   have hp5:=of_decide_eq_true hc4
   refine wp_reg fun K hK=>?_
   refine S.s (τ:=WR false ([])) (OpR.bW0 S.ok rfl bt_112_) rfl fun a w G S=>?_
   refine S.s (τ:=WC 64 1) (OpR.call0 rfl c_78 (fone_ok S.ok )) rfl fun a w G S=>?_
   refine S.store (τ:=WR false ([])) 1 rfl rfl rfl rfl (S.e 4 rfl) tS_112 (S.g 1 rfl) (sh (τ:=WR false ([])) (S.g 1 rfl)) fun w S=>?_
   replace S:=S.n1
   refine S.store (τ:=WC 64 1) 0 rfl rfl rfl rfl (S.e 3 rfl) tS_112 (S.g 0 rfl) (sh (τ:=WC 64 1) (S.g 0 rfl)) fun w S=>?_
   replace S:=S.n0
   refine wn hK ?_;clear hK K
   replace S:=S.d1.d0
   exact wp_ret (then_ret (S.retCell2 (i:=1) (i2:=0) rfl (S.e 2 rfl) rfl tS_112 (S.e 1 rfl) rfl tS_112 (fun _ h=>(by first | exact part_num h hwf hv (not_false_of ‹_›) ‹_› hpl | exact WR.zero h (by rw [← hv,qval_not (not_true_of ‹_›)];rfl) | exact WR.zero h (by rw [← hv,qval_nil ‹_›];rfl))) (fun _ h=>(by first | exact part_den h hwf hv (not_false_of ‹_›) ‹_› hql | exact WC.cast h (by rw [← hv,qval_not (not_true_of ‹_›)];rfl) (by rw [← hv,qval_not (not_true_of ‹_›)];exact one_lt_pow h1n) | exact WC.cast h (by rw [← hv,qval_nil ‹_›];rfl) (by rw [← hv,qval_nil ‹_›];exact one_lt_pow h1n)))))
  ·
   have hp6:=of_decide_eq_false hc4
   refine wp_skip ?_
   refine hK _ _ ?_;clear hK K
   refine wp_seq_k fun K hK=>?_
   refine S.drawn [⟨15,.g (PB b1),[]⟩,⟨16,.g (BT s),[0]⟩,⟨17,.g (EMP),[]⟩,⟨18,.g (MT.ex (Value.pointer (some ⟨b1,1,none⟩))),[]⟩,⟨19,.g (SL p),[3]⟩,⟨20,.g (SL p),[2,4]⟩,⟨21,.g (WR s p),[1,5]⟩] mixedOrders (by kernel_rfl)
    ⟨fun a w G S=>.of rfl (OpR.fldA S.ok rfl (S.e 3 rfl) fo_24_0 rfl),
     fun a w G S=>.of rfl (OpR.ldCell S.ok rfl (S.e 0 rfl) (S.box 2 rfl) tS_4 fun _ h hs=>QR.f0 h hs),
     fun a w G S=>.of rfl (OpR.build0 S.ok rfl Tryz.underlying22 el_141),
     fun a w G S=>.of rfl (OpR.fldA S.ok rfl (S.e 3 rfl) fo_24_1 rfl),
     fun a w G S=>.of rfl (OpR.ldCell S.ok rfl (S.e 0 rfl) (S.box 2 rfl) tS_22 fun _ h hs=>QR.f1 h hs),
     fun a w G S=>.of rfl (OpR.appNew S.ok rfl Tryz.underlying22 el_141 (S.g 0 rfl) (S.g 1 rfl)),
     fun a w G S=>.of rfl (OpR.bWR S.ok rfl bt_112_01 (S.e 0 rfl) (S.g 1 rfl)),trivial⟩ fun β a w G S=>?_
   replace S : St W0 G0 28 [(21,WR s p),(12,BT (decide (p.length = 0))),(3,PB b3),(2,PB b2),(1,PB b1)] [⟨b3,112,some 2,MT.ex ((.agg #[.bool false,.slice none 0 0] : Value))⟩,⟨b2,112,some 2,MT.ex ((.agg #[.bool false,.slice none 0 0] : Value))⟩,⟨b1,24,some 3,QR s p q⟩] a _ _:=S.keep [0,7,8,9,10]
   refine S.store (τ:=WR s p) 1 rfl rfl rfl rfl (S.e 3 rfl) tS_112 (S.g 0 rfl) (sh (τ:=WR s p) (S.g 0 rfl)) fun w S=>?_
   replace S:=S.n1
   refine wn hK ?_;clear hK K
   replace S:=S.d0
   refine wp_seq_k fun K hK=>?_
   refine S.drawnS [⟨22,.g (WR s p),[]⟩,⟨23,.g (EMP),[]⟩,⟨24,.g (MT.ex (Value.pointer (some ⟨b1,2,none⟩))),[]⟩,⟨25,.g (SL q),[2]⟩,⟨26,.g (SL q),[1,3]⟩,⟨27,.g (WR false q),[4]⟩,⟨9998,.st 1 (WR s p),[0]⟩,⟨9998,.st 0 (WR false q),[5]⟩] mixedOrders (by kernel_rfl)
    ⟨⟨rfl,fun a w G S=>have S:=S.boxes (B':=[⟨b3,112,some 2,MT.ex ((.agg #[.bool false,.slice none 0 0] : Value))⟩,⟨b2,112,some 2,WR s p⟩,⟨b1,24,some 3,QR s p q⟩]) (by kernel_rfl);OpG.of rfl (OpR.ldBox S.ok rfl (S.e 2 rfl) (S.box 1 rfl) tS_112)⟩,
     ⟨rfl,fun a w G S=>.of rfl (OpR.build0 S.ok rfl Tryz.underlying22 el_141)⟩,
     ⟨rfl,fun a w G S=>.of rfl (OpR.fldA S.ok rfl (S.e 3 rfl) fo_24_2 rfl)⟩,
     ⟨rfl,fun a w G S=>have S:=S.boxes (B':=[⟨b3,112,some 2,MT.ex ((.agg #[.bool false,.slice none 0 0] : Value))⟩,⟨b2,112,some 2,WR s p⟩,⟨b1,24,some 3,QR s p q⟩]) (by kernel_rfl);OpG.of rfl (OpR.ldCell S.ok rfl (S.e 0 rfl) (S.box 2 rfl) tS_22 fun _ h hs=>QR.f2 h hs)⟩,
     ⟨rfl,fun a w G S=>.of rfl (OpR.appNew S.ok rfl Tryz.underlying22 el_141 (S.g 0 rfl) (S.g 1 rfl))⟩,
     ⟨rfl,fun a w G S=>.of rfl (OpR.bW1 S.ok rfl bt_112_1 (S.g 0 rfl))⟩,
     ⟨rfl,rfl,rfl,.inl ⟨_,_,_,_,rfl,tS_112,fun a w G S=>⟨(S.g 0 rfl),sh (τ:=WR s p) (S.g 0 rfl)⟩,by rw [if_pos (by simp only [List.length_cons,List.length_nil];omega)];exact ⟨rfl,fun a w G S=>congrArg some (S.e 3 rfl).symm⟩⟩⟩,
     ⟨rfl,rfl,rfl,.inl ⟨_,_,_,_,rfl,tS_112,fun a w G S=>⟨(S.g 0 rfl),sh (τ:=WR false q) (S.g 0 rfl)⟩,by rw [if_pos (by simp only [List.length_cons,List.length_nil];omega)];exact ⟨rfl,fun a w G S=>congrArg some (S.e 2 rfl).symm⟩⟩⟩,trivial⟩ fun β a w G S=>?_
   replace S : St W0 G0 28 [(12,BT (decide (p.length = 0))),(3,PB b3),(2,PB b2),(1,PB b1)] [⟨b3,112,some 2,WR false q⟩,⟨b2,112,some 2,WR s p⟩,⟨b1,24,some 3,QR s p q⟩] a _ _:=S.keep [6,7,8,9]
   refine wn hK ?_;clear hK K
   exact wp_ret (S.retCell2 (i:=1) (i2:=0) rfl (S.e 2 rfl) rfl tS_112 (S.e 1 rfl) rfl tS_112 (fun _ h=>(by first | exact part_num h hwf hv (not_false_of ‹_›) ‹_› hpl | exact WR.zero h (by rw [← hv,qval_not (not_true_of ‹_›)];rfl) | exact WR.zero h (by rw [← hv,qval_nil ‹_›];rfl))) (fun _ h=>(by first | exact part_den h hwf hv (not_false_of ‹_›) ‹_› hql | exact WC.cast h (by rw [← hv,qval_not (not_true_of ‹_›)];rfl) (by rw [← hv,qval_not (not_true_of ‹_›)];exact one_lt_pow h1n) | exact WC.cast h (by rw [← hv,qval_nil ‹_›];rfl) (by rw [← hv,qval_nil ‹_›];exact one_lt_pow h1n))))
theorem fform_ok {n m : Nat} {x y : Int} {v1 v2 : Value} {W0 : World} {G0 : Gh} (hok : Gok W0 G0) (h1 : (W n x).t v1 G0) (h2 : (W m y).t v2 G0) (hy : y ≠ 0) (hna : n ≤ BIG) (hnb : m ≤ BIG) : Calls Tryz.prog 76 #[v1,v2] W0 (Ret W0 G0 (QC (max n m) (Rat.divInt x y))):=by
 have hxl : x.natAbs < 2 ^ max n m:=Nat.lt_of_lt_of_le (W.lt h1) (Nat.pow_le_pow_right (by decide) (by omega))
 have hyl : y.natAbs < 2 ^ max n m:=Nat.lt_of_lt_of_le (W.lt h2) (Nat.pow_le_pow_right (by decide) (by omega))
 have hm1:=one_le_of_lt (show y.natAbs ≠ 0 by omega) hyl
 refine St.enter (N:=47) (L:=[(1,W m y),(0,W n x)]) (args:=[v1,v2]) Tryz.func76 rfl rfl rfl hok (enter2 h1 h2) fun a S=>?_
 refine wp_reg fun K hK=>?_
 refine S.boxop (x:=.tmp 0) (τ:=W n x) (S.g 1 rfl) (sh (τ:=W n x) (S.g 1 rfl)) rfl rfl rfl rfl rfl fun b2 a w G S=>?_
 refine S.boxop (x:=.tmp 1) (τ:=W m y) (S.g 1 rfl) (sh (τ:=W m y) (S.g 1 rfl)) rfl rfl rfl rfl rfl fun b3 a w G S=>?_
 refine S.alloc rfl rfl rfl z_24 zs_24 rfl rfl fun b4 a w G S=>?_
 refine wn hK ?_;clear hK K
 replace S:=S.d4.d3
 refine wp_seq_k fun K hK=>?_
 refine wp_reg fun K hK=>?_
 refine S.s (OpR.ldBox S.ok rfl (S.e 2 rfl) (S.box 2 rfl) tS_112) rfl fun a w G S=>?_
 refine S.s (τ:=IT x.sign) (OpR.call1 rfl c_66 (iSign_ok S.ok (S.g 0 rfl))) rfl fun a w G S=>?_
 refine S.s (OpR.zeql S.ok rfl (S.e 0 rfl) (rfl : _ = nv .i64 0) MT.self) rfl fun a w G S=>?_
 refine wn hK ?_;clear hK K
 replace S:=S.d2.d1
 refine S.cond 0 rfl (fun hc1=>?_) (fun hc1=>?_)
 ·
  have hp2:=of_decide_eq_true hc1
  refine wp_reg fun K hK=>?_
  refine S.s (τ:=QR false ([]) ([])) (OpR.bQ0 S.ok rfl bt_24_) rfl fun a w G S=>?_
  refine S.store (τ:=QR false ([]) ([])) 0 rfl rfl rfl rfl (S.e 2 rfl) tS_24 (S.g 0 rfl) (sh (τ:=QR false ([]) ([])) (S.g 0 rfl)) fun w S=>?_
  replace S:=S.n0
  refine wn hK ?_;clear hK K
  replace S:=S.d0
  exact wp_ret (then_ret (S.retCell (i:=0) rfl (S.e 1 rfl) rfl tS_24 (fun _ h=>(QC.zero h (frac_zero ‹_›) hm1))))
 ·
  have hp3:=of_decide_eq_false hc1
  have hx0 : x ≠ 0:=fun e=>hp3 (by rw [e];rfl)
  refine wp_skip ?_
  refine hK _ _ ?_;clear hK K
  refine wp_seq_k fun K hK=>?_
  refine wp_reg fun K hK=>?_
  refine S.s (OpR.ldBox S.ok rfl (S.e 2 rfl) (S.box 1 rfl) tS_112) rfl fun a w G S=>?_
  refine S.s (τ:=IT y.sign) (OpR.call1 rfl c_66 (iSign_ok S.ok (S.g 0 rfl))) rfl fun a w G S=>?_
  refine S.s (OpR.ilss S.ok rfl (S.e 0 rfl) (rfl : _ = nv .i64 0) MT.self) rfl fun a w G S=>?_
  refine wn hK ?_;clear hK K
  replace S:=S.d2.d1
  refine S.cond 0 rfl (fun hc4=>?_) (fun hc4=>?_)
  ·
   have hp5:=of_decide_eq_true hc4
   have hys : y < 0:=by have:=sgn_cases (y);omega
   refine S.drawn [⟨14,.g (W n x),[]⟩,⟨15,.g (WC n (-x)),[0]⟩,⟨16,.g (W m y),[]⟩,⟨17,.g (WC m (-y)),[2]⟩] mixedOrders (by kernel_rfl)
    ⟨fun a w G S=>.of rfl (OpR.ldBox S.ok rfl (S.e 4 rfl) (S.box 2 rfl) tS_112),
     fun a w G S=>.of rfl (OpR.call1 rfl c_81 (iNeg_ok S.ok (S.g 0 rfl))),
     fun a w G S=>.of rfl (OpR.ldBox S.ok rfl (S.e 3 rfl) (S.box 1 rfl) tS_112),
     fun a w G S=>.of rfl (OpR.call1 rfl c_81 (iNeg_ok S.ok (S.g 0 rfl))),trivial⟩ fun β a w G S=>?_
   replace S : St W0 G0 47 [(17,WC m (-y)),(15,WC n (-x)),(13,BT (decide (y.sign < 0))),(9,BT (decide (x.sign = 0))),(4,PB b4),(3,PB b3),(2,PB b2)] [⟨b4,24,some 3,MT.ex ((.agg #[.bool false,.slice none 0 0,.slice none 0 0] : Value))⟩,⟨b3,112,some 2,W m y⟩,⟨b2,112,some 2,W n x⟩] a _ _:=S.keep [0,2,4,5,6,7,8]
   refine S.store (τ:=WC n (-x)) 2 rfl rfl rfl rfl (S.e 6 rfl) tS_112 (S.g 1 rfl) (sh (τ:=WC n (-x)) (S.g 1 rfl)) fun w S=>?_
   replace S:=S.n2
   refine S.store (τ:=WC m (-y)) 1 rfl rfl rfl rfl (S.e 5 rfl) tS_112 (S.g 0 rfl) (sh (τ:=WC m (-y)) (S.g 0 rfl)) fun w S=>?_
   replace S:=S.n1
   refine wpList_nil ?_
   replace S:=S.d1.d0
   refine hK _ _ ?_;clear hK K
   refine wp_reg fun K hK=>?_
   refine S.s (OpR.ldBox S.ok rfl (S.e 4 rfl) (S.box 2 rfl) tS_112) rfl fun a w G S=>?_
   refine S.s (OpR.ldBox S.ok rfl (S.e 4 rfl) (S.box 1 rfl) tS_112) rfl fun a w G S=>?_
   refine S.s (τ:=WC (max n m) ((Nat.gcd (-x).natAbs (-y).natAbs : Nat) : Int)) (OpR.call2 rfl c_95 (iGcd_ok S.ok (WC.toW (S.g 1 rfl)) (WC.toW (S.g 0 rfl)) (by omega) (by omega))) rfl fun a w G S=>?_
   refine S.alloc rfl rfl rfl z_112 zs_112 rfl rfl fun b5 a w G S=>?_
   refine S.store (τ:=WC (max n m) ((Nat.gcd (-x).natAbs (-y).natAbs : Nat) : Int)) 0 rfl rfl rfl rfl (S.e 0 rfl) tS_112 (S.g 1 rfl) (sh (τ:=WC (max n m) ((Nat.gcd (-x).natAbs (-y).natAbs : Nat) : Int)) (S.g 1 rfl)) fun w S=>?_
   replace S:=S.n0
   refine wn hK ?_;clear hK K
   replace S:=S.d3.d2.d1
   refine wp_reg fun K hK=>?_
   refine S.s (OpR.ldBox S.ok rfl (S.e 5 rfl) (S.box 3 rfl) tS_112) rfl fun a w G S=>?_
   refine S.s (τ:=IT ((-x).sign)) (OpR.call1 rfl c_66 (iSign_ok S.ok (WC.toW (S.g 0 rfl)))) rfl fun a w G S=>?_
   refine S.s (OpR.ilss S.ok rfl (S.e 0 rfl) (rfl : _ = nv .i64 0) MT.self) rfl fun a w G S=>?_
   refine S.q rfl (S.g 0 rfl) rfl fun a w G S=>?_
   refine wn hK ?_;clear hK K
   replace S:=S.d3.d2.d1
   refine wp_seq_k fun K hK=>?_
   refine wp_reg fun K hK=>?_
   refine S.m rfl (S.g 0 rfl) rfl fun a w G S=>?_
   refine wn hK ?_;clear hK K
   refine S.cond 0 rfl (fun hc6=>?_) (fun hc6=>?_)
   ·
    have hp7:=of_decide_eq_true hc6
    have hxs : (-x) < 0:=by have:=sgn_cases ((-x));omega
    refine wp_region_lit ?_
    refine S.s (OpR.ldBox S.ok rfl (S.e 7 rfl) (S.box 3 rfl) tS_112) rfl fun a w G S=>?_
    refine S.s (τ:=WC n (-(-x))) (OpR.call1 rfl c_81 (iNeg_ok S.ok (WC.toW (S.g 0 rfl)))) rfl fun a w G S=>?_
    refine S.store (τ:=WC n (-(-x))) 3 rfl rfl rfl rfl (S.e 9 rfl) tS_112 (S.g 0 rfl) (sh (τ:=WC n (-(-x))) (S.g 0 rfl)) fun w S=>?_
    replace S:=S.n3
    refine wpList_nil ?_
    replace S:=S.d1.d0
    refine hK _ _ ?_;clear hK K
    refine wp_reg fun K hK=>?_
    refine S.s (OpR.ldBox S.ok rfl (S.e 7 rfl) (S.box 3 rfl) tS_112) rfl fun a w G S=>?_
    refine S.s (OpR.ldBox S.ok rfl (S.e 3 rfl) (S.box 0 rfl) tS_112) rfl fun a w G S=>?_
    refine S.s (τ:=MT.tup3 (WC n ((-(-x)) / (((Nat.gcd (-x).natAbs (-y).natAbs : Nat) : Int)))) (WC (max n m) (if (((Nat.gcd (-x).natAbs (-y).natAbs : Nat) : Int)) = 0 then 0 else (-(-x)) % (((Nat.gcd (-x).natAbs (-y).natAbs : Nat) : Int)))) (MT.ex (errV 70 (if (((Nat.gcd (-x).natAbs (-y).natAbs : Nat) : Int)) = 0 then 8 else 0)))) (OpR.call2 rfl c_108 (iDiv_ok S.ok (WC.toW (S.g 1 rfl)) (WC.toW (S.g 0 rfl)) (by omega) (by omega))) rfl fun a w G S=>?_
    refine S.m rfl (S.g 0 rfl) rfl fun a w G S=>?_
    refine S.s (OpR.ext3a S.ok rfl (S.g 0 rfl)) rfl fun a w G S=>?_
    refine S.s (OpR.ext3b S.ok rfl (S.g 1 rfl)) rfl fun a w G S=>?_
    refine S.s (OpR.ext3c S.ok rfl (S.g 2 rfl)) rfl fun a w G S=>?_
    refine S.store (τ:=WC n ((-(-x)) / (((Nat.gcd (-x).natAbs (-y).natAbs : Nat) : Int)))) 3 rfl rfl rfl rfl (S.e 14 rfl) tS_112 (S.g 2 rfl) (sh (τ:=WC n ((-(-x)) / (((Nat.gcd (-x).natAbs (-y).natAbs : Nat) : Int)))) (S.g 2 rfl)) fun w S=>?_
    replace S:=S.n3
    refine wn hK ?_;clear hK K
    replace S:=S.d6.d5.d4.d3.d2.d1.d0
    refine wp_reg fun K hK=>?_
    refine S.s (OpR.ldBox S.ok rfl (S.e 6 rfl) (S.box 2 rfl) tS_112) rfl fun a w G S=>?_
    refine S.s (OpR.ldBox S.ok rfl (S.e 3 rfl) (S.box 0 rfl) tS_112) rfl fun a w G S=>?_
    refine S.s (τ:=MT.tup3 (WC m ((-y) / (((Nat.gcd (-x).natAbs (-y).natAbs : Nat) : Int)))) (WC (max n m) (if (((Nat.gcd (-x).natAbs (-y).natAbs : Nat) : Int)) = 0 then 0 else (-y) % (((Nat.gcd (-x).natAbs (-y).natAbs : Nat) : Int)))) (MT.ex (errV 70 (if (((Nat.gcd (-x).natAbs (-y).natAbs : Nat) : Int)) = 0 then 8 else 0)))) (OpR.call2 rfl c_108 (iDiv_ok S.ok (WC.toW (S.g 1 rfl)) (WC.toW (S.g 0 rfl)) (by omega) (by omega))) rfl fun a w G S=>?_
    refine S.m rfl (S.g 0 rfl) rfl fun a w G S=>?_
    refine S.s (OpR.ext3a S.ok rfl (S.g 0 rfl)) rfl fun a w G S=>?_
    refine S.s (OpR.ext3b S.ok rfl (S.g 1 rfl)) rfl fun a w G S=>?_
    refine S.s (OpR.ext3c S.ok rfl (S.g 2 rfl)) rfl fun a w G S=>?_
    refine S.store (τ:=WC m ((-y) / (((Nat.gcd (-x).natAbs (-y).natAbs : Nat) : Int)))) 2 rfl rfl rfl rfl (S.e 13 rfl) tS_112 (S.g 2 rfl) (sh (τ:=WC m ((-y) / (((Nat.gcd (-x).natAbs (-y).natAbs : Nat) : Int)))) (S.g 2 rfl)) fun w S=>?_
    replace S:=S.n2
    refine wn hK ?_;clear hK K
    replace S:=S.d6.d5.d4.d3.d2.d1.d0
    refine wp_reg fun K hK=>?_
    refine S.m rfl (S.g 1 rfl) rfl fun a w G S=>?_
    refine S.s (τ:=MT.ex (Value.pointer (some ⟨b2,1,none⟩))) (OpR.fldA S.ok rfl (S.e 8 rfl) fo_112_1 rfl) rfl fun a w G S=>?_
    refine S.s (OpR.ldCell S.ok rfl (S.e 0 rfl) (S.box 3 rfl) tS_22 fun _ h hs=>WC.f1 h hs) rfl fun a w G S=>?_
    refine S.s (τ:=MT.ex (Value.pointer (some ⟨b3,1,none⟩))) (OpR.fldA S.ok rfl (S.e 9 rfl) fo_112_1 rfl) rfl fun a w G S=>?_
    refine S.s (OpR.ldCell S.ok rfl (S.e 0 rfl) (S.box 2 rfl) tS_22 fun _ h hs=>WC.f1 h hs) rfl fun a w G S=>?_
    refine S.s (τ:=QR (decide (((-x).sign) < 0)) (words ((-(-x)) / (((Nat.gcd (-x).natAbs (-y).natAbs : Nat) : Int))).natAbs) (words ((-y) / (((Nat.gcd (-x).natAbs (-y).natAbs : Nat) : Int))).natAbs)) (OpR.bQR S.ok rfl bt_24_012 (S.e 4 rfl) (S.g 2 rfl) (S.g 0 rfl)) rfl fun a w G S=>?_
    refine S.store (τ:=QR (decide (((-x).sign) < 0)) (words ((-(-x)) / (((Nat.gcd (-x).natAbs (-y).natAbs : Nat) : Int))).natAbs) (words ((-y) / (((Nat.gcd (-x).natAbs (-y).natAbs : Nat) : Int))).natAbs)) 1 rfl rfl rfl rfl (S.e 11 rfl) tS_24 (S.g 0 rfl) (sh (τ:=QR (decide (((-x).sign) < 0)) (words ((-(-x)) / (((Nat.gcd (-x).natAbs (-y).natAbs : Nat) : Int))).natAbs) (words ((-y) / (((Nat.gcd (-x).natAbs (-y).natAbs : Nat) : Int))).natAbs)) (S.g 0 rfl)) fun w S=>?_
    replace S:=S.n1
    refine wn hK ?_;clear hK K
    replace S:=S.d5.d4.d3.d2.d1.d0
    exact wp_ret (S.retCell (i:=1) rfl (S.e 5 rfl) rfl tS_24 (fun _ h=>(QC.form h hx0 hy (by omega) (by omega) (by first | rfl | simp) (by rw [sgn_dec];simp [hys]) hxl hyl)))
   ·
    have hp8:=of_decide_eq_false hc6
    have hxs : ¬ (-x) < 0:=by have:=sgn_cases ((-x));omega
    refine wp_skip ?_
    refine hK _ _ ?_;clear hK K
    refine wp_reg fun K hK=>?_
    refine S.s (OpR.ldBox S.ok rfl (S.e 7 rfl) (S.box 3 rfl) tS_112) rfl fun a w G S=>?_
    refine S.s (OpR.ldBox S.ok rfl (S.e 3 rfl) (S.box 0 rfl) tS_112) rfl fun a w G S=>?_
    refine S.s (τ:=MT.tup3 (WC n ((-x) / (((Nat.gcd (-x).natAbs (-y).natAbs : Nat) : Int)))) (WC (max n m) (if (((Nat.gcd (-x).natAbs (-y).natAbs : Nat) : Int)) = 0 then 0 else (-x) % (((Nat.gcd (-x).natAbs (-y).natAbs : Nat) : Int)))) (MT.ex (errV 70 (if (((Nat.gcd (-x).natAbs (-y).natAbs : Nat) : Int)) = 0 then 8 else 0)))) (OpR.call2 rfl c_108 (iDiv_ok S.ok (WC.toW (S.g 1 rfl)) (WC.toW (S.g 0 rfl)) (by omega) (by omega))) rfl fun a w G S=>?_
    refine S.m rfl (S.g 0 rfl) rfl fun a w G S=>?_
    refine S.s (OpR.ext3a S.ok rfl (S.g 0 rfl)) rfl fun a w G S=>?_
    refine S.s (OpR.ext3b S.ok rfl (S.g 1 rfl)) rfl fun a w G S=>?_
    refine S.s (OpR.ext3c S.ok rfl (S.g 2 rfl)) rfl fun a w G S=>?_
    refine S.store (τ:=WC n ((-x) / (((Nat.gcd (-x).natAbs (-y).natAbs : Nat) : Int)))) 3 rfl rfl rfl rfl (S.e 14 rfl) tS_112 (S.g 2 rfl) (sh (τ:=WC n ((-x) / (((Nat.gcd (-x).natAbs (-y).natAbs : Nat) : Int)))) (S.g 2 rfl)) fun w S=>?_
    replace S:=S.n3
    refine wn hK ?_;clear hK K
    replace S:=S.d6.d5.d4.d3.d2.d1.d0
    refine wp_reg fun K hK=>?_
    refine S.s (OpR.ldBox S.ok rfl (S.e 6 rfl) (S.box 2 rfl) tS_112) rfl fun a w G S=>?_
    refine S.s (OpR.ldBox S.ok rfl (S.e 3 rfl) (S.box 0 rfl) tS_112) rfl fun a w G S=>?_
    refine S.s (τ:=MT.tup3 (WC m ((-y) / (((Nat.gcd (-x).natAbs (-y).natAbs : Nat) : Int)))) (WC (max n m) (if (((Nat.gcd (-x).natAbs (-y).natAbs : Nat) : Int)) = 0 then 0 else (-y) % (((Nat.gcd (-x).natAbs (-y).natAbs : Nat) : Int)))) (MT.ex (errV 70 (if (((Nat.gcd (-x).natAbs (-y).natAbs : Nat) : Int)) = 0 then 8 else 0)))) (OpR.call2 rfl c_108 (iDiv_ok S.ok (WC.toW (S.g 1 rfl)) (WC.toW (S.g 0 rfl)) (by omega) (by omega))) rfl fun a w G S=>?_
    refine S.m rfl (S.g 0 rfl) rfl fun a w G S=>?_
    refine S.s (OpR.ext3a S.ok rfl (S.g 0 rfl)) rfl fun a w G S=>?_
    refine S.s (OpR.ext3b S.ok rfl (S.g 1 rfl)) rfl fun a w G S=>?_
    refine S.s (OpR.ext3c S.ok rfl (S.g 2 rfl)) rfl fun a w G S=>?_
    refine S.store (τ:=WC m ((-y) / (((Nat.gcd (-x).natAbs (-y).natAbs : Nat) : Int)))) 2 rfl rfl rfl rfl (S.e 13 rfl) tS_112 (S.g 2 rfl) (sh (τ:=WC m ((-y) / (((Nat.gcd (-x).natAbs (-y).natAbs : Nat) : Int)))) (S.g 2 rfl)) fun w S=>?_
    replace S:=S.n2
    refine wn hK ?_;clear hK K
    replace S:=S.d6.d5.d4.d3.d2.d1.d0
    refine wp_reg fun K hK=>?_
    refine S.m rfl (S.g 1 rfl) rfl fun a w G S=>?_
    refine S.s (τ:=MT.ex (Value.pointer (some ⟨b2,1,none⟩))) (OpR.fldA S.ok rfl (S.e 8 rfl) fo_112_1 rfl) rfl fun a w G S=>?_
    refine S.s (OpR.ldCell S.ok rfl (S.e 0 rfl) (S.box 3 rfl) tS_22 fun _ h hs=>WC.f1 h hs) rfl fun a w G S=>?_
    refine S.s (τ:=MT.ex (Value.pointer (some ⟨b3,1,none⟩))) (OpR.fldA S.ok rfl (S.e 9 rfl) fo_112_1 rfl) rfl fun a w G S=>?_
    refine S.s (OpR.ldCell S.ok rfl (S.e 0 rfl) (S.box 2 rfl) tS_22 fun _ h hs=>WC.f1 h hs) rfl fun a w G S=>?_
    refine S.s (τ:=QR (decide (((-x).sign) < 0)) (words ((-x) / (((Nat.gcd (-x).natAbs (-y).natAbs : Nat) : Int))).natAbs) (words ((-y) / (((Nat.gcd (-x).natAbs (-y).natAbs : Nat) : Int))).natAbs)) (OpR.bQR S.ok rfl bt_24_012 (S.e 4 rfl) (S.g 2 rfl) (S.g 0 rfl)) rfl fun a w G S=>?_
    refine S.store (τ:=QR (decide (((-x).sign) < 0)) (words ((-x) / (((Nat.gcd (-x).natAbs (-y).natAbs : Nat) : Int))).natAbs) (words ((-y) / (((Nat.gcd (-x).natAbs (-y).natAbs : Nat) : Int))).natAbs)) 1 rfl rfl rfl rfl (S.e 11 rfl) tS_24 (S.g 0 rfl) (sh (τ:=QR (decide (((-x).sign) < 0)) (words ((-x) / (((Nat.gcd (-x).natAbs (-y).natAbs : Nat) : Int))).natAbs) (words ((-y) / (((Nat.gcd (-x).natAbs (-y).natAbs : Nat) : Int))).natAbs)) (S.g 0 rfl)) fun w S=>?_
    replace S:=S.n1
    refine wn hK ?_;clear hK K
    replace S:=S.d5.d4.d3.d2.d1.d0
    exact wp_ret (S.retCell (i:=1) rfl (S.e 5 rfl) rfl tS_24 (fun _ h=>(QC.form h hx0 hy (by omega) (by omega) (by first | rfl | simp) (by rw [sgn_dec];simp [hys]) hxl hyl)))
  ·
   have hp9:=of_decide_eq_false hc4
   have hys : ¬ y < 0:=by have:=sgn_cases (y);omega
   refine wp_skip ?_
   refine hK _ _ ?_;clear hK K
   refine wp_reg fun K hK=>?_
   refine S.s (OpR.ldBox S.ok rfl (S.e 4 rfl) (S.box 2 rfl) tS_112) rfl fun a w G S=>?_
   refine S.s (OpR.ldBox S.ok rfl (S.e 4 rfl) (S.box 1 rfl) tS_112) rfl fun a w G S=>?_
   refine S.s (τ:=WC (max n m) ((Nat.gcd x.natAbs y.natAbs : Nat) : Int)) (OpR.call2 rfl c_95 (iGcd_ok S.ok (S.g 1 rfl) (S.g 0 rfl) (by omega) (by omega))) rfl fun a w G S=>?_
   refine S.alloc rfl rfl rfl z_112 zs_112 rfl rfl fun b5 a w G S=>?_
   refine S.store (τ:=WC (max n m) ((Nat.gcd x.natAbs y.natAbs : Nat) : Int)) 0 rfl rfl rfl rfl (S.e 0 rfl) tS_112 (S.g 1 rfl) (sh (τ:=WC (max n m) ((Nat.gcd x.natAbs y.natAbs : Nat) : Int)) (S.g 1 rfl)) fun w S=>?_
   replace S:=S.n0
   refine wn hK ?_;clear hK K
   replace S:=S.d3.d2.d1
   refine wp_reg fun K hK=>?_
   refine S.s (OpR.ldBox S.ok rfl (S.e 5 rfl) (S.box 3 rfl) tS_112) rfl fun a w G S=>?_
   refine S.s (τ:=IT x.sign) (OpR.call1 rfl c_66 (iSign_ok S.ok (S.g 0 rfl))) rfl fun a w G S=>?_
   refine S.s (OpR.ilss S.ok rfl (S.e 0 rfl) (rfl : _ = nv .i64 0) MT.self) rfl fun a w G S=>?_
   refine S.q rfl (S.g 0 rfl) rfl fun a w G S=>?_
   refine wn hK ?_;clear hK K
   replace S:=S.d3.d2.d1
   refine wp_seq_k fun K hK=>?_
   refine wp_reg fun K hK=>?_
   refine S.m rfl (S.g 0 rfl) rfl fun a w G S=>?_
   refine wn hK ?_;clear hK K
   refine S.cond 0 rfl (fun hc10=>?_) (fun hc10=>?_)
   ·
    have hp11:=of_decide_eq_true hc10
    have hxs : x < 0:=by have:=sgn_cases (x);omega
    refine wp_region_lit ?_
    refine S.s (OpR.ldBox S.ok rfl (S.e 7 rfl) (S.box 3 rfl) tS_112) rfl fun a w G S=>?_
    refine S.s (τ:=WC n (-x)) (OpR.call1 rfl c_81 (iNeg_ok S.ok (S.g 0 rfl))) rfl fun a w G S=>?_
    refine S.store (τ:=WC n (-x)) 3 rfl rfl rfl rfl (S.e 9 rfl) tS_112 (S.g 0 rfl) (sh (τ:=WC n (-x)) (S.g 0 rfl)) fun w S=>?_
    replace S:=S.n3
    refine wpList_nil ?_
    replace S:=S.d1.d0
    refine hK _ _ ?_;clear hK K
    refine wp_reg fun K hK=>?_
    refine S.s (OpR.ldBox S.ok rfl (S.e 7 rfl) (S.box 3 rfl) tS_112) rfl fun a w G S=>?_
    refine S.s (OpR.ldBox S.ok rfl (S.e 3 rfl) (S.box 0 rfl) tS_112) rfl fun a w G S=>?_
    refine S.s (τ:=MT.tup3 (WC n ((-x) / (((Nat.gcd x.natAbs y.natAbs : Nat) : Int)))) (WC (max n m) (if (((Nat.gcd x.natAbs y.natAbs : Nat) : Int)) = 0 then 0 else (-x) % (((Nat.gcd x.natAbs y.natAbs : Nat) : Int)))) (MT.ex (errV 70 (if (((Nat.gcd x.natAbs y.natAbs : Nat) : Int)) = 0 then 8 else 0)))) (OpR.call2 rfl c_108 (iDiv_ok S.ok (WC.toW (S.g 1 rfl)) (WC.toW (S.g 0 rfl)) (by omega) (by omega))) rfl fun a w G S=>?_
    refine S.m rfl (S.g 0 rfl) rfl fun a w G S=>?_
    refine S.s (OpR.ext3a S.ok rfl (S.g 0 rfl)) rfl fun a w G S=>?_
    refine S.s (OpR.ext3b S.ok rfl (S.g 1 rfl)) rfl fun a w G S=>?_
    refine S.s (OpR.ext3c S.ok rfl (S.g 2 rfl)) rfl fun a w G S=>?_
    refine S.store (τ:=WC n ((-x) / (((Nat.gcd x.natAbs y.natAbs : Nat) : Int)))) 3 rfl rfl rfl rfl (S.e 14 rfl) tS_112 (S.g 2 rfl) (sh (τ:=WC n ((-x) / (((Nat.gcd x.natAbs y.natAbs : Nat) : Int)))) (S.g 2 rfl)) fun w S=>?_
    replace S:=S.n3
    refine wn hK ?_;clear hK K
    replace S:=S.d6.d5.d4.d3.d2.d1.d0
    refine wp_reg fun K hK=>?_
    refine S.s (OpR.ldBox S.ok rfl (S.e 6 rfl) (S.box 2 rfl) tS_112) rfl fun a w G S=>?_
    refine S.s (OpR.ldBox S.ok rfl (S.e 3 rfl) (S.box 0 rfl) tS_112) rfl fun a w G S=>?_
    refine S.s (τ:=MT.tup3 (WC m (y / (((Nat.gcd x.natAbs y.natAbs : Nat) : Int)))) (WC (max n m) (if (((Nat.gcd x.natAbs y.natAbs : Nat) : Int)) = 0 then 0 else y % (((Nat.gcd x.natAbs y.natAbs : Nat) : Int)))) (MT.ex (errV 70 (if (((Nat.gcd x.natAbs y.natAbs : Nat) : Int)) = 0 then 8 else 0)))) (OpR.call2 rfl c_108 (iDiv_ok S.ok (S.g 1 rfl) (WC.toW (S.g 0 rfl)) (by omega) (by omega))) rfl fun a w G S=>?_
    refine S.m rfl (S.g 0 rfl) rfl fun a w G S=>?_
    refine S.s (OpR.ext3a S.ok rfl (S.g 0 rfl)) rfl fun a w G S=>?_
    refine S.s (OpR.ext3b S.ok rfl (S.g 1 rfl)) rfl fun a w G S=>?_
    refine S.s (OpR.ext3c S.ok rfl (S.g 2 rfl)) rfl fun a w G S=>?_
    refine S.store (τ:=WC m (y / (((Nat.gcd x.natAbs y.natAbs : Nat) : Int)))) 2 rfl rfl rfl rfl (S.e 13 rfl) tS_112 (S.g 2 rfl) (sh (τ:=WC m (y / (((Nat.gcd x.natAbs y.natAbs : Nat) : Int)))) (S.g 2 rfl)) fun w S=>?_
    replace S:=S.n2
    refine wn hK ?_;clear hK K
    replace S:=S.d6.d5.d4.d3.d2.d1.d0
    refine wp_reg fun K hK=>?_
    refine S.m rfl (S.g 1 rfl) rfl fun a w G S=>?_
    refine S.s (τ:=MT.ex (Value.pointer (some ⟨b2,1,none⟩))) (OpR.fldA S.ok rfl (S.e 8 rfl) fo_112_1 rfl) rfl fun a w G S=>?_
    refine S.s (OpR.ldCell S.ok rfl (S.e 0 rfl) (S.box 3 rfl) tS_22 fun _ h hs=>WC.f1 h hs) rfl fun a w G S=>?_
    refine S.s (τ:=MT.ex (Value.pointer (some ⟨b3,1,none⟩))) (OpR.fldA S.ok rfl (S.e 9 rfl) fo_112_1 rfl) rfl fun a w G S=>?_
    refine S.s (OpR.ldCell S.ok rfl (S.e 0 rfl) (S.box 2 rfl) tS_22 fun _ h hs=>WC.f1 h hs) rfl fun a w G S=>?_
    refine S.s (τ:=QR (decide (x.sign < 0)) (words ((-x) / (((Nat.gcd x.natAbs y.natAbs : Nat) : Int))).natAbs) (words (y / (((Nat.gcd x.natAbs y.natAbs : Nat) : Int))).natAbs)) (OpR.bQR S.ok rfl bt_24_012 (S.e 4 rfl) (S.g 2 rfl) (S.g 0 rfl)) rfl fun a w G S=>?_
    refine S.store (τ:=QR (decide (x.sign < 0)) (words ((-x) / (((Nat.gcd x.natAbs y.natAbs : Nat) : Int))).natAbs) (words (y / (((Nat.gcd x.natAbs y.natAbs : Nat) : Int))).natAbs)) 1 rfl rfl rfl rfl (S.e 11 rfl) tS_24 (S.g 0 rfl) (sh (τ:=QR (decide (x.sign < 0)) (words ((-x) / (((Nat.gcd x.natAbs y.natAbs : Nat) : Int))).natAbs) (words (y / (((Nat.gcd x.natAbs y.natAbs : Nat) : Int))).natAbs)) (S.g 0 rfl)) fun w S=>?_
    replace S:=S.n1
    refine wn hK ?_;clear hK K
    replace S:=S.d5.d4.d3.d2.d1.d0
    exact wp_ret (S.retCell (i:=1) rfl (S.e 5 rfl) rfl tS_24 (fun _ h=>(QC.form h hx0 hy (by omega) (by omega) (by first | rfl | simp) (by rw [sgn_dec];simp [hys]) hxl hyl)))
   ·
    have hp12:=of_decide_eq_false hc10
    have hxs : ¬ x < 0:=by have:=sgn_cases (x);omega
    refine wp_skip ?_
    refine hK _ _ ?_;clear hK K
    refine wp_reg fun K hK=>?_
    refine S.s (OpR.ldBox S.ok rfl (S.e 7 rfl) (S.box 3 rfl) tS_112) rfl fun a w G S=>?_
    refine S.s (OpR.ldBox S.ok rfl (S.e 3 rfl) (S.box 0 rfl) tS_112) rfl fun a w G S=>?_
    refine S.s (τ:=MT.tup3 (WC n (x / (((Nat.gcd x.natAbs y.natAbs : Nat) : Int)))) (WC (max n m) (if (((Nat.gcd x.natAbs y.natAbs : Nat) : Int)) = 0 then 0 else x % (((Nat.gcd x.natAbs y.natAbs : Nat) : Int)))) (MT.ex (errV 70 (if (((Nat.gcd x.natAbs y.natAbs : Nat) : Int)) = 0 then 8 else 0)))) (OpR.call2 rfl c_108 (iDiv_ok S.ok (S.g 1 rfl) (WC.toW (S.g 0 rfl)) (by omega) (by omega))) rfl fun a w G S=>?_
    refine S.m rfl (S.g 0 rfl) rfl fun a w G S=>?_
    refine S.s (OpR.ext3a S.ok rfl (S.g 0 rfl)) rfl fun a w G S=>?_
    refine S.s (OpR.ext3b S.ok rfl (S.g 1 rfl)) rfl fun a w G S=>?_
    refine S.s (OpR.ext3c S.ok rfl (S.g 2 rfl)) rfl fun a w G S=>?_
    refine S.store (τ:=WC n (x / (((Nat.gcd x.natAbs y.natAbs : Nat) : Int)))) 3 rfl rfl rfl rfl (S.e 14 rfl) tS_112 (S.g 2 rfl) (sh (τ:=WC n (x / (((Nat.gcd x.natAbs y.natAbs : Nat) : Int)))) (S.g 2 rfl)) fun w S=>?_
    replace S:=S.n3
    refine wn hK ?_;clear hK K
    replace S:=S.d6.d5.d4.d3.d2.d1.d0
    refine wp_reg fun K hK=>?_
    refine S.s (OpR.ldBox S.ok rfl (S.e 6 rfl) (S.box 2 rfl) tS_112) rfl fun a w G S=>?_
    refine S.s (OpR.ldBox S.ok rfl (S.e 3 rfl) (S.box 0 rfl) tS_112) rfl fun a w G S=>?_
    refine S.s (τ:=MT.tup3 (WC m (y / (((Nat.gcd x.natAbs y.natAbs : Nat) : Int)))) (WC (max n m) (if (((Nat.gcd x.natAbs y.natAbs : Nat) : Int)) = 0 then 0 else y % (((Nat.gcd x.natAbs y.natAbs : Nat) : Int)))) (MT.ex (errV 70 (if (((Nat.gcd x.natAbs y.natAbs : Nat) : Int)) = 0 then 8 else 0)))) (OpR.call2 rfl c_108 (iDiv_ok S.ok (S.g 1 rfl) (WC.toW (S.g 0 rfl)) (by omega) (by omega))) rfl fun a w G S=>?_
    refine S.m rfl (S.g 0 rfl) rfl fun a w G S=>?_
    refine S.s (OpR.ext3a S.ok rfl (S.g 0 rfl)) rfl fun a w G S=>?_
    refine S.s (OpR.ext3b S.ok rfl (S.g 1 rfl)) rfl fun a w G S=>?_
    refine S.s (OpR.ext3c S.ok rfl (S.g 2 rfl)) rfl fun a w G S=>?_
    refine S.store (τ:=WC m (y / (((Nat.gcd x.natAbs y.natAbs : Nat) : Int)))) 2 rfl rfl rfl rfl (S.e 13 rfl) tS_112 (S.g 2 rfl) (sh (τ:=WC m (y / (((Nat.gcd x.natAbs y.natAbs : Nat) : Int)))) (S.g 2 rfl)) fun w S=>?_
    replace S:=S.n2
    refine wn hK ?_;clear hK K
    replace S:=S.d6.d5.d4.d3.d2.d1.d0
    refine wp_reg fun K hK=>?_
    refine S.m rfl (S.g 1 rfl) rfl fun a w G S=>?_
    refine S.s (τ:=MT.ex (Value.pointer (some ⟨b2,1,none⟩))) (OpR.fldA S.ok rfl (S.e 8 rfl) fo_112_1 rfl) rfl fun a w G S=>?_
    refine S.s (OpR.ldCell S.ok rfl (S.e 0 rfl) (S.box 3 rfl) tS_22 fun _ h hs=>WC.f1 h hs) rfl fun a w G S=>?_
    refine S.s (τ:=MT.ex (Value.pointer (some ⟨b3,1,none⟩))) (OpR.fldA S.ok rfl (S.e 9 rfl) fo_112_1 rfl) rfl fun a w G S=>?_
    refine S.s (OpR.ldCell S.ok rfl (S.e 0 rfl) (S.box 2 rfl) tS_22 fun _ h hs=>WC.f1 h hs) rfl fun a w G S=>?_
    refine S.s (τ:=QR (decide (x.sign < 0)) (words (x / (((Nat.gcd x.natAbs y.natAbs : Nat) : Int))).natAbs) (words (y / (((Nat.gcd x.natAbs y.natAbs : Nat) : Int))).natAbs)) (OpR.bQR S.ok rfl bt_24_012 (S.e 4 rfl) (S.g 2 rfl) (S.g 0 rfl)) rfl fun a w G S=>?_
    refine S.store (τ:=QR (decide (x.sign < 0)) (words (x / (((Nat.gcd x.natAbs y.natAbs : Nat) : Int))).natAbs) (words (y / (((Nat.gcd x.natAbs y.natAbs : Nat) : Int))).natAbs)) 1 rfl rfl rfl rfl (S.e 11 rfl) tS_24 (S.g 0 rfl) (sh (τ:=QR (decide (x.sign < 0)) (words (x / (((Nat.gcd x.natAbs y.natAbs : Nat) : Int))).natAbs) (words (y / (((Nat.gcd x.natAbs y.natAbs : Nat) : Int))).natAbs)) (S.g 0 rfl)) fun w S=>?_
    replace S:=S.n1
    refine wn hK ?_;clear hK K
    replace S:=S.d5.d4.d3.d2.d1.d0
    exact wp_ret (S.retCell (i:=1) rfl (S.e 5 rfl) rfl tS_24 (fun _ h=>(QC.form h hx0 hy (by omega) (by omega) (by first | rfl | simp) (by rw [sgn_dec];simp [hys]) hxl hyl)))
end Go.Proofs.YtpbkcbnghhodiaaGreat
namespace Go.Proofs.YtpbkcbnghhodiaaGreat
set_option maxHeartbeats 1000000
set_option maxRecDepth 100000
open Go.RowKit (Below)
private theorem c_47 : callable Tryz.prog 47 = true:=by kernel_rfl
private theorem c_48 : callable Tryz.prog 48 = true:=by kernel_rfl
private theorem c_65 : callable Tryz.prog 65 = true:=by kernel_rfl
private theorem c_75 : callable Tryz.prog 75 = true:=by kernel_rfl
private theorem c_76 : callable Tryz.prog 76 = true:=by kernel_rfl
private theorem c_80 : callable Tryz.prog 80 = true:=by kernel_rfl
theorem fMul_ok {n m : Nat} {x y : Rat} {v1 v2 : Value} {W0 : World} {G0 : Gh} (hok : Gok W0 G0) (h1 : (QV n x).t v1 G0) (h2 : (QV m y).t v2 G0) (hn : n + m ≤ BIG) : Calls Tryz.prog 43 #[v1,v2] W0 (Ret W0 G0 (QC (n + m) (x * y))):=by
 refine St.enter (N:=26) (L:=[(1,QV m y),(0,QV n x)]) (args:=[v1,v2]) Tryz.func43 rfl rfl rfl hok (enter2 h1 h2) fun a S=>?_
 refine wp_reg fun K hK=>?_
 refine S.boxop (x:=.tmp 0) (τ:=QV n x) (S.g 1 rfl) (sh (τ:=QV n x) (S.g 1 rfl)) rfl rfl rfl rfl rfl fun b2 a w G S=>?_
 refine S.boxop (x:=.tmp 1) (τ:=QV m y) (S.g 1 rfl) (sh (τ:=QV m y) (S.g 1 rfl)) rfl rfl rfl rfl rfl fun b3 a w G S=>?_
 refine S.alloc rfl rfl rfl z_24 zs_24 rfl rfl fun b4 a w G S=>?_
 refine wn hK ?_;clear hK K
 replace S:=S.d4.d3
 refine wp_reg fun K hK=>?_
 refine S.s (OpR.ldBox S.ok rfl (S.e 2 rfl) (S.box 2 rfl) tS_24) rfl fun a w G S=>?_
 refine S.s (τ:=MT.tup2 (WC n x.num) (WC n ((x.den : Nat) : Int))) (OpR.call1 rfl c_65 (fParts_ok S.ok (S.g 0 rfl) (by omega))) rfl fun a w G S=>?_
 refine S.m rfl (S.g 0 rfl) rfl fun a w G S=>?_
 refine S.s (OpR.ext2a S.ok rfl (S.g 0 rfl)) rfl fun a w G S=>?_
 refine S.s (OpR.ext2b S.ok rfl (S.g 1 rfl)) rfl fun a w G S=>?_
 refine S.alloc rfl rfl rfl z_112 zs_112 rfl rfl fun b5 a w G S=>?_
 refine S.alloc rfl rfl rfl z_112 zs_112 rfl rfl fun b6 a w G S=>?_
 refine S.store (τ:=WC n x.num) 1 rfl rfl rfl rfl (S.e 1 rfl) tS_112 (S.g 3 rfl) (sh (τ:=WC n x.num) (S.g 3 rfl)) fun w S=>?_
 replace S:=S.n1
 refine S.store (τ:=WC n ((x.den : Nat) : Int)) 0 rfl rfl rfl rfl (S.e 0 rfl) tS_112 (S.g 2 rfl) (sh (τ:=WC n ((x.den : Nat) : Int)) (S.g 2 rfl)) fun w S=>?_
 replace S:=S.n0
 refine wn hK ?_;clear hK K
 replace S:=S.d9.d6.d5.d4.d3.d2
 refine wp_reg fun K hK=>?_
 refine S.s (OpR.ldBox S.ok rfl (S.e 3 rfl) (S.box 3 rfl) tS_24) rfl fun a w G S=>?_
 refine S.s (τ:=MT.tup2 (WC m y.num) (WC m ((y.den : Nat) : Int))) (OpR.call1 rfl c_65 (fParts_ok S.ok (S.g 0 rfl) (by omega))) rfl fun a w G S=>?_
 refine S.m rfl (S.g 0 rfl) rfl fun a w G S=>?_
 refine S.s (OpR.ext2a S.ok rfl (S.g 0 rfl)) rfl fun a w G S=>?_
 refine S.s (OpR.ext2b S.ok rfl (S.g 1 rfl)) rfl fun a w G S=>?_
 refine S.alloc rfl rfl rfl z_112 zs_112 rfl rfl fun b7 a w G S=>?_
 refine S.alloc rfl rfl rfl z_112 zs_112 rfl rfl fun b8 a w G S=>?_
 refine S.store (τ:=WC m y.num) 1 rfl rfl rfl rfl (S.e 1 rfl) tS_112 (S.g 3 rfl) (sh (τ:=WC m y.num) (S.g 3 rfl)) fun w S=>?_
 replace S:=S.n1
 refine S.store (τ:=WC m ((y.den : Nat) : Int)) 0 rfl rfl rfl rfl (S.e 0 rfl) tS_112 (S.g 2 rfl) (sh (τ:=WC m ((y.den : Nat) : Int)) (S.g 2 rfl)) fun w S=>?_
 replace S:=S.n0
 refine wn hK ?_;clear hK K
 replace S:=S.d10.d6.d5.d4.d3.d2
 refine wp_seq_k fun K hK=>?_
 refine S.drawn [⟨19,.g (WC n x.num),[]⟩,⟨20,.g (WC m y.num),[]⟩,⟨21,.g (WC (n + m) ((x.num) * (y.num))),[0,1]⟩,⟨22,.g (WC n ((x.den : Nat) : Int)),[]⟩,⟨23,.g (WC m ((y.den : Nat) : Int)),[]⟩,⟨24,.g (WC (n + m) ((((x.den : Nat) : Int)) * (((y.den : Nat) : Int)))),[3,4]⟩,⟨25,.g (QC (max (n + m) (n + m)) (Rat.divInt ((x.num) * (y.num)) ((((x.den : Nat) : Int)) * (((y.den : Nat) : Int))))),[2,5]⟩] mixedOrders (by kernel_rfl)
  ⟨fun a w G S=>.of rfl (OpR.ldBox S.ok rfl (S.e 3 rfl) (S.box 3 rfl) tS_112),
   fun a w G S=>.of rfl (OpR.ldBox S.ok rfl (S.e 1 rfl) (S.box 1 rfl) tS_112),
   fun a w G S=>.of rfl (OpR.call2 rfl c_75 (iMul_ok S.ok (WC.toW (S.g 0 rfl)) (WC.toW (S.g 1 rfl)) (by omega))),
   fun a w G S=>.of rfl (OpR.ldBox S.ok rfl (S.e 2 rfl) (S.box 2 rfl) tS_112),
   fun a w G S=>.of rfl (OpR.ldBox S.ok rfl (S.e 0 rfl) (S.box 0 rfl) tS_112),
   fun a w G S=>.of rfl (OpR.call2 rfl c_75 (iMul_ok S.ok (WC.toW (S.g 0 rfl)) (WC.toW (S.g 1 rfl)) (by omega))),
   fun a w G S=>.of rfl (OpR.call2 rfl c_76 (fform_ok S.ok (WC.toW (S.g 0 rfl)) (WC.toW (S.g 1 rfl)) (Int.mul_ne_zero (den_ne x) (den_ne y)) (by omega) (by omega))),trivial⟩ fun β a w G S=>?_
 replace S : St W0 G0 26 [(25,QC (max (n + m) (n + m)) (Rat.divInt ((x.num) * (y.num)) ((((x.den : Nat) : Int)) * (((y.den : Nat) : Int))))),(8,PB b8),(7,PB b7),(6,PB b6),(5,PB b5),(4,PB b4)] [⟨b8,112,some 2,WC m ((y.den : Nat) : Int)⟩,⟨b7,112,some 2,WC m y.num⟩,⟨b6,112,some 2,WC n ((x.den : Nat) : Int)⟩,⟨b5,112,some 2,WC n x.num⟩,⟨b4,24,some 3,MT.ex ((.agg #[.bool false,.slice none 0 0,.slice none 0 0] : Value))⟩,⟨b3,24,some 3,QV m y⟩,⟨b2,24,some 3,QV n x⟩] a _ _:=S.keep [0,7,8,9,10,11]
 refine S.store (τ:=QC (max (n + m) (n + m)) (Rat.divInt ((x.num) * (y.num)) ((((x.den : Nat) : Int)) * (((y.den : Nat) : Int))))) 4 rfl rfl rfl rfl (S.e 5 rfl) tS_24 (S.g 0 rfl) (sh (τ:=QC (max (n + m) (n + m)) (Rat.divInt ((x.num) * (y.num)) ((((x.den : Nat) : Int)) * (((y.den : Nat) : Int))))) (S.g 0 rfl)) fun w S=>?_
 replace S:=S.n4
 refine wn hK ?_;clear hK K
 replace S:=S.d0
 exact wp_ret (S.retCell (i:=4) rfl (S.e 4 rfl) rfl tS_24 (fun _ h=>(QC.eq (QC.up h (by omega)) frac_mul)))
theorem fAdd_ok {n m : Nat} {x y : Rat} {v1 v2 : Value} {W0 : World} {G0 : Gh} (hok : Gok W0 G0) (h1 : (QV n x).t v1 G0) (h2 : (QV m y).t v2 G0) (hn : n + m + 1 ≤ BIG) : Calls Tryz.prog 47 #[v1,v2] W0 (Ret W0 G0 (QC (n + m + 1) (x + y))):=by
 refine St.enter (N:=30) (L:=[(1,QV m y),(0,QV n x)]) (args:=[v1,v2]) Tryz.func47 rfl rfl rfl hok (enter2 h1 h2) fun a S=>?_
 refine wp_reg fun K hK=>?_
 refine S.boxop (x:=.tmp 0) (τ:=QV n x) (S.g 1 rfl) (sh (τ:=QV n x) (S.g 1 rfl)) rfl rfl rfl rfl rfl fun b2 a w G S=>?_
 refine S.boxop (x:=.tmp 1) (τ:=QV m y) (S.g 1 rfl) (sh (τ:=QV m y) (S.g 1 rfl)) rfl rfl rfl rfl rfl fun b3 a w G S=>?_
 refine S.alloc rfl rfl rfl z_24 zs_24 rfl rfl fun b4 a w G S=>?_
 refine wn hK ?_;clear hK K
 replace S:=S.d4.d3
 refine wp_reg fun K hK=>?_
 refine S.s (OpR.ldBox S.ok rfl (S.e 2 rfl) (S.box 2 rfl) tS_24) rfl fun a w G S=>?_
 refine S.s (τ:=MT.tup2 (WC n x.num) (WC n ((x.den : Nat) : Int))) (OpR.call1 rfl c_65 (fParts_ok S.ok (S.g 0 rfl) (by omega))) rfl fun a w G S=>?_
 refine S.m rfl (S.g 0 rfl) rfl fun a w G S=>?_
 refine S.s (OpR.ext2a S.ok rfl (S.g 0 rfl)) rfl fun a w G S=>?_
 refine S.s (OpR.ext2b S.ok rfl (S.g 1 rfl)) rfl fun a w G S=>?_
 refine S.alloc rfl rfl rfl z_112 zs_112 rfl rfl fun b5 a w G S=>?_
 refine S.alloc rfl rfl rfl z_112 zs_112 rfl rfl fun b6 a w G S=>?_
 refine S.store (τ:=WC n x.num) 1 rfl rfl rfl rfl (S.e 1 rfl) tS_112 (S.g 3 rfl) (sh (τ:=WC n x.num) (S.g 3 rfl)) fun w S=>?_
 replace S:=S.n1
 refine S.store (τ:=WC n ((x.den : Nat) : Int)) 0 rfl rfl rfl rfl (S.e 0 rfl) tS_112 (S.g 2 rfl) (sh (τ:=WC n ((x.den : Nat) : Int)) (S.g 2 rfl)) fun w S=>?_
 replace S:=S.n0
 refine wn hK ?_;clear hK K
 replace S:=S.d9.d6.d5.d4.d3.d2
 refine wp_reg fun K hK=>?_
 refine S.s (OpR.ldBox S.ok rfl (S.e 3 rfl) (S.box 3 rfl) tS_24) rfl fun a w G S=>?_
 refine S.s (τ:=MT.tup2 (WC m y.num) (WC m ((y.den : Nat) : Int))) (OpR.call1 rfl c_65 (fParts_ok S.ok (S.g 0 rfl) (by omega))) rfl fun a w G S=>?_
 refine S.m rfl (S.g 0 rfl) rfl fun a w G S=>?_
 refine S.s (OpR.ext2a S.ok rfl (S.g 0 rfl)) rfl fun a w G S=>?_
 refine S.s (OpR.ext2b S.ok rfl (S.g 1 rfl)) rfl fun a w G S=>?_
 refine S.alloc rfl rfl rfl z_112 zs_112 rfl rfl fun b7 a w G S=>?_
 refine S.alloc rfl rfl rfl z_112 zs_112 rfl rfl fun b8 a w G S=>?_
 refine S.store (τ:=WC m y.num) 1 rfl rfl rfl rfl (S.e 1 rfl) tS_112 (S.g 3 rfl) (sh (τ:=WC m y.num) (S.g 3 rfl)) fun w S=>?_
 replace S:=S.n1
 refine S.store (τ:=WC m ((y.den : Nat) : Int)) 0 rfl rfl rfl rfl (S.e 0 rfl) tS_112 (S.g 2 rfl) (sh (τ:=WC m ((y.den : Nat) : Int)) (S.g 2 rfl)) fun w S=>?_
 replace S:=S.n0
 refine wn hK ?_;clear hK K
 replace S:=S.d10.d6.d5.d4.d3.d2
 refine wp_seq_k fun K hK=>?_
 refine S.drawn [⟨19,.g (WC n x.num),[]⟩,⟨20,.g (WC m ((y.den : Nat) : Int)),[]⟩,⟨21,.g (WC (n + m) ((x.num) * (((y.den : Nat) : Int)))),[0,1]⟩,⟨22,.g (WC m y.num),[]⟩,⟨23,.g (WC n ((x.den : Nat) : Int)),[]⟩,⟨24,.g (WC (m + n) ((y.num) * (((x.den : Nat) : Int)))),[3,4]⟩,⟨25,.g (WC (max (n + m) (m + n) + 1) (((x.num) * (((y.den : Nat) : Int))) + ((y.num) * (((x.den : Nat) : Int))))),[2,5]⟩,⟨26,.g (WC n ((x.den : Nat) : Int)),[]⟩,⟨27,.g (WC m ((y.den : Nat) : Int)),[]⟩,⟨28,.g (WC (n + m) ((((x.den : Nat) : Int)) * (((y.den : Nat) : Int)))),[7,8]⟩,⟨29,.g (QC (max (max (n + m) (m + n) + 1) (n + m)) (Rat.divInt (((x.num) * (((y.den : Nat) : Int))) + ((y.num) * (((x.den : Nat) : Int)))) ((((x.den : Nat) : Int)) * (((y.den : Nat) : Int))))),[6,9]⟩] mixedOrders (by kernel_rfl)
  ⟨fun a w G S=>.of rfl (OpR.ldBox S.ok rfl (S.e 3 rfl) (S.box 3 rfl) tS_112),
   fun a w G S=>.of rfl (OpR.ldBox S.ok rfl (S.e 0 rfl) (S.box 0 rfl) tS_112),
   fun a w G S=>.of rfl (OpR.call2 rfl c_75 (iMul_ok S.ok (WC.toW (S.g 0 rfl)) (WC.toW (S.g 1 rfl)) (by omega))),
   fun a w G S=>.of rfl (OpR.ldBox S.ok rfl (S.e 1 rfl) (S.box 1 rfl) tS_112),
   fun a w G S=>.of rfl (OpR.ldBox S.ok rfl (S.e 2 rfl) (S.box 2 rfl) tS_112),
   fun a w G S=>.of rfl (OpR.call2 rfl c_75 (iMul_ok S.ok (WC.toW (S.g 0 rfl)) (WC.toW (S.g 1 rfl)) (by omega))),
   fun a w G S=>.of rfl (OpR.call2 rfl c_80 (iAdd_ok S.ok (WC.toW (S.g 0 rfl)) (WC.toW (S.g 1 rfl)) (by omega) (by omega))),
   fun a w G S=>.of rfl (OpR.ldBox S.ok rfl (S.e 2 rfl) (S.box 2 rfl) tS_112),
   fun a w G S=>.of rfl (OpR.ldBox S.ok rfl (S.e 0 rfl) (S.box 0 rfl) tS_112),
   fun a w G S=>.of rfl (OpR.call2 rfl c_75 (iMul_ok S.ok (WC.toW (S.g 0 rfl)) (WC.toW (S.g 1 rfl)) (by omega))),
   fun a w G S=>.of rfl (OpR.call2 rfl c_76 (fform_ok S.ok (WC.toW (S.g 0 rfl)) (WC.toW (S.g 1 rfl)) (Int.mul_ne_zero (den_ne x) (den_ne y)) (by omega) (by omega))),trivial⟩ fun β a w G S=>?_
 replace S : St W0 G0 30 [(29,QC (max (max (n + m) (m + n) + 1) (n + m)) (Rat.divInt (((x.num) * (((y.den : Nat) : Int))) + ((y.num) * (((x.den : Nat) : Int)))) ((((x.den : Nat) : Int)) * (((y.den : Nat) : Int))))),(8,PB b8),(7,PB b7),(6,PB b6),(5,PB b5),(4,PB b4)] [⟨b8,112,some 2,WC m ((y.den : Nat) : Int)⟩,⟨b7,112,some 2,WC m y.num⟩,⟨b6,112,some 2,WC n ((x.den : Nat) : Int)⟩,⟨b5,112,some 2,WC n x.num⟩,⟨b4,24,some 3,MT.ex ((.agg #[.bool false,.slice none 0 0,.slice none 0 0] : Value))⟩,⟨b3,24,some 3,QV m y⟩,⟨b2,24,some 3,QV n x⟩] a _ _:=S.keep [0,11,12,13,14,15]
 refine S.store (τ:=QC (max (max (n + m) (m + n) + 1) (n + m)) (Rat.divInt (((x.num) * (((y.den : Nat) : Int))) + ((y.num) * (((x.den : Nat) : Int)))) ((((x.den : Nat) : Int)) * (((y.den : Nat) : Int))))) 4 rfl rfl rfl rfl (S.e 5 rfl) tS_24 (S.g 0 rfl) (sh (τ:=QC (max (max (n + m) (m + n) + 1) (n + m)) (Rat.divInt (((x.num) * (((y.den : Nat) : Int))) + ((y.num) * (((x.den : Nat) : Int)))) ((((x.den : Nat) : Int)) * (((y.den : Nat) : Int))))) (S.g 0 rfl)) fun w S=>?_
 replace S:=S.n4
 refine wn hK ?_;clear hK K
 replace S:=S.d0
 exact wp_ret (S.retCell (i:=4) rfl (S.e 4 rfl) rfl tS_24 (fun _ h=>(QC.eq (QC.up h (by omega)) frac_add)))
theorem fNeg_ok {n : Nat} {x : Rat} {v1 : Value} {W0 : World} {G0 : Gh} (hok : Gok W0 G0) (h1 : (QV n x).t v1 G0) (hn : n ≤ BIG) : Calls Tryz.prog 48 #[v1] W0 (Ret W0 G0 (QC n (-x))):=by
 refine St.enter (N:=14) (L:=[(0,QV n x)]) (args:=[v1]) Tryz.func48 rfl rfl rfl hok (enter1 h1) fun a S=>?_
 refine wp_reg fun K hK=>?_
 refine S.boxop (x:=.tmp 0) (τ:=QV n x) (S.g 0 rfl) (sh (τ:=QV n x) (S.g 0 rfl)) rfl rfl rfl rfl rfl fun b1 a w G S=>?_
 refine S.alloc rfl rfl rfl z_24 zs_24 rfl rfl fun b2 a w G S=>?_
 refine wn hK ?_;clear hK K
 replace S:=S.d2
 refine wp_reg fun K hK=>?_
 refine S.s (OpR.ldBox S.ok rfl (S.e 1 rfl) (S.box 1 rfl) tS_24) rfl fun a w G S=>?_
 refine S.s (τ:=MT.tup2 (WC n x.num) (WC n ((x.den : Nat) : Int))) (OpR.call1 rfl c_65 (fParts_ok S.ok (S.g 0 rfl) (by omega))) rfl fun a w G S=>?_
 refine S.m rfl (S.g 0 rfl) rfl fun a w G S=>?_
 refine S.s (OpR.ext2a S.ok rfl (S.g 0 rfl)) rfl fun a w G S=>?_
 refine S.s (OpR.ext2b S.ok rfl (S.g 1 rfl)) rfl fun a w G S=>?_
 refine S.alloc rfl rfl rfl z_112 zs_112 rfl rfl fun b3 a w G S=>?_
 refine S.alloc rfl rfl rfl z_112 zs_112 rfl rfl fun b4 a w G S=>?_
 refine S.store (τ:=WC n x.num) 1 rfl rfl rfl rfl (S.e 1 rfl) tS_112 (S.g 3 rfl) (sh (τ:=WC n x.num) (S.g 3 rfl)) fun w S=>?_
 replace S:=S.n1
 refine S.store (τ:=WC n ((x.den : Nat) : Int)) 0 rfl rfl rfl rfl (S.e 0 rfl) tS_112 (S.g 2 rfl) (sh (τ:=WC n ((x.den : Nat) : Int)) (S.g 2 rfl)) fun w S=>?_
 replace S:=S.n0
 refine wn hK ?_;clear hK K
 replace S:=S.d8.d6.d5.d4.d3.d2
 refine wp_seq_k fun K hK=>?_
 refine S.drawn [⟨10,.g (WC n x.num),[]⟩,⟨11,.g (WC n (-(x.num))),[0]⟩,⟨12,.g (WC n ((x.den : Nat) : Int)),[]⟩,⟨13,.g (QC (max n n) (Rat.divInt (-(x.num)) (((x.den : Nat) : Int)))),[1,2]⟩] mixedOrders (by kernel_rfl)
  ⟨fun a w G S=>.of rfl (OpR.ldBox S.ok rfl (S.e 1 rfl) (S.box 1 rfl) tS_112),
   fun a w G S=>.of rfl (OpR.call1 rfl c_81 (iNeg_ok S.ok (WC.toW (S.g 0 rfl)))),
   fun a w G S=>.of rfl (OpR.ldBox S.ok rfl (S.e 0 rfl) (S.box 0 rfl) tS_112),
   fun a w G S=>.of rfl (OpR.call2 rfl c_76 (fform_ok S.ok (WC.toW (S.g 0 rfl)) (WC.toW (S.g 1 rfl)) (den_ne x) (by omega) (by omega))),trivial⟩ fun β a w G S=>?_
 replace S : St W0 G0 14 [(13,QC (max n n) (Rat.divInt (-(x.num)) (((x.den : Nat) : Int)))),(4,PB b4),(3,PB b3),(2,PB b2)] [⟨b4,112,some 2,WC n ((x.den : Nat) : Int)⟩,⟨b3,112,some 2,WC n x.num⟩,⟨b2,24,some 3,MT.ex ((.agg #[.bool false,.slice none 0 0,.slice none 0 0] : Value))⟩,⟨b1,24,some 3,QV n x⟩] a _ _:=S.keep [0,4,5,6]
 refine S.store (τ:=QC (max n n) (Rat.divInt (-(x.num)) (((x.den : Nat) : Int)))) 2 rfl rfl rfl rfl (S.e 3 rfl) tS_24 (S.g 0 rfl) (sh (τ:=QC (max n n) (Rat.divInt (-(x.num)) (((x.den : Nat) : Int)))) (S.g 0 rfl)) fun w S=>?_
 replace S:=S.n2
 refine wn hK ?_;clear hK K
 replace S:=S.d0
 exact wp_ret (S.retCell (i:=2) rfl (S.e 2 rfl) rfl tS_24 (fun _ h=>(QC.eq (QC.up h (by omega)) frac_neg')))
theorem fSub_ok {n m : Nat} {x y : Rat} {v1 v2 : Value} {W0 : World} {G0 : Gh} (hok : Gok W0 G0) (h1 : (QV n x).t v1 G0) (h2 : (QV m y).t v2 G0) (hn : n + m + 1 ≤ BIG) : Calls Tryz.prog 46 #[v1,v2] W0 (Ret W0 G0 (QC (n + m + 1) (x - y))):=by
 refine St.enter (N:=9) (L:=[(1,QV m y),(0,QV n x)]) (args:=[v1,v2]) Tryz.func46 rfl rfl rfl hok (enter2 h1 h2) fun a S=>?_
 refine wp_reg fun K hK=>?_
 refine S.boxop (x:=.tmp 0) (τ:=QV n x) (S.g 1 rfl) (sh (τ:=QV n x) (S.g 1 rfl)) rfl rfl rfl rfl rfl fun b2 a w G S=>?_
 refine S.boxop (x:=.tmp 1) (τ:=QV m y) (S.g 1 rfl) (sh (τ:=QV m y) (S.g 1 rfl)) rfl rfl rfl rfl rfl fun b3 a w G S=>?_
 refine S.alloc rfl rfl rfl z_24 zs_24 rfl rfl fun b4 a w G S=>?_
 refine wn hK ?_;clear hK K
 replace S:=S.d4.d3
 refine wp_seq_k fun K hK=>?_
 refine S.drawn [⟨5,.g (QV n x),[]⟩,⟨6,.g (QV m y),[]⟩,⟨7,.g (QC m (-y)),[1]⟩,⟨8,.g (QC (n + m + 1) (x + (-y))),[0,2]⟩] mixedOrders (by kernel_rfl)
  ⟨fun a w G S=>.of rfl (OpR.ldBox S.ok rfl (S.e 2 rfl) (S.box 2 rfl) tS_24),
   fun a w G S=>.of rfl (OpR.ldBox S.ok rfl (S.e 1 rfl) (S.box 1 rfl) tS_24),
   fun a w G S=>.of rfl (OpR.call1 rfl c_48 (fNeg_ok S.ok (S.g 0 rfl) (by omega))),
   fun a w G S=>.of rfl (OpR.call2 rfl c_47 (fAdd_ok S.ok (S.g 0 rfl) (QC.toQV (S.g 1 rfl)) (by omega))),trivial⟩ fun β a w G S=>?_
 replace S : St W0 G0 9 [(8,QC (n + m + 1) (x + (-y))),(4,PB b4)] [⟨b4,24,some 3,MT.ex ((.agg #[.bool false,.slice none 0 0,.slice none 0 0] : Value))⟩,⟨b3,24,some 3,QV m y⟩,⟨b2,24,some 3,QV n x⟩] a _ _:=S.keep [0,4]
 refine S.store (τ:=QC (n + m + 1) (x + (-y))) 0 rfl rfl rfl rfl (S.e 1 rfl) tS_24 (S.g 0 rfl) (sh (τ:=QC (n + m + 1) (x + (-y))) (S.g 0 rfl)) fun w S=>?_
 replace S:=S.n0
 refine wn hK ?_;clear hK K
 replace S:=S.d0
 exact wp_ret (S.retCell (i:=0) rfl (S.e 0 rfl) rfl tS_24 (fun _ h=>(QC.eq h (Rat.sub_eq_add_neg x y).symm)))
theorem fSign_ok {n : Nat} {x : Rat} {v1 : Value} {W0 : World} {G0 : Gh} (hok : Gok W0 G0) (h1 : (QV n x).t v1 G0) (hn : n ≤ BIG) : Calls Tryz.prog 34 #[v1] W0 (Ret W0 G0 (IT x.num.sign)):=by
 refine St.enter (N:=12) (L:=[(0,QV n x)]) (args:=[v1]) Tryz.func34 rfl rfl rfl hok (enter1 h1) fun a S=>?_
 refine wp_reg fun K hK=>?_
 refine S.boxop (x:=.tmp 0) (τ:=QV n x) (S.g 0 rfl) (sh (τ:=QV n x) (S.g 0 rfl)) rfl rfl rfl rfl rfl fun b1 a w G S=>?_
 refine S.s (τ:=NT 0) (OpR.asn S.ok rfl (rfl : _ = nv .i64 0)) rfl fun a w G S=>?_
 refine wn hK ?_;clear hK K
 replace S:=S.d2
 refine wp_reg fun K hK=>?_
 refine S.s (OpR.ldBox S.ok rfl (S.e 1 rfl) (S.box 0 rfl) tS_24) rfl fun a w G S=>?_
 refine S.s (τ:=MT.tup2 (WC n x.num) (WC n ((x.den : Nat) : Int))) (OpR.call1 rfl c_65 (fParts_ok S.ok (S.g 0 rfl) (by omega))) rfl fun a w G S=>?_
 refine S.m rfl (S.g 0 rfl) rfl fun a w G S=>?_
 refine S.s (OpR.ext2a S.ok rfl (S.g 0 rfl)) rfl fun a w G S=>?_
 refine S.s (OpR.ext2b S.ok rfl (S.g 1 rfl)) rfl fun a w G S=>?_
 refine S.alloc rfl rfl rfl z_112 zs_112 rfl rfl fun b3 a w G S=>?_
 refine S.alloc rfl rfl rfl z_112 zs_112 rfl rfl fun b4 a w G S=>?_
 refine S.store (τ:=WC n x.num) 1 rfl rfl rfl rfl (S.e 1 rfl) tS_112 (S.g 3 rfl) (sh (τ:=WC n x.num) (S.g 3 rfl)) fun w S=>?_
 replace S:=S.n1
 refine S.store (τ:=WC n ((x.den : Nat) : Int)) 0 rfl rfl rfl rfl (S.e 0 rfl) tS_112 (S.g 2 rfl) (sh (τ:=WC n ((x.den : Nat) : Int)) (S.g 2 rfl)) fun w S=>?_
 replace S:=S.n0
 refine wn hK ?_;clear hK K
 replace S:=S.d8.d6.d5.d4.d3.d2.d0
 refine wp_reg fun K hK=>?_
 refine S.s (OpR.ldBox S.ok rfl (S.e 0 rfl) (S.box 1 rfl) tS_112) rfl fun a w G S=>?_
 refine S.s (τ:=IT ((x.num).sign)) (OpR.call1 rfl c_66 (iSign_ok S.ok (WC.toW (S.g 0 rfl)))) rfl fun a w G S=>?_
 replace S:=S.d3
 refine S.q rfl (S.g 0 rfl) rfl fun a w G S=>?_
 refine wn hK ?_;clear hK K
 replace S:=S.d2.d1
 exact wp_ret (S.retTmp rfl ((S.e 0 rfl).trans (iv_eq (by first | rfl | omega | (simp only [Nat.zero_add,Nat.add_zero];done) | (simp;done) | (push_cast;omega)))))
theorem fCmp_ok {n m : Nat} {x y : Rat} {v1 v2 : Value} {W0 : World} {G0 : Gh} (hok : Gok W0 G0) (h1 : (QV n x).t v1 G0) (h2 : (QV m y).t v2 G0) (hn : n + m ≤ BIG) : Calls Tryz.prog 41 #[v1,v2] W0 (Ret W0 G0 (IT (cmpQ x y))):=by
 refine St.enter (N:=26) (L:=[(1,QV m y),(0,QV n x)]) (args:=[v1,v2]) Tryz.func41 rfl rfl rfl hok (enter2 h1 h2) fun a S=>?_
 refine wp_reg fun K hK=>?_
 refine S.boxop (x:=.tmp 0) (τ:=QV n x) (S.g 1 rfl) (sh (τ:=QV n x) (S.g 1 rfl)) rfl rfl rfl rfl rfl fun b2 a w G S=>?_
 refine S.boxop (x:=.tmp 1) (τ:=QV m y) (S.g 1 rfl) (sh (τ:=QV m y) (S.g 1 rfl)) rfl rfl rfl rfl rfl fun b3 a w G S=>?_
 refine S.s (τ:=NT 0) (OpR.asn S.ok rfl (rfl : _ = nv .i64 0)) rfl fun a w G S=>?_
 refine wn hK ?_;clear hK K
 replace S:=S.d4.d3
 refine wp_reg fun K hK=>?_
 refine S.s (OpR.ldBox S.ok rfl (S.e 2 rfl) (S.box 1 rfl) tS_24) rfl fun a w G S=>?_
 refine S.s (τ:=MT.tup2 (WC n x.num) (WC n ((x.den : Nat) : Int))) (OpR.call1 rfl c_65 (fParts_ok S.ok (S.g 0 rfl) (by omega))) rfl fun a w G S=>?_
 refine S.m rfl (S.g 0 rfl) rfl fun a w G S=>?_
 refine S.s (OpR.ext2a S.ok rfl (S.g 0 rfl)) rfl fun a w G S=>?_
 refine S.s (OpR.ext2b S.ok rfl (S.g 1 rfl)) rfl fun a w G S=>?_
 refine S.alloc rfl rfl rfl z_112 zs_112 rfl rfl fun b5 a w G S=>?_
 refine S.alloc rfl rfl rfl z_112 zs_112 rfl rfl fun b6 a w G S=>?_
 refine S.store (τ:=WC n x.num) 1 rfl rfl rfl rfl (S.e 1 rfl) tS_112 (S.g 3 rfl) (sh (τ:=WC n x.num) (S.g 3 rfl)) fun w S=>?_
 replace S:=S.n1
 refine S.store (τ:=WC n ((x.den : Nat) : Int)) 0 rfl rfl rfl rfl (S.e 0 rfl) tS_112 (S.g 2 rfl) (sh (τ:=WC n ((x.den : Nat) : Int)) (S.g 2 rfl)) fun w S=>?_
 replace S:=S.n0
 refine wn hK ?_;clear hK K
 replace S:=S.d9.d6.d5.d4.d3.d2
 refine wp_reg fun K hK=>?_
 refine S.s (OpR.ldBox S.ok rfl (S.e 3 rfl) (S.box 2 rfl) tS_24) rfl fun a w G S=>?_
 refine S.s (τ:=MT.tup2 (WC m y.num) (WC m ((y.den : Nat) : Int))) (OpR.call1 rfl c_65 (fParts_ok S.ok (S.g 0 rfl) (by omega))) rfl fun a w G S=>?_
 refine S.m rfl (S.g 0 rfl) rfl fun a w G S=>?_
 refine S.s (OpR.ext2a S.ok rfl (S.g 0 rfl)) rfl fun a w G S=>?_
 refine S.s (OpR.ext2b S.ok rfl (S.g 1 rfl)) rfl fun a w G S=>?_
 refine S.alloc rfl rfl rfl z_112 zs_112 rfl rfl fun b7 a w G S=>?_
 refine S.alloc rfl rfl rfl z_112 zs_112 rfl rfl fun b8 a w G S=>?_
 refine S.store (τ:=WC m y.num) 1 rfl rfl rfl rfl (S.e 1 rfl) tS_112 (S.g 3 rfl) (sh (τ:=WC m y.num) (S.g 3 rfl)) fun w S=>?_
 replace S:=S.n1
 refine S.store (τ:=WC m ((y.den : Nat) : Int)) 0 rfl rfl rfl rfl (S.e 0 rfl) tS_112 (S.g 2 rfl) (sh (τ:=WC m ((y.den : Nat) : Int)) (S.g 2 rfl)) fun w S=>?_
 replace S:=S.n0
 refine wn hK ?_;clear hK K
 replace S:=S.d10.d6.d5.d4.d3.d2
 refine wp_seq_k fun K hK=>?_
 replace S:=S.d4
 refine S.drawn [⟨19,.g (WC n x.num),[]⟩,⟨20,.g (WC m ((y.den : Nat) : Int)),[]⟩,⟨21,.g (WC (n + m) ((x.num) * (((y.den : Nat) : Int)))),[0,1]⟩,⟨22,.g (WC m y.num),[]⟩,⟨23,.g (WC n ((x.den : Nat) : Int)),[]⟩,⟨24,.g (WC (m + n) ((y.num) * (((x.den : Nat) : Int)))),[3,4]⟩,⟨25,.g (IT (cmpZ ((x.num) * (((y.den : Nat) : Int))) ((y.num) * (((x.den : Nat) : Int))))),[2,5]⟩,⟨4,.g (IT (cmpZ ((x.num) * (((y.den : Nat) : Int))) ((y.num) * (((x.den : Nat) : Int))))),[6]⟩] mixedOrders (by kernel_rfl)
  ⟨fun a w G S=>.of rfl (OpR.ldBox S.ok rfl (S.e 3 rfl) (S.box 3 rfl) tS_112),
   fun a w G S=>.of rfl (OpR.ldBox S.ok rfl (S.e 0 rfl) (S.box 0 rfl) tS_112),
   fun a w G S=>.of rfl (OpR.call2 rfl c_75 (iMul_ok S.ok (WC.toW (S.g 0 rfl)) (WC.toW (S.g 1 rfl)) (by omega))),
   fun a w G S=>.of rfl (OpR.ldBox S.ok rfl (S.e 1 rfl) (S.box 1 rfl) tS_112),
   fun a w G S=>.of rfl (OpR.ldBox S.ok rfl (S.e 2 rfl) (S.box 2 rfl) tS_112),
   fun a w G S=>.of rfl (OpR.call2 rfl c_75 (iMul_ok S.ok (WC.toW (S.g 0 rfl)) (WC.toW (S.g 1 rfl)) (by omega))),
   fun a w G S=>.of rfl (OpR.call2 rfl c_74 (iCmp_ok S.ok (WC.toW (S.g 0 rfl)) (WC.toW (S.g 1 rfl)))),
   fun a w G S=>.of rfl (OpR.asn S.ok rfl (S.g 0 rfl)),trivial⟩ fun β a w G S=>?_
 replace S : St W0 G0 26 [(4,IT (cmpZ ((x.num) * (((y.den : Nat) : Int))) ((y.num) * (((x.den : Nat) : Int))))),(8,PB b8),(7,PB b7),(6,PB b6),(5,PB b5)] [⟨b8,112,some 2,WC m ((y.den : Nat) : Int)⟩,⟨b7,112,some 2,WC m y.num⟩,⟨b6,112,some 2,WC n ((x.den : Nat) : Int)⟩,⟨b5,112,some 2,WC n x.num⟩,⟨b3,24,some 3,QV m y⟩,⟨b2,24,some 3,QV n x⟩] a _ _:=S.keep [0,8,9,10,11]
 refine wn hK ?_;clear hK K
 exact wp_ret (S.retTmp rfl ((S.e 0 rfl).trans (iv_eq cmp_frac)))
theorem fOf_ok {z : Int} {v1 : Value} {W0 : World} {G0 : Gh} (hok : Gok W0 G0) (h1 : (IT z).t v1 G0) (hz : -9223372036854775808 ≤ z ∧ z ≤ 9223372036854775807) : Calls Tryz.prog 44 #[v1] W0 (Ret W0 G0 (QC 64 (z : Rat))):=by
 have hB : 64 ≤ BIG:=by decide
 refine St.enter (N:=7) (L:=[(0,IT z)]) (args:=[v1]) Tryz.func44 rfl rfl rfl hok (enter1 h1) fun a S=>?_
 refine wp_reg fun K hK=>?_
 refine S.alloc rfl rfl rfl z_24 zs_24 rfl rfl fun b2 a w G S=>?_
 refine wn hK ?_;clear hK K
 refine wp_reg fun K hK=>?_
 refine S.m rfl (S.g 1 rfl) rfl fun a w G S=>?_
 refine S.s (τ:=WC 64 z) (OpR.call1 rfl c_77 (iOf_ok S.ok (S.g 0 rfl) (by omega))) rfl fun a w G S=>?_
 refine S.s (τ:=WC 64 1) (OpR.call0 rfl c_78 (fone_ok S.ok )) rfl fun a w G S=>?_
 refine S.s (τ:=QC (max 64 64) (Rat.divInt z 1)) (OpR.call2 rfl c_76 (fform_ok S.ok (WC.toW (S.g 1 rfl)) (WC.toW (S.g 0 rfl)) (by decide) hB hB)) rfl fun a w G S=>?_
 refine S.store (τ:=QC (max 64 64) (Rat.divInt z 1)) 0 rfl rfl rfl rfl (S.e 4 rfl) tS_24 (S.g 0 rfl) (sh (τ:=QC (max 64 64) (Rat.divInt z 1)) (S.g 0 rfl)) fun w S=>?_
 replace S:=S.n0
 refine wn hK ?_;clear hK K
 replace S:=S.d5.d3.d2.d1.d0
 exact wp_ret (S.retCell (i:=0) rfl (S.e 0 rfl) rfl tS_24 (fun _ h=>(QC.eq (QC.up h (by omega)) frac_one)))
end Go.Proofs.YtpbkcbnghhodiaaGreat
namespace Go.Proofs.YtpbkcbnghhodiaaGreat
set_option maxHeartbeats 1000000
set_option maxRecDepth 100000
open Go.RowKit (Below)
private theorem c_130 : callable Tryz.prog 130 = true:=by kernel_rfl
theorem rat_ok {l : List Nat} {i : Nat} {v1 v2 : Value} {W0 : World} {G0 : Gh} (hok : Gok W0 G0) (h1 : (SL l).t v1 G0) (h2 : (NT i).t v2 G0)  : Calls Tryz.prog 130 #[v1,v2] W0 (Ret W0 G0 (MT.ex (nv .u64 (dig l i)))):=by
 have hlim:=SL.lim h1
 have hwf:=SL.wf h1
 simp only [LIM] at hlim
 have hdl:=dig_lt hwf i
 refine St.enter (N:=14) (L:=[(1,NT i),(0,SL l)]) (args:=[v1,v2]) Tryz.func130 rfl rfl rfl hok (enter2 h1 h2) fun a S=>?_
 refine wp_reg fun K hK=>?_
 refine S.s (τ:=MT.ex (nv .u64 (0))) (OpR.asn S.ok rfl (rfl : _ = nv .u64 0)) rfl fun a w G S=>?_
 refine wn hK ?_;clear hK K
 refine wp_seq_k fun K hK=>?_
 refine wp_reg fun K hK=>?_
 refine S.m rfl (S.g 1 rfl) rfl fun a w G S=>?_
 refine S.m rfl (S.g 3 rfl) rfl fun a w G S=>?_
 refine S.s (OpR.lenL S.ok rfl Tryz.underlying22 (S.g 0 rfl) MT.self) rfl fun a w G S=>?_
 refine S.s (OpR.nlss S.ok rfl (S.e 2 rfl) (S.e 0 rfl) MT.self) rfl fun a w G S=>?_
 refine wn hK ?_;clear hK K
 replace S:=S.d3.d2.d1
 refine S.cond 0 rfl (fun hc1=>?_) (fun hc1=>?_)
 ·
  have hp2:=of_decide_eq_true hc1
  refine wp_reg fun K hK=>?_
  refine S.m rfl (S.g 3 rfl) rfl fun a w G S=>?_
  refine S.m rfl (S.g 3 rfl) rfl fun a w G S=>?_
  refine S.s (τ:=PE (none) (MT.ex (nv .u32 (dig (l) (i))))) (OpR.ixL (i:=i) S.ok rfl Tryz.underlying22 tS_141 (S.g 1 rfl) (S.e 0 rfl) rfl (dig_get (by first | omega | (simp;omega)))) rfl fun a w G S=>?_
  refine S.s (OpR.ldE S.ok rfl tS_141 (S.g 0 rfl)) rfl fun a w G S=>?_
  refine S.s (OpR.nconv S.ok rfl (S.e 0 rfl) it_141 it_147 (wr_u64 (by omega)) MT.self) rfl fun a w G S=>?_
  replace S:=S.d6
  refine S.q rfl (S.g 0 rfl) rfl fun a w G S=>?_
  refine wn hK ?_;clear hK K
  replace S:=S.d5.d4.d3.d2.d1
  exact wp_ret (then_ret (S.retTmp rfl ((S.e 0 rfl).trans (nv_eq (by first | rfl | omega | (simp only [Nat.zero_add,Nat.add_zero];done) | (simp;done) | (push_cast;omega))))))
 ·
  have hp3:=of_decide_eq_false hc1
  refine wp_skip ?_
  refine hK _ _ ?_;clear hK K
  refine wp_reg fun K hK=>?_
  replace S:=S.d1
  refine S.s (τ:=MT.ex (nv .u64 (0))) (OpR.asn S.ok rfl (rfl : _ = nv .u64 0)) rfl fun a w G S=>?_
  refine wn hK ?_;clear hK K
  exact wp_ret (S.retTmp rfl ((S.e 0 rfl).trans (nv_eq (dig_out (by omega)).symm)))
theorem rtrim_ok {nb m : Nat} {v1 : Value} {W0 : World} {G0 : Gh} (hok : Gok W0 G0) (h1 : (SV nb m).t v1 G0)  : Calls Tryz.prog 123 #[v1] W0 (Ret W0 G0 (SN nb m)):=by
 obtain ⟨hlt,l,hl,h1⟩:=h1
 have hlim:=SL.lim h1
 have hwf:=SL.wf h1
 simp only [LIM] at hlim
 refine St.enter (N:=25) (L:=[(0,SL l)]) (args:=[v1]) Tryz.func123 rfl rfl rfl hok (enter1 h1) fun a S=>?_
 refine wp_reg fun K hK=>?_
 refine S.s (τ:=MT.ex (Value.slice none 0 0)) (OpR.asn S.ok rfl rfl) rfl fun a w G S=>?_
 refine wn hK ?_;clear hK K
 refine wp_reg fun K hK=>?_
 refine S.s (τ:=EMP) (OpR.build0 S.ok rfl Tryz.underlying22 el_141) rfl fun a w G S=>?_
 refine S.m rfl (S.g 2 rfl) rfl fun a w G S=>?_
 refine S.s (τ:=SL l) (OpR.appNew S.ok rfl Tryz.underlying22 el_141 (S.g 1 rfl) (S.g 0 rfl)) rfl fun a w G S=>?_
 refine S.q rfl (S.g 0 rfl) rfl fun a w G S=>?_
 refine wn hK ?_;clear hK K
 replace S:=S.d5.d3.d2.d1
 refine wp_seq_k fun K hK=>?_
 refine wp_block ?_
 replace S:=S.also (t:=3) (τ:=SL (l.take l.length)) (SL.eq (S.g 0 rfl) (by rw [List.take_length]))
 refine wp_loopJ (fun μ a w=>∃ (k : Nat) (G : Gh),μ = k ∧ (k ≤ l.length) ∧ (val (l.take k) = val l) ∧  St W0 G0 25 [(3,SL (l.take k)),(2,MT.ex (Value.slice none 0 0))] [] a w G) (l.length) ⟨l.length,_,rfl,(Nat.le_refl _),(by rw [List.take_length]),(S.keep [0,2]).keepB [] (by decide)⟩ ?_
 clear S
 intro μ a w ⟨k,G,hm,hk,hv,S⟩
 refine wp_seq_k fun K hK=>?_
 refine wp_reg fun K hK=>?_
 refine S.m rfl (S.g 0 rfl) rfl fun a w G S=>?_
 refine S.s (τ:=NT k) (OpR.lenL S.ok rfl Tryz.underlying22 (S.g 0 rfl) (nv_eq (take_len hk))) rfl fun a w G S=>?_
 refine S.s (OpR.ngtr S.ok rfl (S.e 0 rfl) (rfl : _ = nv .i64 0) MT.self) rfl fun a w G S=>?_
 refine S.m rfl (S.g 0 rfl) rfl fun a w G S=>?_
 rcases Bool.eq_false_or_eq_true (decide (0 < k)) with hc1 | hc1
 ·
  have hp2:=of_decide_eq_true hc1
  replace S:=S.boolIs 0 rfl hc1
  refine S.stepG 0 (OpR.mv S.ok rfl (S.g 5 rfl)) rfl rfl rfl rfl rfl rfl fun a w G S=>?_
  refine S.stepG 1 (OpR.mv S.ok rfl (S.g 6 rfl)) rfl rfl rfl rfl rfl rfl fun a w G S=>?_
  refine S.stepG (τ:=NT k) 2 (OpR.lenL S.ok rfl Tryz.underlying22 (S.g 0 rfl) (nv_eq (take_len hk))) rfl rfl rfl rfl rfl rfl fun a w G S=>?_
  refine S.stepG 3 (OpR.nsub S.ok rfl (S.e 0 rfl) (rfl : _ = nv .i64 1) (by omega) (wr_i64 (by omega)) MT.self) rfl rfl rfl rfl rfl rfl fun a w G S=>?_
  refine S.stepG (τ:=PE (none) (MT.ex (nv .u32 (dig (l.take k) (k - 1))))) 4 (OpR.ixL (i:=k - 1) S.ok rfl Tryz.underlying22 tS_141 (S.g 3 rfl) (S.e 0 rfl) rfl (dig_get (by rw [take_len hk];omega))) rfl rfl rfl rfl rfl rfl fun a w G S=>?_
  refine S.stepG 5 (OpR.ldE S.ok rfl tS_141 (S.g 0 rfl)) rfl rfl rfl rfl rfl rfl fun a w G S=>?_
  refine S.stepG 6 (OpR.neql S.ok rfl (S.e 0 rfl) (rfl : _ = nv .u32 0) MT.self) rfl rfl rfl rfl rfl rfl fun a w G S=>?_
  refine S.s (τ:=BT (decide ((dig (l.take k) (k - 1)) = 0))) (OpR.pick S.ok rfl (S.e 7 rfl) (S.g 0 rfl)) rfl fun a w G S=>?_
  refine wn hK ?_;clear hK K
  replace S:=S.d12.d11.d10.d9.d8.d7.d6.d5.d4.d3.d2.d1
  refine S.cond 0 rfl (fun hc3=>?_) (fun hc3=>?_)
  ·
   have hp4:=of_decide_eq_true hc3
   refine wp_skip ?_
   refine hK _ _ ?_;clear hK K
   refine wp_block ?_
   refine wp_region_lit ?_
   refine S.m rfl (S.g 1 rfl) rfl fun a w G S=>?_
   refine S.m rfl (S.g 2 rfl) rfl fun a w G S=>?_
   refine S.s (τ:=NT k) (OpR.lenL S.ok rfl Tryz.underlying22 (S.g 0 rfl) (nv_eq (take_len hk))) rfl fun a w G S=>?_
   refine S.s (OpR.nsub S.ok rfl (S.e 0 rfl) (rfl : _ = nv .i64 1) (by omega) (wr_i64 (by omega)) MT.self) rfl fun a w G S=>?_
   refine S.s (τ:=SL ((l.take k).take (k - 1))) (OpR.cutL S.ok rfl Tryz.underlying22 tS_141 (S.g 3 rfl) (S.e 0 rfl) rfl (by rw [take_len hk];omega)) rfl fun a w G S=>?_
   replace S:=S.d6
   refine S.q rfl (S.g 0 rfl) rfl fun a w G S=>?_
   refine wpList_nil ?_
   replace S:=S.d5.d4.d3.d2.d1
   replace S:=S.also (t:=3) (τ:=SL (l.take (k - 1))) (SL.eq (S.g 0 rfl) (by rw [List.take_take];congr 1;omega))
   exact ⟨(k - 1),(by omega),(k - 1),_,rfl,(by omega),(rtrim_step ‹_› ‹_› hv),(S.keep [0,3]).keepB [] (by decide)⟩
  ·
   have hp5:=of_decide_eq_false hc3
   refine wp_exit (then_exit (then_exit (exit_same ?_)))
   clear hK K
   refine hK _ _ ?_;clear hK K
   refine wp_reg fun K hK=>?_
   refine S.m rfl (S.g 1 rfl) rfl fun a w G S=>?_
   replace S:=S.d3
   refine S.q rfl (S.g 0 rfl) rfl fun a w G S=>?_
   refine wn hK ?_;clear hK K
   replace S:=S.d1
   exact wp_ret (S.retTmp rfl (SL.toSN (S.g 0 rfl) (by first | exact rtrim_zero ‹_› hv hl | exact rtrim_top ‹_› ‹_› hk hv hl hwf) hlt))
 ·
  have hp6:=of_decide_eq_false hc1
  replace S:=S.boolIs 0 rfl hc1
  refine S.skipG 0 rfl rfl rfl rfl rfl rfl fun a w G S=>?_
  refine S.skipG 1 rfl rfl rfl rfl rfl rfl fun a w G S=>?_
  refine S.skipG 2 rfl rfl rfl rfl rfl rfl fun a w G S=>?_
  refine S.skipG 3 rfl rfl rfl rfl rfl rfl fun a w G S=>?_
  refine S.skipG 4 rfl rfl rfl rfl rfl rfl fun a w G S=>?_
  refine S.skipG 5 rfl rfl rfl rfl rfl rfl fun a w G S=>?_
  refine S.skipG 6 rfl rfl rfl rfl rfl rfl fun a w G S=>?_
  refine S.s (τ:=BT false) (OpR.pick S.ok rfl (S.e 7 rfl) rfl) rfl fun a w G S=>?_
  refine wn hK ?_;clear hK K
  replace S:=S.d12.d11.d10.d9.d8.d7.d6.d5.d4.d3.d2.d1
  refine wp_cond_false (S.e 0 rfl) ?_
  refine wp_exit (then_exit (then_exit (exit_same ?_)))
  clear hK K
  refine hK _ _ ?_;clear hK K
  refine wp_reg fun K hK=>?_
  refine S.m rfl (S.g 1 rfl) rfl fun a w G S=>?_
  replace S:=S.d3
  refine S.q rfl (S.g 0 rfl) rfl fun a w G S=>?_
  refine wn hK ?_;clear hK K
  replace S:=S.d1
  exact wp_ret (S.retTmp rfl (SL.toSN (S.g 0 rfl) (by first | exact rtrim_zero ‹_› hv hl | exact rtrim_top ‹_› ‹_› hk hv hl hwf) hlt))
theorem rbits_ok {na x : Nat} {v1 : Value} {W0 : World} {G0 : Gh} (hok : Gok W0 G0) (h1 : (SN na x).t v1 G0)  : Calls Tryz.prog 139 #[v1] W0 (Ret W0 G0 (NT (blen x))):=by
 have hlim:=SL.lim (SN.toSL h1)
 simp only [LIM] at hlim
 have hdt:=dig_lt (wfl_words x) ((words x).length - 1)
 have hbt:=blen_le (n:=dig (words x) ((words x).length - 1)) (k:=32) (by omega)
 refine St.enter (N:=25) (L:=[(0,SN na x)]) (args:=[v1]) Tryz.func139 rfl rfl rfl hok (enter1 h1) fun a S=>?_
 refine wp_reg fun K hK=>?_
 refine S.s (τ:=NT 0) (OpR.asn S.ok rfl (rfl : _ = nv .i64 0)) rfl fun a w G S=>?_
 refine wn hK ?_;clear hK K
 refine wp_seq_k fun K hK=>?_
 refine wp_reg fun K hK=>?_
 refine S.m rfl (S.g 1 rfl) rfl fun a w G S=>?_
 refine S.s (OpR.lenL S.ok rfl Tryz.underlying22 (SN.toSL (S.g 0 rfl)) MT.self) rfl fun a w G S=>?_
 refine S.s (OpR.neql S.ok rfl (S.e 0 rfl) (rfl : _ = nv .i64 0) MT.self) rfl fun a w G S=>?_
 refine wn hK ?_;clear hK K
 replace S:=S.d2.d1
 refine S.cond 0 rfl (fun hc1=>?_) (fun hc1=>?_)
 ·
  have hp2:=of_decide_eq_true hc1
  have hx0:=len_zero hp2
  refine wp_reg fun K hK=>?_
  replace S:=S.d1
  refine S.s (τ:=NT 0) (OpR.asn S.ok rfl (rfl : _ = nv .i64 0)) rfl fun a w G S=>?_
  refine wn hK ?_;clear hK K
  exact wp_ret (then_ret (S.retTmp rfl ((S.e 0 rfl).trans (nv_eq (by rw [hx0];rfl)))))
 ·
  have hp3:=of_decide_eq_false hc1
  have hx0 : x ≠ 0:=fun e=>hp3 (by rw [e,words_zero];rfl)
  have hbw:=blen_words hx0
  refine wp_skip ?_
  refine hK _ _ ?_;clear hK K
  refine wp_reg fun K hK=>?_
  refine S.m rfl (S.g 2 rfl) rfl fun a w G S=>?_
  refine S.s (OpR.lenL S.ok rfl Tryz.underlying22 (SN.toSL (S.g 0 rfl)) MT.self) rfl fun a w G S=>?_
  refine S.s (OpR.nsub S.ok rfl (S.e 0 rfl) (rfl : _ = nv .i64 1) (by omega) (wr_i64 (by omega)) MT.self) rfl fun a w G S=>?_
  refine S.s (OpR.nmul S.ok rfl (rfl : _ = nv .i64 32) (S.e 0 rfl) (wr_i64 (by omega)) MT.self) rfl fun a w G S=>?_
  refine S.q rfl (S.g 0 rfl) rfl fun a w G S=>?_
  refine wn hK ?_;clear hK K
  replace S:=S.d4.d3.d2.d1
  refine wp_seq_k fun K hK=>?_
  refine wp_reg fun K hK=>?_
  refine S.m rfl (S.g 3 rfl) rfl fun a w G S=>?_
  refine S.m rfl (S.g 4 rfl) rfl fun a w G S=>?_
  refine S.s (OpR.lenL S.ok rfl Tryz.underlying22 (SN.toSL (S.g 0 rfl)) MT.self) rfl fun a w G S=>?_
  refine S.s (OpR.nsub S.ok rfl (S.e 0 rfl) (rfl : _ = nv .i64 1) (by omega) (wr_i64 (by omega)) MT.self) rfl fun a w G S=>?_
  refine S.s (τ:=PE (none) (MT.ex (nv .u32 (dig (words (x)) (((words (x)).length) - 1))))) (OpR.ixL (i:=((words (x)).length) - 1) S.ok rfl Tryz.underlying22 tS_141 (SN.toSL (S.g 3 rfl)) (S.e 0 rfl) rfl (dig_get (by first | omega | (simp;omega)))) rfl fun a w G S=>?_
  refine S.s (OpR.ldE S.ok rfl tS_141 (S.g 0 rfl)) rfl fun a w G S=>?_
  refine S.q rfl (S.g 0 rfl) rfl fun a w G S=>?_
  refine wn hK ?_;clear hK K
  replace S:=S.d6.d5.d4.d3.d2.d1
  refine wp_block ?_
  replace S:=S.also (t:=4) (τ:=MT.ex (nv .u32 ((dig (words (x)) (((words (x)).length) - 1))))) ((S.e 0 rfl).trans (nv_eq (by first | rfl | omega | (simp only [Nat.zero_add,Nat.add_zero];done) | (simp;done) | (push_cast;omega))))
  refine wp_loopJ (fun μ a w=>∃ (c : Nat) (v : Nat) (G : Gh),μ = v ∧ (c + blen v = blen x) ∧  St W0 G0 25 [(4,MT.ex (nv .u32 (v))),(3,NT c),(7,BT (decide (((words (x)).length) = 0))),(2,NT 0),(0,SN na x)] [] a w G) ((dig (words (x)) (((words (x)).length) - 1))) ⟨32 * (((words (x)).length) - 1),dig (words (x)) (((words (x)).length) - 1),_,rfl,hbw,(S.keep [0,2,3,4,5]).keepB [] (by decide)⟩ ?_
  clear S
  intro μ a w ⟨c,v,G,hm,hc,S⟩
  refine wp_seq_k fun K hK=>?_
  refine wp_reg fun K hK=>?_
  refine S.m rfl (S.g 0 rfl) rfl fun a w G S=>?_
  refine S.s (OpR.ngtr S.ok rfl (S.e 0 rfl) (rfl : _ = nv .u32 0) MT.self) rfl fun a w G S=>?_
  refine wn hK ?_;clear hK K
  replace S:=S.d1
  refine S.cond 0 rfl (fun hc4=>?_) (fun hc4=>?_)
  ·
   have hp5:=of_decide_eq_true hc4
   refine wp_skip ?_
   refine hK _ _ ?_;clear hK K
   refine wp_seq_k fun K hK=>?_
   refine wp_block ?_
   refine wp_region_lit ?_
   refine S.m rfl (S.g 2 rfl) rfl fun a w G S=>?_
   refine S.s (OpR.nadd S.ok rfl (S.e 0 rfl) (rfl : _ = nv .i64 1) (wr_i64 (by omega)) MT.self) rfl fun a w G S=>?_
   replace S:=S.d4
   refine S.q rfl (S.g 0 rfl) rfl fun a w G S=>?_
   refine wpList_nil ?_
   replace S:=S.d2.d1
   refine hK _ _ ?_;clear hK K
   refine wp_region_lit ?_
   refine S.m rfl (S.g 2 rfl) rfl fun a w G S=>?_
   refine S.s (OpR.nshr S.ok rfl (S.e 0 rfl) (rfl : _ = nv .u64 1) (by decide) MT.self) rfl fun a w G S=>?_
   replace S:=S.d4
   refine S.q rfl (S.g 0 rfl) rfl fun a w G S=>?_
   refine wpList_nil ?_
   replace S:=S.d2.d1
   replace S:=S.also (t:=4) (τ:=MT.ex (nv .u32 ((v / 2 ^ 1)))) ((S.e 0 rfl).trans (nv_eq (by first | rfl | omega | (simp only [Nat.zero_add,Nat.add_zero];done) | (simp;done) | (push_cast;omega))))
   exact ⟨(v / 2 ^ 1),(by omega),c + 1,v / 2 ^ 1,_,rfl,(by have:=blen_half ‹_›;omega),(S.keep [0,2,4,5,6]).keepB [] (by decide)⟩
  ·
   have hp6:=of_decide_eq_false hc4
   refine wp_exit (then_exit (then_exit (exit_same ?_)))
   clear hK K
   refine hK _ _ ?_;clear hK K
   refine wp_reg fun K hK=>?_
   refine S.m rfl (S.g 2 rfl) rfl fun a w G S=>?_
   replace S:=S.d5
   refine S.q rfl (S.g 0 rfl) rfl fun a w G S=>?_
   refine wn hK ?_;clear hK K
   replace S:=S.d1
   exact wp_ret (S.retTmp rfl ((S.e 0 rfl).trans (nv_eq (by have : blen v = 0:=(by rw [show v = 0 by omega];rfl);omega))))
theorem rcompare_ok {na nb x y : Nat} {v1 v2 : Value} {W0 : World} {G0 : Gh} (hok : Gok W0 G0) (h1 : (SN na x).t v1 G0) (h2 : (SN nb y).t v2 G0)  : Calls Tryz.prog 115 #[v1,v2] W0 (Ret W0 G0 (IT (cmpN x y))):=by
 have hla:=SL.lim (SN.toSL h1)
 have hlb:=SL.lim (SN.toSL h2)
 simp only [LIM] at hla hlb
 refine St.enter (N:=30) (L:=[(1,SN nb y),(0,SN na x)]) (args:=[v1,v2]) Tryz.func115 rfl rfl rfl hok (enter2 h1 h2) fun a S=>?_
 refine wp_reg fun K hK=>?_
 refine S.s (τ:=NT 0) (OpR.asn S.ok rfl (rfl : _ = nv .i64 0)) rfl fun a w G S=>?_
 refine wn hK ?_;clear hK K
 refine wp_seq_k fun K hK=>?_
 refine wp_reg fun K hK=>?_
 refine S.m rfl (S.g 2 rfl) rfl fun a w G S=>?_
 refine S.s (OpR.lenL S.ok rfl Tryz.underlying22 (SN.toSL (S.g 0 rfl)) MT.self) rfl fun a w G S=>?_
 refine S.m rfl (S.g 3 rfl) rfl fun a w G S=>?_
 refine S.s (OpR.lenL S.ok rfl Tryz.underlying22 (SN.toSL (S.g 0 rfl)) MT.self) rfl fun a w G S=>?_
 refine S.s (OpR.nmax S.ok rfl (S.e 2 rfl) (S.e 0 rfl) MT.self) rfl fun a w G S=>?_
 refine S.s (τ:=IT (((max ((words (x)).length) ((words (y)).length) : Nat) : Int) - ((1 : Nat) : Int))) (OpR.isub S.ok rfl (S.e 0 rfl) (rfl : _ = nv .i64 1) (iw_i64 (by omega) (by omega))) rfl fun a w G S=>?_
 refine S.q rfl (S.g 0 rfl) rfl fun a w G S=>?_
 refine wn hK ?_;clear hK K
 replace S:=S.d6.d5.d4.d3.d2.d1
 refine wp_block ?_
 replace S:=S.also (t:=5) (τ:=IT ((((max (words x).length (words y).length) : Nat) : Int) - ((1 : Nat) : Int))) ((S.e 0 rfl).trans (iv_eq (by first | rfl | omega | (simp only [Nat.zero_add,Nat.add_zero];done) | (simp;done) | (push_cast;omega))))
 refine wp_loopJ (fun μ a w=>∃ (k : Nat) (G : Gh),μ = k ∧ (k ≤ max (words x).length (words y).length) ∧ (val ((words x).drop k) = val ((words y).drop k)) ∧  St W0 G0 30 [(5,IT (((k : Nat) : Int) - ((1 : Nat) : Int))),(4,NT 0),(1,SN nb y),(0,SN na x)] [] a w G) ((max (words x).length (words y).length)) ⟨(max (words x).length (words y).length),_,rfl,(Nat.le_refl _),(by rw [List.drop_of_length_le (by omega),List.drop_of_length_le (by omega)]),(S.keep [0,2,3,4]).keepB [] (by decide)⟩ ?_
 clear S
 intro μ a w ⟨k,G,hm,hkm,he,S⟩
 refine wp_seq_k fun K hK=>?_
 refine wp_reg fun K hK=>?_
 refine S.m rfl (S.g 0 rfl) rfl fun a w G S=>?_
 refine S.s (OpR.igeq S.ok rfl (S.e 0 rfl) (rfl : _ = nv .i64 0) MT.self) rfl fun a w G S=>?_
 refine wn hK ?_;clear hK K
 replace S:=S.d1
 refine S.cond 0 rfl (fun hc1=>?_) (fun hc1=>?_)
 ·
  have hp2:=of_decide_eq_true hc1
  refine wp_skip ?_
  refine hK _ _ ?_;clear hK K
  refine wp_seq_k fun K hK=>?_
  refine wp_block ?_
  refine wp_reg fun K hK=>?_
  have hkk : ((k : Nat) : Int) - ((1 : Nat) : Int) = ((k - 1 : Nat) : Int):=by omega
  refine S.m rfl (S.g 4 rfl) rfl fun a w G S=>?_
  refine S.m rfl (S.g 2 rfl) rfl fun a w G S=>?_
  refine S.s (τ:=MT.ex (nv .u64 (dig (words (x)) (k - 1)))) (OpR.call2 rfl c_130 (rat_ok S.ok (SN.toSL (S.g 1 rfl)) (iv_at (S.g 0 rfl) (by omega)))) rfl fun a w G S=>?_
  refine S.m rfl (S.g 6 rfl) rfl fun a w G S=>?_
  refine S.m rfl (S.g 5 rfl) rfl fun a w G S=>?_
  refine S.s (τ:=MT.ex (nv .u64 (dig (words (y)) (k - 1)))) (OpR.call2 rfl c_130 (rat_ok S.ok (SN.toSL (S.g 1 rfl)) (iv_at (S.g 0 rfl) (by omega)))) rfl fun a w G S=>?_
  refine S.s (OpR.nneq S.ok rfl (S.e 3 rfl) (S.e 0 rfl) MT.self) rfl fun a w G S=>?_
  refine wn hK ?_;clear hK K
  replace S:=S.d6.d5.d4.d3.d2.d1
  refine S.cond 0 rfl (fun hc3=>?_) (fun hc3=>?_)
  ·
   have hp4:=of_decide_eq_true hc3
   refine wp_seq_k fun K hK=>?_
   refine wp_reg fun K hK=>?_
   refine S.m rfl (S.g 5 rfl) rfl fun a w G S=>?_
   refine S.m rfl (S.g 3 rfl) rfl fun a w G S=>?_
   refine S.s (τ:=MT.ex (nv .u64 (dig (words (x)) (k - 1)))) (OpR.call2 rfl c_130 (rat_ok S.ok (SN.toSL (S.g 1 rfl)) (iv_at (S.g 0 rfl) (by omega)))) rfl fun a w G S=>?_
   refine S.m rfl (S.g 7 rfl) rfl fun a w G S=>?_
   refine S.m rfl (S.g 6 rfl) rfl fun a w G S=>?_
   refine S.s (τ:=MT.ex (nv .u64 (dig (words (y)) (k - 1)))) (OpR.call2 rfl c_130 (rat_ok S.ok (SN.toSL (S.g 1 rfl)) (iv_at (S.g 0 rfl) (by omega)))) rfl fun a w G S=>?_
   refine S.s (OpR.nlss S.ok rfl (S.e 3 rfl) (S.e 0 rfl) MT.self) rfl fun a w G S=>?_
   refine wn hK ?_;clear hK K
   replace S:=S.d6.d5.d4.d3.d2.d1
   refine S.cond 0 rfl (fun hc5=>?_) (fun hc5=>?_)
   ·
    have hp6:=of_decide_eq_true hc5
    refine wp_reg fun K hK=>?_
    replace S:=S.d4
    refine S.s (τ:=IT (-1)) (OpR.asn S.ok rfl (rfl : _ = Value.int .i64 (-1))) rfl fun a w G S=>?_
    refine wn hK ?_;clear hK K
    exact wp_ret (then_ret (block_ret (then_ret (then_ret (block_ret (then_ret (S.retTmp rfl ((S.e 0 rfl).trans (iv_eq (cmp_of_lt (lt_of_dig (by omega) he ‹_›)))))))))))
   ·
    have hp7:=of_decide_eq_false hc5
    refine wp_skip ?_
    refine hK _ _ ?_;clear hK K
    refine wp_reg fun K hK=>?_
    replace S:=S.d4
    refine S.s (τ:=NT 1) (OpR.asn S.ok rfl (rfl : _ = nv .i64 1)) rfl fun a w G S=>?_
    refine wn hK ?_;clear hK K
    exact wp_ret (block_ret (then_ret (then_ret (block_ret (then_ret (S.retTmp rfl ((S.e 0 rfl).trans (iv_eq (cmp_of_gt (lt_of_dig (by omega) he.symm (by omega)))))))))))
  ·
   have hp8:=of_decide_eq_false hc3
   refine wp_skip ?_
   refine hK _ _ ?_;clear hK K
   refine wp_region_lit ?_
   refine S.m rfl (S.g 2 rfl) rfl fun a w G S=>?_
   refine S.s (τ:=IT ((((k : Nat) : Int) - ((1 : Nat) : Int)) - 1)) (OpR.isub S.ok rfl (S.e 0 rfl) (rfl : _ = nv .i64 1) (iw_i64 (by omega) (by omega))) rfl fun a w G S=>?_
   replace S:=S.d4
   refine S.q rfl (S.g 0 rfl) rfl fun a w G S=>?_
   refine wpList_nil ?_
   replace S:=S.d2.d1
   replace S:=S.also (t:=5) (τ:=IT ((((k - 1) : Nat) : Int) - ((1 : Nat) : Int))) ((S.e 0 rfl).trans (iv_eq (by first | rfl | omega | (simp only [Nat.zero_add,Nat.add_zero];done) | (simp;done) | (push_cast;omega))))
   exact ⟨(k - 1),(by omega),(k - 1),_,rfl,(by omega),(drop_step (by omega) he ‹_›),(S.keep [0,4,5,6]).keepB [] (by decide)⟩
 ·
  have hp9:=of_decide_eq_false hc1
  refine wp_exit (then_exit (then_exit (exit_same ?_)))
  clear hK K
  refine hK _ _ ?_;clear hK K
  refine wp_reg fun K hK=>?_
  replace S:=S.d2
  refine S.s (τ:=NT 0) (OpR.asn S.ok rfl (rfl : _ = nv .i64 0)) rfl fun a w G S=>?_
  refine wn hK ?_;clear hK K
  exact wp_ret (S.retTmp rfl ((S.e 0 rfl).trans (iv_eq (cmp_of_eq (eq_of_drop (by omega) he)))))
end Go.Proofs.YtpbkcbnghhodiaaGreat
namespace Go.Proofs.YtpbkcbnghhodiaaGreat
set_option maxHeartbeats 1000000
set_option maxRecDepth 100000
open Go.RowKit (Below)
private theorem c_123 : callable Tryz.prog 123 = true:=by kernel_rfl
theorem rplus_ok {na nb x y : Nat} {v1 v2 : Value} {W0 : World} {G0 : Gh} (hok : Gok W0 G0) (h1 : (SN na x).t v1 G0) (h2 : (SN nb y).t v2 G0) (hna : na ≤ BIG) (hnb : nb ≤ BIG) : Calls Tryz.prog 114 #[v1,v2] W0 (Ret W0 G0 (SN (max na nb + 1) (x + y))):=by
 have hla:=words_length_bits (SN.lt h1)
 have hlb:=words_length_bits (SN.lt h2)
 simp only [BIG] at hna hnb
 have ha:=SN.lt h1
 have hb:=SN.lt h2
 refine St.enter (N:=37) (L:=[(1,SN nb y),(0,SN na x)]) (args:=[v1,v2]) Tryz.func114 rfl rfl rfl hok (enter2 h1 h2) fun a S=>?_
 refine wp_reg fun K hK=>?_
 refine S.s (τ:=MT.ex (Value.slice none 0 0)) (OpR.asn S.ok rfl rfl) rfl fun a w G S=>?_
 refine wn hK ?_;clear hK K
 refine wp_reg fun K hK=>?_
 refine S.s (τ:=MT.ex (Value.slice none 0 0)) (OpR.asn S.ok rfl rfl) rfl fun a w G S=>?_
 refine wn hK ?_;clear hK K
 refine wp_reg fun K hK=>?_
 refine S.s (τ:=MT.ex (nv .u64 (0))) (OpR.asn S.ok rfl (rfl : _ = nv .u64 0)) rfl fun a w G S=>?_
 refine wn hK ?_;clear hK K
 refine wp_seq_k fun K hK=>?_
 refine wp_reg fun K hK=>?_
 refine S.m rfl (S.g 4 rfl) rfl fun a w G S=>?_
 refine S.s (OpR.lenL S.ok rfl Tryz.underlying22 (SN.toSL (S.g 0 rfl)) MT.self) rfl fun a w G S=>?_
 refine S.m rfl (S.g 5 rfl) rfl fun a w G S=>?_
 refine S.s (OpR.lenL S.ok rfl Tryz.underlying22 (SN.toSL (S.g 0 rfl)) MT.self) rfl fun a w G S=>?_
 refine S.s (OpR.nmax S.ok rfl (S.e 2 rfl) (S.e 0 rfl) MT.self) rfl fun a w G S=>?_
 refine S.s (OpR.nadd S.ok rfl (S.e 0 rfl) (rfl : _ = nv .i64 1) (wr_i64 (by omega)) MT.self) rfl fun a w G S=>?_
 refine S.s (τ:=NT 0) (OpR.mv S.ok rfl (rfl : _ = nv .i64 0)) rfl fun a w G S=>?_
 refine wn hK ?_;clear hK K
 replace S:=S.d6.d5.d4.d3.d2
 refine wp_block ?_
 replace S:=S.also (t:=5) (τ:=MT.ex ((Value.slice none 0 0))) ((S.e 3 rfl).trans (by first | rfl | omega | (simp only [Nat.zero_add,Nat.add_zero];done) | (simp;done) | (push_cast;omega)))
 refine wp_loopJ (fun μ a w=>∃ (k : Nat) (c : Nat) (l : List Nat) (v : Value) (own : List BX) (G : Gh),μ = max (words x).length (words y).length + 1 - k ∧ (k ≤ max (words x).length (words y).length + 1) ∧ (c ≤ 1) ∧ (l.length = k) ∧ (wfl l) ∧ (OWN 141 v own l) ∧ (val l + 4294967296 ^ k * c = val ((words x).take k) + val ((words y).take k)) ∧  St W0 G0 37 [(15,NT k),(14,NT ((max ((words (x)).length) ((words (y)).length)) + 1)),(6,MT.ex (nv .u64 (c))),(5,MT.ex (v)),(4,MT.ex (Value.slice none 0 0)),(1,SN nb y),(0,SN na x)] (own) a w G) (max (words x).length (words y).length + 1 - 0) ⟨0,0,[],(Value.slice none 0 0),[],_,rfl,(by omega),(by omega),rfl,wfl_nil,OWN.nil,(by simp [val]),(S.keep [1,2,3,0,5,6,7]).keepB [] (by decide)⟩ ?_
 clear S
 intro μ a w ⟨k,c,l,v,own,G,hm,hk,hc,hl,hw,hr,hv,S⟩
 have hda:=dig_lt (wfl_words x) k
 have hdb:=dig_lt (wfl_words y) k
 refine wp_reg fun K hK=>?_
 refine S.s (OpR.nlss S.ok rfl (S.e 0 rfl) (S.e 1 rfl) MT.self) rfl fun a w G S=>?_
 refine wn hK ?_;clear hK K
 refine wp_seq_k fun K hK=>?_
 refine S.cond 0 rfl (fun hc1=>?_) (fun hc1=>?_)
 ·
  have hp2:=of_decide_eq_true hc1
  refine wp_skip ?_
  refine hK _ _ ?_;clear hK K
  refine wp_seq_k fun K hK=>?_
  refine wp_block ?_
  refine wp_reg fun K hK=>?_
  refine S.m rfl (S.g 1 rfl) rfl fun a w G S=>?_
  refine S.q rfl (S.g 0 rfl) rfl fun a w G S=>?_
  refine wn hK ?_;clear hK K
  replace S:=S.d1
  refine wp_reg fun K hK=>?_
  refine S.m rfl (S.g 8 rfl) rfl fun a w G S=>?_
  refine S.m rfl (S.g 1 rfl) rfl fun a w G S=>?_
  refine S.s (τ:=MT.ex (nv .u64 (dig (words (x)) k))) (OpR.call2 rfl c_130 (rat_ok S.ok (SN.toSL (S.g 1 rfl)) (S.g 0 rfl))) rfl fun a w G S=>?_
  refine S.m rfl (S.g 10 rfl) rfl fun a w G S=>?_
  refine S.m rfl (S.g 4 rfl) rfl fun a w G S=>?_
  refine S.s (τ:=MT.ex (nv .u64 (dig (words (y)) k))) (OpR.call2 rfl c_130 (rat_ok S.ok (SN.toSL (S.g 1 rfl)) (S.g 0 rfl))) rfl fun a w G S=>?_
  refine S.s (OpR.nadd S.ok rfl (S.e 3 rfl) (S.e 0 rfl) (wr_u64 (by omega)) MT.self) rfl fun a w G S=>?_
  refine S.m rfl (S.g 11 rfl) rfl fun a w G S=>?_
  refine S.s (OpR.nadd S.ok rfl (S.e 1 rfl) (S.e 0 rfl) (wr_u64 (by omega)) MT.self) rfl fun a w G S=>?_
  refine S.q rfl (S.g 0 rfl) rfl fun a w G S=>?_
  refine wn hK ?_;clear hK K
  replace S:=S.d10.d9.d8.d7.d6.d5.d4.d3.d2.d1
  refine wp_region_lit ?_
  refine S.m rfl (S.g 5 rfl) rfl fun a w G S=>?_
  refine S.m rfl (S.g 1 rfl) rfl fun a w G S=>?_
  refine S.s (OpR.nconv32 S.ok rfl (S.e 0 rfl) it_147 it_141 MT.self) rfl fun a w G S=>?_
  refine S.s (τ:=SL ([(((dig (words (x)) k) + (dig (words (y)) k)) + c) % 4294967296])) (OpR.build32 S.ok rfl Tryz.underlying22 el_141 (by omega) rfl (by simp [wfl] <;> omega) (fill1 (S.e 0 rfl))) rfl fun a w G S=>?_
  refine S.app1 (Bh:=[]) (own:=own) (l:=l) (z:=(dig (words x) k + dig (words y) k + c) % 4294967296) rfl rfl rfl Tryz.underlying22 el_141 (S.e 3 rfl) hr (S.g 0 rfl) (by simp only [LIM];omega) rfl rfl fun v1 own1 a w G hr1 S=>?_
  replace S : St W0 G0 37 [(31,MT.ex (v1)),(30,SL ([(((dig (words (x)) k) + (dig (words (y)) k)) + c) % 4294967296])),(29,MT.ex (nv .u32 ((((dig (words (x)) k) + (dig (words (y)) k)) + c) % 4294967296))),(28,MT.ex (nv .u64 (((dig (words (x)) k) + (dig (words (y)) k)) + c))),(27,MT.ex (v)),(8,MT.ex (nv .u64 (((dig (words (x)) k) + (dig (words (y)) k)) + c))),(16,BT (decide (k < ((max ((words (x)).length) ((words (y)).length)) + 1)))),(15,NT k),(14,NT ((max ((words (x)).length) ((words (y)).length)) + 1)),(6,MT.ex (nv .u64 (c))),(5,MT.ex (v)),(4,MT.ex (Value.slice none 0 0)),(1,SN nb y),(0,SN na x)] (own1) a _ _:=S
  refine S.m rfl (S.g 5 rfl) rfl fun a w G S=>?_
  refine S.s (OpR.nshr S.ok rfl (S.e 0 rfl) (rfl : _ = nv .u64 32) (by decide) MT.self) rfl fun a w G S=>?_
  replace S:=S.d12
  refine S.q rfl (S.g 2 rfl) rfl fun a w G S=>?_
  replace S:=S.d12
  refine S.q rfl (S.g 1 rfl) rfl fun a w G S=>?_
  refine wpList_nil ?_
  replace S:=S.d9.d8.d7.d6.d5.d4.d3.d2
  refine hK _ _ ?_;clear hK K
  refine wp_region_lit ?_
  refine S.s (OpR.nadd S.ok rfl (S.e 3 rfl) (rfl : _ = nv .i64 1) (wr_i64 (by omega)) MT.self) rfl fun a w G S=>?_
  replace S:=S.d4
  refine S.m rfl (S.g 0 rfl) rfl fun a w G S=>?_
  refine wpList_nil ?_
  replace S:=S.d1
  replace S:=S.also (t:=6) (τ:=MT.ex (nv .u64 (((((dig (words (x)) k) + (dig (words (y)) k)) + c) / 2 ^ 32)))) ((S.e 1 rfl).trans (nv_eq (by first | rfl | omega | (simp only [Nat.zero_add,Nat.add_zero];done) | (simp;done) | (push_cast;omega))))
  exact ⟨max (words x).length (words y).length + 1 - (k + 1),(by omega),k + 1,(((dig (words (x)) k) + (dig (words (y)) k)) + c) / 2 ^ 32,(l ++ [(dig (words x) k + dig (words y) k + c) % 4294967296]),v1,own1,_,rfl,(by omega),(by omega),(by simp [hl]),(wfl_app hw (Nat.mod_lt _ (by decide))),hr1,(radd_step hl hv),S.keep [1,5,0,3,6,7,8]⟩
 ·
  have hp3:=of_decide_eq_false hc1
  refine wp_exit (then_exit (then_exit (exit_same ?_)))
  clear hK K
  refine hK _ _ ?_;clear hK K
  refine wp_reg fun K hK=>?_
  obtain ⟨Gz,hsl,hle,S⟩:=S.freezeRow (Bh:=[]) hr (by simp only [LIM];omega) hw
  replace S:=S.also (t:=5) (τ:=SL l) ((S.e 4 rfl).symm ▸ hsl)
  replace S : St W0 G0 37 [(5,SL l),(16,BT (decide (k < ((max ((words (x)).length) ((words (y)).length)) + 1)))),(15,NT k),(14,NT ((max ((words (x)).length) ((words (y)).length)) + 1)),(6,MT.ex (nv .u64 (c))),(5,MT.ex (v)),(4,MT.ex (Value.slice none 0 0)),(1,SN nb y),(0,SN na x)] [] a _ _:=S
  refine S.m rfl (S.g 0 rfl) rfl fun a w G S=>?_
  refine S.s (τ:=SN (max na nb + 1) (x + y)) (OpR.call1 rfl c_123 (rtrim_ok S.ok (SL.asSV (S.g 0 rfl) ⟨radd_fin hl ‹_› hk hv hc,add_lt_pow ha hb⟩))) rfl fun a w G S=>?_
  replace S:=S.d8
  refine S.q rfl (S.g 0 rfl) rfl fun a w G S=>?_
  refine wn hK ?_;clear hK K
  replace S:=S.d8.d2.d1
  exact wp_ret (S.retTmp rfl (S.g 0 rfl))
theorem rminus_ok {na nb x y : Nat} {v1 v2 : Value} {W0 : World} {G0 : Gh} (hok : Gok W0 G0) (h1 : (SN na x).t v1 G0) (h2 : (SN nb y).t v2 G0) (hle0 : y ≤ x) : Calls Tryz.prog 116 #[v1,v2] W0 (Ret W0 G0 (SN na (x - y))):=by
 have hlim:=SL.lim (SN.toSL h1)
 have hx:=SN.lt h1
 simp only [LIM] at hlim
 refine St.enter (N:=35) (L:=[(1,SN nb y),(0,SN na x)]) (args:=[v1,v2]) Tryz.func116 rfl rfl rfl hok (enter2 h1 h2) fun a S=>?_
 refine wp_reg fun K hK=>?_
 refine S.s (τ:=MT.ex (Value.slice none 0 0)) (OpR.asn S.ok rfl rfl) rfl fun a w G S=>?_
 refine wn hK ?_;clear hK K
 refine wp_reg fun K hK=>?_
 refine S.s (τ:=MT.ex (Value.slice none 0 0)) (OpR.asn S.ok rfl rfl) rfl fun a w G S=>?_
 refine wn hK ?_;clear hK K
 refine wp_reg fun K hK=>?_
 refine S.s (τ:=MT.ex (nv .u64 (0))) (OpR.asn S.ok rfl (rfl : _ = nv .u64 0)) rfl fun a w G S=>?_
 refine wn hK ?_;clear hK K
 refine wp_seq_k fun K hK=>?_
 refine wp_reg fun K hK=>?_
 refine S.m rfl (S.g 4 rfl) rfl fun a w G S=>?_
 refine S.s (OpR.lenL S.ok rfl Tryz.underlying22 (SN.toSL (S.g 0 rfl)) MT.self) rfl fun a w G S=>?_
 refine S.s (τ:=NT 0) (OpR.mv S.ok rfl (rfl : _ = nv .i64 0)) rfl fun a w G S=>?_
 refine wn hK ?_;clear hK K
 replace S:=S.d2
 refine wp_block ?_
 replace S:=S.also (t:=5) (τ:=MT.ex ((Value.slice none 0 0))) ((S.e 3 rfl).trans (by first | rfl | omega | (simp only [Nat.zero_add,Nat.add_zero];done) | (simp;done) | (push_cast;omega)))
 refine wp_loopJ (fun μ a w=>∃ (k : Nat) (c : Nat) (l : List Nat) (v : Value) (own : List BX) (G : Gh),μ = (words x).length - k ∧ (k ≤ (words x).length) ∧ (c ≤ 1) ∧ (l.length = k) ∧ (wfl l) ∧ (OWN 141 v own l) ∧ (val l + val ((words y).take k) = val ((words x).take k) + 4294967296 ^ k * c) ∧  St W0 G0 35 [(11,NT k),(10,NT ((words (x)).length)),(6,MT.ex (nv .u64 (c))),(5,MT.ex (v)),(4,MT.ex (Value.slice none 0 0)),(1,SN nb y),(0,SN na x)] (own) a w G) ((words x).length - 0) ⟨0,0,[],(Value.slice none 0 0),[],_,rfl,(by omega),(by omega),rfl,wfl_nil,OWN.nil,(by simp [val]),(S.keep [1,2,3,0,5,6,7]).keepB [] (by decide)⟩ ?_
 clear S
 intro μ a w ⟨k,c,l,v,own,G,hm,hk,hc,hl,hw,hr,hv,S⟩
 have hda:=dig_lt (wfl_words x) k
 have hdb:=dig_lt (wfl_words y) k
 refine wp_reg fun K hK=>?_
 refine S.s (OpR.nlss S.ok rfl (S.e 0 rfl) (S.e 1 rfl) MT.self) rfl fun a w G S=>?_
 refine wn hK ?_;clear hK K
 refine wp_seq_k fun K hK=>?_
 refine S.cond 0 rfl (fun hc1=>?_) (fun hc1=>?_)
 ·
  have hp2:=of_decide_eq_true hc1
  refine wp_skip ?_
  refine hK _ _ ?_;clear hK K
  refine wp_seq_k fun K hK=>?_
  refine wp_block ?_
  refine wp_reg fun K hK=>?_
  refine S.m rfl (S.g 1 rfl) rfl fun a w G S=>?_
  refine S.q rfl (S.g 0 rfl) rfl fun a w G S=>?_
  refine wn hK ?_;clear hK K
  replace S:=S.d1
  refine wp_reg fun K hK=>?_
  refine S.m rfl (S.g 8 rfl) rfl fun a w G S=>?_
  refine S.m rfl (S.g 1 rfl) rfl fun a w G S=>?_
  refine S.s (τ:=MT.ex (nv .u64 (dig (words (x)) k))) (OpR.call2 rfl c_130 (rat_ok S.ok (SN.toSL (S.g 1 rfl)) (S.g 0 rfl))) rfl fun a w G S=>?_
  refine S.s (OpR.nadd S.ok rfl (rfl : _ = nv .u64 4294967296) (S.e 0 rfl) (wr_u64 (by omega)) MT.self) rfl fun a w G S=>?_
  refine S.m rfl (S.g 11 rfl) rfl fun a w G S=>?_
  refine S.m rfl (S.g 5 rfl) rfl fun a w G S=>?_
  refine S.s (τ:=MT.ex (nv .u64 (dig (words (y)) k))) (OpR.call2 rfl c_130 (rat_ok S.ok (SN.toSL (S.g 1 rfl)) (S.g 0 rfl))) rfl fun a w G S=>?_
  refine S.s (OpR.nsub S.ok rfl (S.e 3 rfl) (S.e 0 rfl) (by omega) (wr_u64 (by omega)) MT.self) rfl fun a w G S=>?_
  refine S.m rfl (S.g 12 rfl) rfl fun a w G S=>?_
  refine S.s (OpR.nsub S.ok rfl (S.e 1 rfl) (S.e 0 rfl) (by omega) (wr_u64 (by omega)) MT.self) rfl fun a w G S=>?_
  refine S.q rfl (S.g 0 rfl) rfl fun a w G S=>?_
  refine wn hK ?_;clear hK K
  replace S:=S.d11.d10.d9.d8.d7.d6.d5.d4.d3.d2.d1
  refine wp_region_lit ?_
  refine S.m rfl (S.g 5 rfl) rfl fun a w G S=>?_
  refine S.m rfl (S.g 1 rfl) rfl fun a w G S=>?_
  refine S.s (OpR.nconv32 S.ok rfl (S.e 0 rfl) it_147 it_141 MT.self) rfl fun a w G S=>?_
  refine S.s (τ:=SL ([(((4294967296 + (dig (words (x)) k)) - (dig (words (y)) k)) - c) % 4294967296])) (OpR.build32 S.ok rfl Tryz.underlying22 el_141 (by omega) rfl (by simp [wfl] <;> omega) (fill1 (S.e 0 rfl))) rfl fun a w G S=>?_
  refine S.app1 (Bh:=[]) (own:=own) (l:=l) (z:=(4294967296 + dig (words x) k - dig (words y) k - c) % 4294967296) rfl rfl rfl Tryz.underlying22 el_141 (S.e 3 rfl) hr (S.g 0 rfl) (by simp only [LIM];omega) rfl rfl fun v1 own1 a w G hr1 S=>?_
  replace S : St W0 G0 35 [(28,MT.ex (v1)),(27,SL ([(((4294967296 + (dig (words (x)) k)) - (dig (words (y)) k)) - c) % 4294967296])),(26,MT.ex (nv .u32 ((((4294967296 + (dig (words (x)) k)) - (dig (words (y)) k)) - c) % 4294967296))),(25,MT.ex (nv .u64 (((4294967296 + (dig (words (x)) k)) - (dig (words (y)) k)) - c))),(24,MT.ex (v)),(8,MT.ex (nv .u64 (((4294967296 + (dig (words (x)) k)) - (dig (words (y)) k)) - c))),(12,BT (decide (k < ((words (x)).length)))),(11,NT k),(10,NT ((words (x)).length)),(6,MT.ex (nv .u64 (c))),(5,MT.ex (v)),(4,MT.ex (Value.slice none 0 0)),(1,SN nb y),(0,SN na x)] (own1) a _ _:=S
  refine S.m rfl (S.g 5 rfl) rfl fun a w G S=>?_
  refine S.s (OpR.nshr S.ok rfl (S.e 0 rfl) (rfl : _ = nv .u64 32) (by decide) MT.self) rfl fun a w G S=>?_
  refine S.s (OpR.nsub S.ok rfl (rfl : _ = nv .u64 1) (S.e 0 rfl) (by omega) (wr_u64 (by omega)) MT.self) rfl fun a w G S=>?_
  replace S:=S.d13
  refine S.q rfl (S.g 3 rfl) rfl fun a w G S=>?_
  replace S:=S.d13
  refine S.q rfl (S.g 1 rfl) rfl fun a w G S=>?_
  refine wpList_nil ?_
  replace S:=S.d10.d9.d8.d7.d6.d5.d4.d3.d2
  refine hK _ _ ?_;clear hK K
  refine wp_region_lit ?_
  refine S.s (OpR.nadd S.ok rfl (S.e 3 rfl) (rfl : _ = nv .i64 1) (wr_i64 (by omega)) MT.self) rfl fun a w G S=>?_
  replace S:=S.d4
  refine S.m rfl (S.g 0 rfl) rfl fun a w G S=>?_
  refine wpList_nil ?_
  replace S:=S.d1
  replace S:=S.also (t:=6) (τ:=MT.ex (nv .u64 ((1 - ((((4294967296 + (dig (words (x)) k)) - (dig (words (y)) k)) - c) / 2 ^ 32))))) ((S.e 1 rfl).trans (nv_eq (by first | rfl | omega | (simp only [Nat.zero_add,Nat.add_zero];done) | (simp;done) | (push_cast;omega))))
  exact ⟨(words x).length - (k + 1),(by omega),k + 1,1 - ((((4294967296 + (dig (words (x)) k)) - (dig (words (y)) k)) - c) / 2 ^ 32),(l ++ [(4294967296 + dig (words x) k - dig (words y) k - c) % 4294967296]),v1,own1,_,rfl,(by omega),(by omega),(by simp [hl]),(wfl_app hw (Nat.mod_lt _ (by decide))),hr1,(rsub_step hl hda hdb hc hv),S.keep [1,5,0,3,6,7,8]⟩
 ·
  have hp3:=of_decide_eq_false hc1
  refine wp_exit (then_exit (then_exit (exit_same ?_)))
  clear hK K
  refine hK _ _ ?_;clear hK K
  refine wp_reg fun K hK=>?_
  obtain ⟨Gz,hsl,hle,S⟩:=S.freezeRow (Bh:=[]) hr (by simp only [LIM];omega) hw
  replace S:=S.also (t:=5) (τ:=SL l) ((S.e 4 rfl).symm ▸ hsl)
  replace S : St W0 G0 35 [(5,SL l),(12,BT (decide (k < ((words (x)).length)))),(11,NT k),(10,NT ((words (x)).length)),(6,MT.ex (nv .u64 (c))),(5,MT.ex (v)),(4,MT.ex (Value.slice none 0 0)),(1,SN nb y),(0,SN na x)] [] a _ _:=S
  refine S.m rfl (S.g 0 rfl) rfl fun a w G S=>?_
  refine S.s (τ:=SN na (x - y)) (OpR.call1 rfl c_123 (rtrim_ok S.ok (SL.asSV (S.g 0 rfl) ⟨rsub_fin hle0 hl hw ‹_› hk hv hc,by omega⟩))) rfl fun a w G S=>?_
  replace S:=S.d8
  refine S.q rfl (S.g 0 rfl) rfl fun a w G S=>?_
  refine wn hK ?_;clear hK K
  replace S:=S.d8.d2.d1
  exact wp_ret (S.retTmp rfl (S.g 0 rfl))
end Go.Proofs.YtpbkcbnghhodiaaGreat
namespace Go.Proofs.YtpbkcbnghhodiaaGreat
set_option maxHeartbeats 1000000
set_option maxRecDepth 100000
open Go.RowKit (Below)
theorem rtimes_ok {na nb x y : Nat} {v1 v2 : Value} {W0 : World} {G0 : Gh} (hok : Gok W0 G0) (h1 : (SN na x).t v1 G0) (h2 : (SN nb y).t v2 G0) (hn : na + nb ≤ BIG) : Calls Tryz.prog 117 #[v1,v2] W0 (Ret W0 G0 (SN (na + nb) (x * y))):=by
 have hla:=words_length_bits (SN.lt h1)
 have hlb:=words_length_bits (SN.lt h2)
 simp only [BIG] at hn
 have hx:=SN.lt h1
 have hy:=SN.lt h2
 refine St.enter (N:=68) (L:=[(1,SN nb y),(0,SN na x)]) (args:=[v1,v2]) Tryz.func117 rfl rfl rfl hok (enter2 h1 h2) fun a S=>?_
 refine wp_reg fun K hK=>?_
 refine S.s (τ:=MT.ex (Value.slice none 0 0)) (OpR.asn S.ok rfl rfl) rfl fun a w G S=>?_
 refine wn hK ?_;clear hK K
 refine wp_reg fun K hK=>?_
 refine S.m rfl (S.g 2 rfl) rfl fun a w G S=>?_
 refine S.s (OpR.lenL S.ok rfl Tryz.underlying22 (SN.toSL (S.g 0 rfl)) MT.self) rfl fun a w G S=>?_
 refine S.m rfl (S.g 3 rfl) rfl fun a w G S=>?_
 refine S.s (OpR.lenL S.ok rfl Tryz.underlying22 (SN.toSL (S.g 0 rfl)) MT.self) rfl fun a w G S=>?_
 refine S.s (OpR.nadd S.ok rfl (S.e 2 rfl) (S.e 0 rfl) (wr_i64 (by omega)) MT.self) rfl fun a w G S=>?_
 refine S.mkSlice (n:=((words (x)).length) + ((words (y)).length)) rfl rfl rfl Tryz.underlying22 el_141 (S.e 0 rfl) (S.e 0 rfl) rfl rfl (by omega) (by omega) rfl rfl fun b15 a w G S=>?_
 refine S.q rfl (S.g 0 rfl) rfl fun a w G S=>?_
 refine wn hK ?_;clear hK K
 replace S:=S.d6.d5.d4.d3.d2.d1
 refine wp_seq_k fun K hK=>?_
 refine wp_reg fun K hK=>?_
 refine S.m rfl (S.g 3 rfl) rfl fun a w G S=>?_
 refine S.s (OpR.lenL S.ok rfl Tryz.underlying22 (SN.toSL (S.g 0 rfl)) MT.self) rfl fun a w G S=>?_
 refine S.s (τ:=NT 0) (OpR.mv S.ok rfl (rfl : _ = nv .i64 0)) rfl fun a w G S=>?_
 refine wn hK ?_;clear hK K
 replace S:=S.d2
 refine wp_block ?_
 replace S:=S.castBox (τ':=MT.ex (Value.agg (ucells ((List.replicate (((words (x)).length) + ((words (y)).length)) 0))).toArray)) 0 rfl fun _ h _=>Eq.trans h (congrArg (fun l=>Value.agg (ucells l).toArray) (by simp))
 replace S:=S.n0
 refine wp_loopJ (fun μ a w=>∃ (i : Nat) (o : List Nat) (G : Gh),μ = (words x).length - i ∧ (i ≤ (words x).length) ∧ (o.length = (words x).length + (words y).length) ∧ (wfl o) ∧ (val o = val ((words x).take i) * val (words y)) ∧ (∀ j,i + (words y).length ≤ j → dig o j = 0) ∧  St W0 G0 68 [(18,NT i),(17,NT ((words (x)).length)),(5,MT.ex (Value.slice (some ⟨b15,0,none⟩) (((words (x)).length) + ((words (y)).length)) (((words (x)).length) + ((words (y)).length)))),(4,MT.ex (Value.slice none 0 0)),(1,SN nb y),(0,SN na x)] [⟨b15,141,some (((words (x)).length) + ((words (y)).length)),MT.ex (Value.agg (ucells (o)).toArray)⟩] a w G) ((words x).length - 0) ⟨0,List.replicate (((words (x)).length) + ((words (y)).length)) 0,_,rfl,(by omega),(by simp),(wfl_replicate _),(by simp [val,val_replicate_zero]),(fun j _=>dig_replicate),(S.keep [0,1,2,3,4,5]).keepB [0] (by decide)⟩ ?_
 clear S
 intro μ a w ⟨i,o,G,hm,hi,ho,hw,hv,hz,S⟩
 have hdx:=dig_lt (wfl_words x) i
 refine wp_reg fun K hK=>?_
 refine S.s (OpR.nlss S.ok rfl (S.e 0 rfl) (S.e 1 rfl) MT.self) rfl fun a w G S=>?_
 refine wn hK ?_;clear hK K
 refine wp_seq_k fun K hK=>?_
 refine S.cond 0 rfl (fun hc1=>?_) (fun hc1=>?_)
 ·
  have hp2:=of_decide_eq_true hc1
  refine wp_skip ?_
  refine hK _ _ ?_;clear hK K
  refine wp_seq_k fun K hK=>?_
  refine wp_block ?_
  refine wp_reg fun K hK=>?_
  refine S.m rfl (S.g 1 rfl) rfl fun a w G S=>?_
  refine S.q rfl (S.g 0 rfl) rfl fun a w G S=>?_
  refine wn hK ?_;clear hK K
  replace S:=S.d1
  refine wp_reg fun K hK=>?_
  refine S.s (τ:=MT.ex (nv .u64 (0))) (OpR.asn S.ok rfl (rfl : _ = nv .u64 0)) rfl fun a w G S=>?_
  refine wn hK ?_;clear hK K
  refine wp_seq_k fun K hK=>?_
  refine wp_reg fun K hK=>?_
  refine S.m rfl (S.g 7 rfl) rfl fun a w G S=>?_
  refine S.s (OpR.lenL S.ok rfl Tryz.underlying22 (SN.toSL (S.g 0 rfl)) MT.self) rfl fun a w G S=>?_
  refine S.s (τ:=NT 0) (OpR.mv S.ok rfl (rfl : _ = nv .i64 0)) rfl fun a w G S=>?_
  refine wn hK ?_;clear hK K
  replace S:=S.d2
  refine wp_block ?_
  refine wp_loopJ (fun μ a w=>∃ (k : Nat) (c : Nat) (q : List Nat) (G : Gh),μ = (words y).length - k ∧ (k ≤ (words y).length) ∧ (c < 4294967296) ∧ (q.length = (words x).length + (words y).length) ∧ (wfl q) ∧ (val q + 4294967296 ^ (i + k) * c = val ((words x).take i) * val (words y) + 4294967296 ^ i * dig (words x) i * val ((words y).take k)) ∧ (∀ j,i + (words y).length ≤ j → dig q j = 0) ∧  St W0 G0 68 [(23,NT k),(22,NT ((words (y)).length)),(7,MT.ex (nv .u64 (c))),(6,NT i),(19,BT (decide (i < ((words (x)).length)))),(18,NT i),(17,NT ((words (x)).length)),(5,MT.ex (Value.slice (some ⟨b15,0,none⟩) (((words (x)).length) + ((words (y)).length)) (((words (x)).length) + ((words (y)).length)))),(4,MT.ex (Value.slice none 0 0)),(1,SN nb y),(0,SN na x)] [⟨b15,141,some (((words (x)).length) + ((words (y)).length)),MT.ex (Value.agg (ucells (q)).toArray)⟩] a w G) ((words y).length - 0) ⟨0,0,o,_,rfl,(by omega),(by omega),ho,hw,(by rw [hv];simp [val]),hz,(S.keep [0,1,2,3,4,5,6,7,8,9,10]).keepB [0] (by decide)⟩ ?_
  clear S
  intro μ a w ⟨k,c,q,G,hm,hk,hc,hq,hwq,hvq,hzq,S⟩
  have hdy:=dig_lt (wfl_words y) k
  have hdq:=dig_lt hwq (i + k)
  have hmb:=mul_bound hdx hdy hc hdq
  have hmb2:=mul_bound' hdx hdy hdq
  refine wp_reg fun K hK=>?_
  refine S.s (OpR.nlss S.ok rfl (S.e 0 rfl) (S.e 1 rfl) MT.self) rfl fun a w G S=>?_
  refine wn hK ?_;clear hK K
  refine wp_seq_k fun K hK=>?_
  refine S.cond 0 rfl (fun hc3=>?_) (fun hc3=>?_)
  ·
   have hp4:=of_decide_eq_true hc3
   refine wp_skip ?_
   refine hK _ _ ?_;clear hK K
   refine wp_seq_k fun K hK=>?_
   refine wp_block ?_
   refine wp_reg fun K hK=>?_
   refine S.m rfl (S.g 1 rfl) rfl fun a w G S=>?_
   refine S.q rfl (S.g 0 rfl) rfl fun a w G S=>?_
   refine wn hK ?_;clear hK K
   replace S:=S.d1
   refine wp_seq_k fun K hK=>?_
   refine S.drawn [⟨26,.g (SN na x),[]⟩,⟨27,.g (NT i),[]⟩,⟨28,.g (PE (none) (MT.ex (nv .u32 (dig (words (x)) (i))))),[0,1]⟩,⟨29,.g (MT.ex (nv .u32 (dig (words (x)) (i)))),[2]⟩,⟨30,.g (MT.ex (nv .u64 (dig (words (x)) (i)))),[3]⟩,⟨31,.g (SN nb y),[]⟩,⟨32,.g (NT k),[]⟩,⟨33,.g (PE (none) (MT.ex (nv .u32 (dig (words (y)) (k))))),[5,6]⟩,⟨34,.g (MT.ex (nv .u32 (dig (words (y)) (k)))),[7]⟩,⟨35,.g (MT.ex (nv .u64 (dig (words (y)) (k)))),[8]⟩,⟨36,.g (MT.ex (nv .u64 ((dig (words (x)) (i)) * (dig (words (y)) (k))))),[4,9]⟩,⟨37,.g (MT.ex (Value.slice (some ⟨b15,0,none⟩) (((words (x)).length) + ((words (y)).length)) (((words (x)).length) + ((words (y)).length)))),[]⟩,⟨38,.g (NT i),[]⟩,⟨39,.g (NT k),[]⟩,⟨40,.g (NT (i + k)),[12,13]⟩,⟨41,.g (MT.ex (Value.pointer (some ⟨b15,i + k,none⟩))),[11,14]⟩,⟨42,.g (MT.ex (nv .u32 (dig (q) (i + k)))),[15]⟩,⟨43,.g (MT.ex (nv .u64 (dig (q) (i + k)))),[16]⟩,⟨44,.g (MT.ex (nv .u64 (((dig (words (x)) (i)) * (dig (words (y)) (k))) + (dig (q) (i + k))))),[10,17]⟩,⟨45,.g (MT.ex (nv .u64 (c))),[]⟩,⟨46,.g (MT.ex (nv .u64 (c + (dig (words x) i * dig (words y) k + dig q (i + k))))),[18,19]⟩,⟨9,.g (MT.ex (nv .u64 (c + (dig (words x) i * dig (words y) k + dig q (i + k))))),[20]⟩] mixedOrders (by kernel_rfl)
    ⟨fun a w G S=>.of rfl (OpR.mv S.ok rfl (S.g 12 rfl)),
     fun a w G S=>.of rfl (OpR.mv S.ok rfl (S.g 5 rfl)),
     fun a w G S=>.of rfl (OpR.ixL (i:=i) S.ok rfl Tryz.underlying22 tS_141 (SN.toSL (S.g 0 rfl)) (S.e 1 rfl) rfl (dig_get (by first | omega | (simp;omega)))),
     fun a w G S=>.of rfl (OpR.ldE S.ok rfl tS_141 (S.g 0 rfl)),
     fun a w G S=>.of rfl (OpR.nconv S.ok rfl (S.e 0 rfl) it_141 it_147 (wr_u64 (by omega)) MT.self),
     fun a w G S=>.of rfl (OpR.mv S.ok rfl (S.g 11 rfl)),
     fun a w G S=>.of rfl (OpR.mv S.ok rfl (S.g 0 rfl)),
     fun a w G S=>.of rfl (OpR.ixL (i:=k) S.ok rfl Tryz.underlying22 tS_141 (SN.toSL (S.g 0 rfl)) (S.e 1 rfl) rfl (dig_get (by first | omega | (simp;omega)))),
     fun a w G S=>.of rfl (OpR.ldE S.ok rfl tS_141 (S.g 0 rfl)),
     fun a w G S=>.of rfl (OpR.nconv S.ok rfl (S.e 0 rfl) it_141 it_147 (wr_u64 (by omega)) MT.self),
     fun a w G S=>.of rfl (OpR.nmul S.ok rfl (S.e 0 rfl) (S.e 1 rfl) (wr_u64 (by omega)) MT.self),
     fun a w G S=>.of rfl (OpR.mv S.ok rfl (S.g 9 rfl)),
     fun a w G S=>.of rfl (OpR.mv S.ok rfl (S.g 5 rfl)),
     fun a w G S=>.of rfl (OpR.mv S.ok rfl (S.g 0 rfl)),
     fun a w G S=>.of rfl (OpR.nadd S.ok rfl (S.e 0 rfl) (S.e 1 rfl) (wr_i64 (by omega)) MT.self),
     fun a w G S=>.of rfl (OpR.ixA (i:=i + k) S.ok rfl Tryz.underlying22 tS_141 (S.e 0 rfl) (S.e 1 rfl) rfl (by first | omega | (simp;omega)) (ptr_eq (by simp only [Option.getD_none] <;> omega))),
     fun a w G S=>.of rfl (OpR.ldElem S.ok rfl (S.e 0 rfl) (S.box 0 rfl) tS_141 (dig_get (by first | omega | (simp;omega)))),
     fun a w G S=>.of rfl (OpR.nconv S.ok rfl (S.e 0 rfl) it_141 it_147 (wr_u64 (by omega)) MT.self),
     fun a w G S=>.of rfl (OpR.nadd S.ok rfl (S.e 0 rfl) (S.e 1 rfl) (wr_u64 (by omega)) MT.self),
     fun a w G S=>.of rfl (OpR.mv S.ok rfl (S.g 4 rfl)),
     fun a w G S=>.of rfl (OpR.nadd S.ok rfl (S.e 0 rfl) (S.e 1 rfl) (wr_u64 (by omega)) (nv_eq (by omega))),
     fun a w G S=>.of rfl (OpR.asn S.ok rfl (S.g 0 rfl)),trivial⟩ fun β a w G S=>?_
   replace S : St W0 G0 68 [(9,MT.ex (nv .u64 (c + (dig (words x) i * dig (words y) k + dig q (i + k))))),(8,NT k),(24,BT (decide (k < ((words (y)).length)))),(23,NT k),(22,NT ((words (y)).length)),(7,MT.ex (nv .u64 (c))),(6,NT i),(19,BT (decide (i < ((words (x)).length)))),(18,NT i),(17,NT ((words (x)).length)),(5,MT.ex (Value.slice (some ⟨b15,0,none⟩) (((words (x)).length) + ((words (y)).length)) (((words (x)).length) + ((words (y)).length)))),(4,MT.ex (Value.slice none 0 0)),(1,SN nb y),(0,SN na x)] [⟨b15,141,some (((words (x)).length) + ((words (y)).length)),MT.ex (Value.agg (ucells (q)).toArray)⟩] a _ _:=S.keep [0,22,23,24,25,26,27,28,29,30,31,32,33,34]
   refine wn hK ?_;clear hK K
   refine wp_region_lit ?_
   refine S.m rfl (S.g 10 rfl) rfl fun a w G S=>?_
   refine S.m rfl (S.g 7 rfl) rfl fun a w G S=>?_
   refine S.m rfl (S.g 3 rfl) rfl fun a w G S=>?_
   refine S.s (OpR.nadd S.ok rfl (S.e 1 rfl) (S.e 0 rfl) (wr_i64 (by omega)) MT.self) rfl fun a w G S=>?_
   refine S.m rfl (S.g 4 rfl) rfl fun a w G S=>?_
   refine S.s (OpR.nconv32 S.ok rfl (S.e 0 rfl) it_147 it_141 MT.self) rfl fun a w G S=>?_
   refine S.m rfl (S.g 6 rfl) rfl fun a w G S=>?_
   refine S.s (OpR.nshr S.ok rfl (S.e 0 rfl) (rfl : _ = nv .u64 32) (by decide) MT.self) rfl fun a w G S=>?_
   refine S.s (τ:=MT.ex (Value.pointer (some ⟨b15,i + k,none⟩))) (OpR.ixA (i:=i + k) S.ok rfl Tryz.underlying22 tS_141 (S.e 7 rfl) (S.e 4 rfl) rfl (by first | omega | (simp;omega)) (ptr_eq (by simp only [Option.getD_none] <;> omega))) rfl fun a w G S=>?_
   refine S.setElem 0 (z:=(c + (dig (words x) i * dig (words y) k + dig q (i + k))) % 4294967296) rfl rfl rfl rfl (S.e 0 rfl) tS_141 (S.e 3 rfl) rfl (by first | omega | (simp;omega)) fun w S=>?_
   replace S:=S.n0
   replace S:=S.d14
   refine S.q rfl (S.g 1 rfl) rfl fun a w G S=>?_
   refine wpList_nil ?_
   replace S:=S.d10.d9.d8.d7.d6.d5.d4.d3.d2.d1
   refine hK _ _ ?_;clear hK K
   refine wp_region_lit ?_
   refine S.s (OpR.nadd S.ok rfl (S.e 3 rfl) (rfl : _ = nv .i64 1) (wr_i64 (by omega)) MT.self) rfl fun a w G S=>?_
   replace S:=S.d4
   refine S.m rfl (S.g 0 rfl) rfl fun a w G S=>?_
   refine wpList_nil ?_
   replace S:=S.d1
   replace S:=S.also (t:=7) (τ:=MT.ex (nv .u64 (((c + (dig (words x) i * dig (words y) k + dig q (i + k))) / 2 ^ 32)))) ((S.e 1 rfl).trans (nv_eq (by first | rfl | omega | (simp only [Nat.zero_add,Nat.add_zero];done) | (simp;done) | (push_cast;omega))))
   replace S:=S.castBox (τ':=MT.ex (Value.agg (ucells ((q.set (i + k) ((c + (dig (words x) i * dig (words y) k + dig q (i + k))) % 4294967296)))).toArray)) 0 rfl fun _ h _=>Eq.trans h (congrArg (fun l=>Value.agg (ucells l).toArray) (by simp))
   replace S:=S.n0
   exact ⟨(words y).length - (k + 1),(by omega),k + 1,(c + (dig (words x) i * dig (words y) k + dig q (i + k))) / 2 ^ 32,q.set (i + k) ((c + (dig (words x) i * dig (words y) k + dig q (i + k))) % 4294967296),_,rfl,(by omega),(by omega),(by simpa using hq),(hwq.set (by omega)),(mul_step (by omega) hvq),(fun j hj=>by rw [dig_set (by omega),if_neg (by omega)];exact hzq j hj),(S.keep [1,5,0,6,7,8,9,10,11,12,13]).keepB [0] (by decide)⟩
  ·
   have hp5:=of_decide_eq_false hc3
   refine wp_exit (then_exit (then_exit (exit_same ?_)))
   clear hK K
   refine hK _ _ ?_;clear hK K
   refine wp_region_lit ?_
   refine S.m rfl (S.g 8 rfl) rfl fun a w G S=>?_
   refine S.m rfl (S.g 5 rfl) rfl fun a w G S=>?_
   refine S.m rfl (S.g 12 rfl) rfl fun a w G S=>?_
   refine S.s (OpR.lenL S.ok rfl Tryz.underlying22 (SN.toSL (S.g 0 rfl)) MT.self) rfl fun a w G S=>?_
   refine S.s (OpR.nadd S.ok rfl (S.e 2 rfl) (S.e 0 rfl) (wr_i64 (by omega)) MT.self) rfl fun a w G S=>?_
   refine S.m rfl (S.g 8 rfl) rfl fun a w G S=>?_
   refine S.s (OpR.nconv32 S.ok rfl (S.e 0 rfl) it_147 it_141 MT.self) rfl fun a w G S=>?_
   refine S.s (τ:=MT.ex (Value.pointer (some ⟨b15,i + ((words (y)).length),none⟩))) (OpR.ixA (i:=i + ((words (y)).length)) S.ok rfl Tryz.underlying22 tS_141 (S.e 6 rfl) (S.e 2 rfl) rfl (by first | omega | (simp;omega)) (ptr_eq (by simp only [Option.getD_none] <;> omega))) rfl fun a w G S=>?_
   refine S.setElem 0 (z:=c % 4294967296) rfl rfl rfl rfl (S.e 0 rfl) tS_141 (S.e 1 rfl) rfl (by first | omega | (simp;omega)) fun w S=>?_
   replace S:=S.n0
   refine wpList_nil ?_
   replace S:=S.d7.d6.d5.d4.d3.d2.d1.d0
   refine hK _ _ ?_;clear hK K
   refine wp_region_lit ?_
   refine S.s (OpR.nadd S.ok rfl (S.e 6 rfl) (rfl : _ = nv .i64 1) (wr_i64 (by omega)) MT.self) rfl fun a w G S=>?_
   replace S:=S.d7
   refine S.m rfl (S.g 0 rfl) rfl fun a w G S=>?_
   refine wpList_nil ?_
   replace S:=S.d1
   replace S:=S.castBox (τ':=MT.ex (Value.agg (ucells ((q.set (i + ((words (y)).length)) (c % 4294967296)))).toArray)) 0 rfl fun _ h _=>Eq.trans h (congrArg (fun l=>Value.agg (ucells l).toArray) (by simp))
   replace S:=S.n0
   exact ⟨(words x).length - (i + 1),(by omega),i + 1,q.set (i + ((words (y)).length)) (c % 4294967296),_,rfl,(by omega),(by simpa using hq),(hwq.set (by omega)),(mul_row' ‹_› hk hc (by omega) (hzq _ (by omega)) hvq),(fun j hj=>by rw [dig_set (by omega),if_neg (by omega)];exact hzq j (by omega)),(S.keep [0,7,8,9,10,11]).keepB [0] (by decide)⟩
 ·
  have hp6:=of_decide_eq_false hc1
  refine wp_exit (then_exit (then_exit (exit_same ?_)))
  clear hK K
  refine hK _ _ ?_;clear hK K
  refine wp_reg fun K hK=>?_
  obtain ⟨vz7,Gz7,hz7,hs7,hg7,hle7,S⟩:=S.freeze 0 rfl
  have hsl7 : (SL (o)).t (Value.slice (some ⟨b15,0,none⟩) (((words (x)).length) + ((words (y)).length)) (((words (x)).length) + ((words (y)).length))) Gz7:=SL_frozen hz7 hg7 ⟨ho.symm,Nat.le_refl _⟩ (by simp only [LIM];omega) (by assumption)
  replace S:=S.also (t:=5) (τ:=SL (o)) ((S.e 3 rfl).symm ▸ hsl7)
  replace S : St W0 G0 68 [(5,SL o),(19,BT (decide (i < ((words (x)).length)))),(18,NT i),(17,NT ((words (x)).length)),(4,MT.ex (Value.slice none 0 0)),(1,SN nb y),(0,SN na x)] [] a _ _:=S.keep [0,1,2,3,5,6,7]
  refine S.m rfl (S.g 0 rfl) rfl fun a w G S=>?_
  refine S.s (τ:=SN (na + nb) (x * y)) (OpR.call1 rfl c_123 (rtrim_ok S.ok (SL.asSV (S.g 0 rfl) ⟨times_fin ‹_› hi hv,mul_lt_pow hx hy⟩))) rfl fun a w G S=>?_
  replace S:=S.d6
  refine S.q rfl (S.g 0 rfl) rfl fun a w G S=>?_
  refine wn hK ?_;clear hK K
  replace S:=S.d2.d1
  exact wp_ret (S.retTmp rfl (S.g 0 rfl))
end Go.Proofs.YtpbkcbnghhodiaaGreat
