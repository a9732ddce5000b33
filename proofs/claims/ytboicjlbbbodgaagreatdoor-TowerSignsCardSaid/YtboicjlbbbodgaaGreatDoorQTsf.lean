import Derived.Test.YtboicjlbbbodgaaGreatDoorQTse
set_option linter.unusedVariables false
set_option linter.unusedSimpArgs false
namespace Go.Proofs.YtboicjlbbbodgaaGreatDoor
set_option maxHeartbeats 1000000
set_option maxRecDepth 100000
open Go.RowKit (Below)
private theorem c_148 : callable Tryz.prog 148 = true:=by kernel_rfl
private theorem c_160 : callable Tryz.prog 160 = true:=by kernel_rfl
private theorem c_177 : callable Tryz.prog 177 = true:=by kernel_rfl
private theorem c_179 : callable Tryz.prog 179 = true:=by kernel_rfl
private theorem el_99 : elS Tryz.prog 99 1 4 (.int .u32 0):=by unfold elS;kernel_rfl
private theorem mixedOrders : Tryz.prog.follows .mixedOrders = true:=by kernel_rfl
private theorem tS_99 : tyS Tryz.prog 99 (none) = true:=by kernel_rfl
theorem rdivide_ok {na nb x y : Nat} {v1 v2 : Value} {W0 : World} {G0 : Gh} (hok : Gok W0 G0) (h1 : (SN na x).t v1 G0) (h2 : (SN nb y).t v2 G0) (hy : y ≠ 0) (hna : na ≤ BIG) (hnb : nb ≤ BIG) : Calls Tryz.prog 159 #[v1,v2] W0 (Ret W0 G0 (MT.tup2 (SN na (x / y)) (SN nb (x % y)))):=by
 have hla:=words_length_bits (SN.lt h1)
 have hlb:=words_length_bits (SN.lt h2)
 simp only [BIG] at hna hnb
 have hdb : x / y < 2 ^ na:=div_lt_pow (SN.lt h1)
 have hmb : x % y < 2 ^ nb:=Nat.lt_trans (Nat.mod_lt _ (Nat.pos_of_ne_zero hy)) (SN.lt h2)
 have hbl:=blen_len x
 have hyL : y < 4294967296 ^ (words y).length:=by have:=val_lt (wfl_words y);rwa [val_words] at this
 have hyv:=val_words y
 refine St.enter (N:=76) (L:=[(1,SN nb y),(0,SN na x)]) (args:=[v1,v2]) Tryz.func159 rfl rfl rfl hok (enter2 h1 h2) fun a S=>?_
 refine wp_reg fun K hK=>?_
 refine S.s (τ:=MT.ex (Value.slice none 0 0)) (OpR.asn S.ok rfl rfl) rfl fun a w G S=>?_
 refine S.s (τ:=MT.ex (Value.slice none 0 0)) (OpR.asn S.ok rfl rfl) rfl fun a w G S=>?_
 refine wn hK ?_;clear hK K
 refine wp_reg fun K hK=>?_
 refine S.m rfl (S.g 3 rfl) rfl fun a w G S=>?_
 refine S.s (OpR.lenL S.ok rfl Tryz.underlying55 (SN.toSL (S.g 0 rfl)) MT.self) rfl fun a w G S=>?_
 refine S.mkSlice (n:=(words (x)).length) rfl rfl rfl Tryz.underlying55 el_99 (S.e 0 rfl) (S.e 0 rfl) rfl rfl (by omega) (by omega) rfl rfl fun b13 a w G S=>?_
 refine S.q rfl (S.g 0 rfl) rfl fun a w G S=>?_
 refine wn hK ?_;clear hK K
 replace S:=S.d3.d2.d1
 refine wp_reg fun K hK=>?_
 refine S.m rfl (S.g 3 rfl) rfl fun a w G S=>?_
 refine S.s (OpR.lenL S.ok rfl Tryz.underlying55 (SN.toSL (S.g 0 rfl)) MT.self) rfl fun a w G S=>?_
 refine S.s (OpR.nadd S.ok rfl (S.e 0 rfl) (rfl : _ = nv .i64 1) (wr_i64 (by omega)) MT.self) rfl fun a w G S=>?_
 refine S.mkSlice (n:=((words (y)).length) + 1) rfl rfl rfl Tryz.underlying55 el_99 (S.e 0 rfl) (S.e 0 rfl) rfl rfl (by omega) (by omega) rfl rfl fun b17 a w G S=>?_
 refine S.q rfl (S.g 0 rfl) rfl fun a w G S=>?_
 refine wn hK ?_;clear hK K
 replace S:=S.d4.d3.d2.d1
 refine wp_seq_k fun K hK=>?_
 refine wp_reg fun K hK=>?_
 refine S.m rfl (S.g 5 rfl) rfl fun a w G S=>?_
 refine S.s (τ:=NT (blen x)) (OpR.call1 rfl c_179 (rbits_ok S.ok (S.g 0 rfl))) rfl fun a w G S=>?_
 refine S.s (τ:=IT (((blen x : Nat) : Int) - ((1 : Nat) : Int))) (OpR.isub S.ok rfl (S.e 0 rfl) (rfl : _ = nv .i64 1) (iw_i64 (by omega) (by omega))) rfl fun a w G S=>?_
 refine S.q rfl (S.g 0 rfl) rfl fun a w G S=>?_
 refine wn hK ?_;clear hK K
 replace S:=S.d3.d2.d1
 refine wp_block ?_
 replace S:=S.also (t:=8) (τ:=IT ((((blen x) : Nat) : Int) - ((1 : Nat) : Int))) ((S.e 0 rfl).trans (iv_eq (by first | rfl | omega | (simp only [Nat.zero_add,Nat.add_zero];done) | (simp;done) | (push_cast;omega))))
 replace S:=S.castBox (τ':=MT.ex (Value.agg (ucells ((List.replicate (((words (y)).length) + 1) 0))).toArray)) 0 rfl fun _ h _=>Eq.trans h (congrArg (fun l=>Value.agg (ucells l).toArray) (by simp))
 replace S:=S.n0
 replace S:=S.castBox (τ':=MT.ex (Value.agg (ucells ((List.replicate ((words (x)).length) 0))).toArray)) 1 rfl fun _ h _=>Eq.trans h (congrArg (fun l=>Value.agg (ucells l).toArray) (by simp))
 replace S:=S.n1
 refine wp_loopJ (fun μ a w=>∃ (k : Nat) (q : List Nat) (r : List Nat) (G : Gh),μ = k ∧ (k ≤ blen x) ∧ (q.length = (words x).length) ∧ (wfl q) ∧ (r.length = (words y).length + 1) ∧ (wfl r) ∧ (val q = x / 2 ^ k / y * 2 ^ k) ∧ (val r = x / 2 ^ k % y) ∧  St W0 G0 76 [(8,IT (((k : Nat) : Int) - ((1 : Nat) : Int))),(7,MT.ex (Value.slice (some ⟨b17,0,none⟩) (((words (y)).length) + 1) (((words (y)).length) + 1))),(6,MT.ex (Value.slice (some ⟨b13,0,none⟩) ((words (x)).length) ((words (x)).length))),(5,MT.ex (Value.slice none 0 0)),(4,MT.ex (Value.slice none 0 0)),(1,SN nb y),(0,SN na x)] [⟨b17,99,some (((words (y)).length) + 1),MT.ex (Value.agg (ucells (r)).toArray)⟩,⟨b13,99,some ((words (x)).length),MT.ex (Value.agg (ucells (q)).toArray)⟩] a w G) ((blen x)) ⟨(blen x),List.replicate ((words (x)).length) 0,List.replicate (((words (y)).length) + 1) 0,_,rfl,(Nat.le_refl _),(by simp),(wfl_replicate _),(by simp),(wfl_replicate _),(by rw [lt_two_blen];simp [val_replicate_zero]),(by rw [lt_two_blen];simp [val_replicate_zero]),(S.keep [0,2,3,4,5,6,7]).keepB [0,1] (by decide)⟩ ?_
 clear S
 intro μ a w ⟨k,q,r,G,hm,hk,hqq,hqw,hrl,hrw,hq,hr,S⟩
 refine wp_seq_k fun K hK=>?_
 refine wp_reg fun K hK=>?_
 refine S.m rfl (S.g 0 rfl) rfl fun a w G S=>?_
 refine S.s (OpR.igeq S.ok rfl (S.e 0 rfl) (rfl : _ = nv .i64 0) MT.self) rfl fun a w G S=>?_
 refine wn hK ?_;clear hK K
 replace S:=S.d1
 refine S.cond 0 rfl (fun hc1=>?_) (fun hc1=>?_)
 ·
  have hp2:=of_decide_eq_true hc1
  have hk1 : 1 ≤ k:=by omega
  refine wp_skip ?_
  refine hK _ _ ?_;clear hK K
  refine wp_seq_k fun K hK=>?_
  refine wp_block ?_
  refine wp_reg fun K hK=>?_
  have hdx:=dig_lt (wfl_words x) ((k - 1) / 32)
  have hbb : x / 2 ^ (k - 1) % 2 ≤ 1:=by omega
  have hkx : (k - 1) / 32 < (words x).length:=by omega
  have hrY : val r < y:=by rw [hr];exact Nat.mod_lt _ (Nat.pos_of_ne_zero hy)
  refine S.m rfl (S.g 7 rfl) rfl fun a w G S=>?_
  refine S.s (τ:=NT (k - 1)) (OpR.mv S.ok rfl ((S.e 2 rfl).trans (iv_eq (by omega)))) rfl fun a w G S=>?_
  refine S.s (OpR.nquo S.ok rfl (S.e 0 rfl) (rfl : _ = nv .i64 32) (by omega) (wr_i64 (by omega)) MT.self) rfl fun a w G S=>?_
  refine S.s (τ:=PE (none) (MT.ex (nv .u32 (dig (words (x)) ((k - 1) / 32))))) (OpR.ixL (i:=(k - 1) / 32) S.ok rfl Tryz.underlying55 tS_99 (SN.toSL (S.g 2 rfl)) (S.e 0 rfl) rfl (dig_get (by first | omega | (simp;omega)))) rfl fun a w G S=>?_
  refine S.s (OpR.ldE S.ok rfl tS_99 (S.g 0 rfl)) rfl fun a w G S=>?_
  refine S.s (τ:=NT (k - 1)) (OpR.mv S.ok rfl ((S.e 6 rfl).trans (iv_eq (by omega)))) rfl fun a w G S=>?_
  refine S.s (OpR.nrem S.ok rfl (S.e 0 rfl) (rfl : _ = nv .i64 32) (by omega) MT.self) rfl fun a w G S=>?_
  refine S.s (OpR.nshr S.ok rfl (S.e 2 rfl) (S.e 0 rfl) (by show _ ≤ 32;omega) MT.self) rfl fun a w G S=>?_
  refine S.s (OpR.nand1 S.ok rfl (S.e 0 rfl) (rfl : _ = nv .u32 1) (Nat.lt_of_le_of_lt (Nat.div_le_self _ _) hdx) MT.self) rfl fun a w G S=>?_
  refine S.s (τ:=MT.ex (nv .u32 (x / 2 ^ (k - 1) % 2))) (OpR.asn S.ok rfl ((S.e 0 rfl).trans (nv_eq (bit_of x (k - 1))))) rfl fun a w G S=>?_
  refine wn hK ?_;clear hK K
  replace S:=S.d9.d8.d7.d6.d5.d4.d3.d2.d1
  refine wp_seq_k fun K hK=>?_
  refine wp_reg fun K hK=>?_
  refine S.m rfl (S.g 3 rfl) rfl fun a w G S=>?_
  refine S.s (OpR.lenA S.ok rfl Tryz.underlying55 (S.e 0 rfl) MT.self) rfl fun a w G S=>?_
  refine S.s (τ:=NT 0) (OpR.mv S.ok rfl (rfl : _ = nv .i64 0)) rfl fun a w G S=>?_
  refine wn hK ?_;clear hK K
  replace S:=S.d2
  refine wp_block ?_
  replace S:=S.also (t:=9) (τ:=MT.ex (nv .u32 ((x / 2 ^ (k - 1) % 2)))) ((S.e 2 rfl).trans (nv_eq (by first | rfl | omega | (simp only [Nat.zero_add,Nat.add_zero];done) | (simp;done) | (push_cast;omega))))
  refine wp_loopJ (fun μ a w=>∃ (j : Nat) (c : Nat) (l : List Nat) (G : Gh),μ = (words y).length + 1 - j ∧ (j ≤ (words y).length + 1) ∧ (c ≤ 1) ∧ (l.length = (words y).length + 1) ∧ (wfl l) ∧ (l.drop j = r.drop j) ∧ (val (l.take j) + 4294967296 ^ j * c = 2 * val (r.take j) + x / 2 ^ (k - 1) % 2) ∧  St W0 G0 76 [(36,NT j),(35,NT (((words (y)).length) + 1)),(9,MT.ex (nv .u32 (c))),(22,BT (decide ((((k : Nat) : Int) - ((1 : Nat) : Int)) ≥ 0))),(8,IT (((k : Nat) : Int) - ((1 : Nat) : Int))),(7,MT.ex (Value.slice (some ⟨b17,0,none⟩) (((words (y)).length) + 1) (((words (y)).length) + 1))),(6,MT.ex (Value.slice (some ⟨b13,0,none⟩) ((words (x)).length) ((words (x)).length))),(5,MT.ex (Value.slice none 0 0)),(4,MT.ex (Value.slice none 0 0)),(1,SN nb y),(0,SN na x)] [⟨b17,99,some (((words (y)).length) + 1),MT.ex (Value.agg (ucells (l)).toArray)⟩,⟨b13,99,some ((words (x)).length),MT.ex (Value.agg (ucells (q)).toArray)⟩] a w G) ((words y).length + 1 - 0) ⟨0,x / 2 ^ (k - 1) % 2,r,_,rfl,(by omega),hbb,hrl,hrw,rfl,(by simp [val]),(S.keep [1,2,0,4,5,6,7,8,9,10,11]).keepB [0,1] (by decide)⟩ ?_
  clear S
  intro μ a w ⟨j,c,l,G,hm,hj,hc,hl,hw,hB,hv,S⟩
  have hdl:=dig_lt hw j
  refine wp_reg fun K hK=>?_
  refine S.s (OpR.nlss S.ok rfl (S.e 0 rfl) (S.e 1 rfl) MT.self) rfl fun a w G S=>?_
  refine wn hK ?_;clear hK K
  refine wp_seq_k fun K hK=>?_
  refine S.cond 0 rfl (fun hc3=>?_) (fun hc3=>?_)
  ·
   have hp4:=of_decide_eq_true hc3
   refine wp_skip ?_
   refine hK _ _ ?_;clear hK K
   refine wp_seq_k fun K hK=>?_
   refine wp_block ?_
   refine wp_reg fun K hK=>?_
   refine S.m rfl (S.g 1 rfl) rfl fun a w G S=>?_
   refine S.q rfl (S.g 0 rfl) rfl fun a w G S=>?_
   refine wn hK ?_;clear hK K
   replace S:=S.d1
   refine S.drawnS [⟨39,.g (MT.ex (Value.slice (some ⟨b17,0,none⟩) (((words (y)).length) + 1) (((words (y)).length) + 1))),[]⟩,⟨40,.g (NT j),[]⟩,⟨41,.g (MT.ex (Value.slice (some ⟨b17,0,none⟩) (((words (y)).length) + 1) (((words (y)).length) + 1))),[]⟩,⟨42,.g (NT j),[]⟩,⟨43,.g (MT.ex (Value.pointer (some ⟨b17,j,none⟩))),[2,3]⟩,⟨44,.g (MT.ex (nv .u32 (dig (l) (j)))),[4]⟩,⟨45,.g (MT.ex (nv .u32 ((dig (l) (j)) * 2 ^ 1 % 4294967296))),[5]⟩,⟨46,.g (MT.ex (nv .u32 (c))),[]⟩,⟨47,.g (MT.ex (nv .u32 (dig l j * 2 % 4294967296 + c))),[6,7]⟩,⟨48,.g (MT.ex (Value.slice (some ⟨b17,0,none⟩) (((words (y)).length) + 1) (((words (y)).length) + 1))),[]⟩,⟨49,.g (NT j),[]⟩,⟨50,.g (MT.ex (Value.pointer (some ⟨b17,j,none⟩))),[9,10]⟩,⟨51,.g (MT.ex (nv .u32 (dig (l) (j)))),[11]⟩,⟨52,.g (MT.ex (nv .u32 ((dig (l) (j)) / 2 ^ 31))),[12]⟩,⟨53,.g (MT.ex (Value.pointer (some ⟨b17,j,none⟩))),[0,1]⟩,⟨9998,.st 0 (MT.ex (Value.agg (ucells (l.set (j) (dig l j * 2 % 4294967296 + c))).toArray)),[14,8]⟩] mixedOrders (by kernel_rfl)
    ⟨⟨rfl,fun a w G S=>.of rfl (OpR.mv S.ok rfl (S.g 7 rfl))⟩,
     ⟨rfl,fun a w G S=>.of rfl (OpR.mv S.ok rfl (S.g 0 rfl))⟩,
     ⟨rfl,fun a w G S=>.of rfl (OpR.mv S.ok rfl (S.g 7 rfl))⟩,
     ⟨rfl,fun a w G S=>.of rfl (OpR.mv S.ok rfl (S.g 0 rfl))⟩,
     ⟨rfl,fun a w G S=>.of rfl (OpR.ixA (i:=j) S.ok rfl Tryz.underlying55 tS_99 (S.e 0 rfl) (S.e 1 rfl) rfl (by first | omega | (simp;omega)) (ptr_eq (by simp only [Option.getD_none] <;> omega)))⟩,
     ⟨rfl,fun a w G S=>have S:=S.boxes (B':=[⟨b17,99,some (((words (y)).length) + 1),MT.ex (Value.agg (ucells (l)).toArray)⟩,⟨b13,99,some ((words (x)).length),MT.ex (Value.agg (ucells (q)).toArray)⟩]) (by kernel_rfl);OpG.of rfl (OpR.ldElem S.ok rfl (S.e 0 rfl) (S.box 0 rfl) tS_99 (dig_get (by first | omega | (simp;omega))))⟩,
     ⟨rfl,fun a w G S=>.of rfl (OpR.nshlw S.ok rfl (S.e 0 rfl) (rfl : _ = nv .u64 1) (by decide) MT.self)⟩,
     ⟨rfl,fun a w G S=>.of rfl (OpR.mv S.ok rfl (S.g 4 rfl))⟩,
     ⟨rfl,fun a w G S=>.of rfl (OpR.nor32 S.ok rfl (S.e 0 rfl) (S.e 1 rfl) (by omega) (by omega) (nv_eq (dbl_or hc)))⟩,
     ⟨rfl,fun a w G S=>.of rfl (OpR.mv S.ok rfl (S.g 7 rfl))⟩,
     ⟨rfl,fun a w G S=>.of rfl (OpR.mv S.ok rfl (S.g 0 rfl))⟩,
     ⟨rfl,fun a w G S=>.of rfl (OpR.ixA (i:=j) S.ok rfl Tryz.underlying55 tS_99 (S.e 0 rfl) (S.e 1 rfl) rfl (by first | omega | (simp;omega)) (ptr_eq (by simp only [Option.getD_none] <;> omega)))⟩,
     ⟨rfl,fun a w G S=>have S:=S.boxes (B':=[⟨b17,99,some (((words (y)).length) + 1),MT.ex (Value.agg (ucells (l)).toArray)⟩,⟨b13,99,some ((words (x)).length),MT.ex (Value.agg (ucells (q)).toArray)⟩]) (by kernel_rfl);OpG.of rfl (OpR.ldElem S.ok rfl (S.e 0 rfl) (S.box 0 rfl) tS_99 (dig_get (by first | omega | (simp;omega))))⟩,
     ⟨rfl,fun a w G S=>.of rfl (OpR.nshr S.ok rfl (S.e 0 rfl) (rfl : _ = nv .u64 31) (by decide) MT.self)⟩,
     ⟨rfl,fun a w G S=>.of rfl (OpR.ixA (i:=j) S.ok rfl Tryz.underlying55 tS_99 (S.e 0 rfl) (S.e 1 rfl) rfl (by first | omega | (simp;omega)) (ptr_eq (by simp only [Option.getD_none] <;> omega)))⟩,
     ⟨rfl,rfl,rfl,.inr ⟨by simp only [List.length_cons,List.length_nil];omega,_,rfl,fun a w G v0 S hv hs h0=>elem_store (z:=dig l j * 2 % 4294967296 + c) rfl rfl (S.e 0 rfl) tS_99 (S.e 1 rfl) rfl (by first | omega | (simp;omega)) hv hs h0⟩⟩,trivial⟩ fun β a w G S=>?_
   replace S : St W0 G0 76 [(52,MT.ex (nv .u32 ((dig (l) (j)) / 2 ^ 31))),(37,BT (decide (j < (((words (y)).length) + 1)))),(36,NT j),(35,NT (((words (y)).length) + 1)),(9,MT.ex (nv .u32 (c))),(22,BT (decide ((((k : Nat) : Int) - ((1 : Nat) : Int)) ≥ 0))),(8,IT (((k : Nat) : Int) - ((1 : Nat) : Int))),(7,MT.ex (Value.slice (some ⟨b17,0,none⟩) (((words (y)).length) + 1) (((words (y)).length) + 1))),(6,MT.ex (Value.slice (some ⟨b13,0,none⟩) ((words (x)).length) ((words (x)).length))),(5,MT.ex (Value.slice none 0 0)),(4,MT.ex (Value.slice none 0 0)),(1,SN nb y),(0,SN na x)] [⟨b17,99,some (((words (y)).length) + 1),MT.ex (Value.agg (ucells (l.set (j) (dig l j * 2 % 4294967296 + c))).toArray)⟩,⟨b13,99,some ((words (x)).length),MT.ex (Value.agg (ucells (q)).toArray)⟩] a _ _:=S.keep [1,16,17,18,19,20,21,22,23,24,25,26,27]
   replace S:=S.d4
   refine S.q rfl (S.g 0 rfl) rfl fun a w G S=>?_
   refine wpList_nil ?_
   replace S:=S.d1
   refine hK _ _ ?_;clear hK K
   refine wp_region_lit ?_
   refine S.s (OpR.nadd S.ok rfl (S.e 2 rfl) (rfl : _ = nv .i64 1) (wr_i64 (by omega)) MT.self) rfl fun a w G S=>?_
   replace S:=S.d3
   refine S.m rfl (S.g 0 rfl) rfl fun a w G S=>?_
   refine wpList_nil ?_
   replace S:=S.d1
   replace S:=S.also (t:=9) (τ:=MT.ex (nv .u32 (((dig (l) (j)) / 2 ^ 31)))) ((S.e 1 rfl).trans (nv_eq (by first | rfl | omega | (simp only [Nat.zero_add,Nat.add_zero];done) | (simp;done) | (push_cast;omega))))
   replace S:=S.castBox (τ':=MT.ex (Value.agg (ucells ((l.set (j) (dig l j * 2 % 4294967296 + c)))).toArray)) 0 rfl fun _ h _=>Eq.trans h (congrArg (fun l=>Value.agg (ucells l).toArray) (by simp))
   replace S:=S.n0
   exact ⟨(words y).length + 1 - (j + 1),(by omega),j + 1,(dig (l) (j)) / 2 ^ 31,l.set (j) (dig l j * 2 % 4294967296 + c),_,rfl,(by omega),(by omega),(by simpa using hl),(hw.set (by omega)),(by rw [drop_set_far (by omega)];exact drop_eq_succ hB),(dbl_step (by omega) hB hc hw hv),(S.keep [1,4,0,5,6,7,8,9,10,11,12]).keepB [0,1] (by decide)⟩
  ·
   have hp5:=of_decide_eq_false hc3
   refine wp_exit (then_exit (then_exit (exit_same ?_)))
   clear hK K
   refine hK _ _ ?_;clear hK K
   refine wp_reg fun K hK=>?_
   have hval0:=dbl_fin hl hrl (show j = (words y).length + 1 by omega) hyL hrY hbb hv
   have hval : val l = 2 * (x / 2 ^ k % y) + x / 2 ^ (k - 1) % 2:=by rw [hval0,hr]
   refine S.m rfl (S.g 6 rfl) rfl fun a w G S=>?_
   refine S.m rfl (S.g 11 rfl) rfl fun a w G S=>?_
   refine S.s (τ:=IT (cmpN (val l) (val (words y)))) (OpR.lend2 (n:=((words (y)).length) + 1) (l:=l) S.ok rfl c_148 (S.box 0 rfl) hl.symm (by simp only [LIM];omega) hw fun G1 hle hok1 hsl=>(rcompareL_ok hok1 (of_val (S.e 1 rfl) hsl) ((SL (words y)).mono hle (SN.toSL (S.g 0 rfl))))) rfl fun a w G S=>?_
   refine S.s (OpR.igeq S.ok rfl (S.e 0 rfl) (rfl : _ = nv .i64 0) MT.self) rfl fun a w G S=>?_
   refine wn hK ?_;clear hK K
   replace S:=S.d3.d2.d1
   refine S.cond 0 rfl (fun hc6=>?_) (fun hc6=>?_)
   ·
    have hp7:=of_decide_eq_true hc6
    have hge : y ≤ val l:=by have:=cmpN_ge.1 hp7;omega
    refine wp_reg fun K hK=>?_
    refine S.m rfl (S.g 7 rfl) rfl fun a w G S=>?_
    refine S.m rfl (S.g 12 rfl) rfl fun a w G S=>?_
    refine S.stepM2 0 rfl rfl rfl c_177 (rtakeO_ok S.world (S.g 1 rfl) (SN.toSL (S.g 0 rfl)) hl hw (Nat.le_refl _) (by simp only [LIM];omega)) rfl rfl fun vR lR a w G hR hlR S=>?_
    obtain ⟨hTw,cT,hcT,hTv⟩:=hR
    have hlo:=hlR
    have hwo:=hTw
    have hT:=take_ge (by rw [List.length_take];omega) hTw (val_take_all hl) (take_words_all (by omega)) (by omega) hcT hTv
    rw [val_take_all hlR] at hT
    have hro : val lR = x / 2 ^ (k - 1) % y:=by rw [hT,hval];exact (dv_ge (by omega) (by omega) (by omega)).1.symm
    refine wn hK ?_;clear hK K
    replace S:=S.d2.d1.d0
    have hql:=q_low (i:=k - 1) hqw (by rw [hq,show k - 1 + 1 = k from by omega])
    have hqs:=q_set (i:=k - 1) (by omega) hq
    have hdq:=dig_lt hqw ((k - 1) / 32)
    have hqo : val (q.set ((k - 1) / 32) (dig q ((k - 1) / 32) + 2 ^ ((k - 1) % 32))) = x / 2 ^ (k - 1) / y * 2 ^ (k - 1):=by rw [hqs];exact (dv_ge (by omega) (by omega) (by omega)).2.symm
    refine S.drawn [⟨62,.g (MT.ex (Value.slice (some ⟨b13,0,none⟩) ((words (x)).length) ((words (x)).length))),[]⟩,⟨63,.g (NT (k - 1)),[]⟩,⟨64,.g (NT ((k - 1) / 32)),[1]⟩,⟨65,.g (MT.ex (Value.pointer (some ⟨b13,(k - 1) / 32,none⟩))),[0,2]⟩,⟨66,.g (MT.ex (nv .u32 (dig (q) ((k - 1) / 32)))),[3]⟩,⟨67,.g (NT (k - 1)),[]⟩,⟨68,.g (NT ((k - 1) % 32)),[5]⟩,⟨69,.g (MT.ex (nv .u32 (1 * 2 ^ ((k - 1) % 32)))),[6]⟩,⟨70,.g (MT.ex (nv .u32 (dig q ((k - 1) / 32) + 2 ^ ((k - 1) % 32)))),[4,7]⟩,⟨71,.g (MT.ex (Value.pointer (some ⟨b13,(k - 1) / 32,none⟩))),[0,2]⟩] mixedOrders (by kernel_rfl)
     ⟨fun a w G S=>.of rfl (OpR.mv S.ok rfl (S.g 8 rfl)),
      fun a w G S=>.of rfl (OpR.mv S.ok rfl ((S.e 6 rfl).trans (iv_eq (by omega)))),
      fun a w G S=>.of rfl (OpR.nquo S.ok rfl (S.e 0 rfl) (rfl : _ = nv .i64 32) (by omega) (wr_i64 (by omega)) MT.self),
      fun a w G S=>.of rfl (OpR.ixA (i:=(k - 1) / 32) S.ok rfl Tryz.underlying55 tS_99 (S.e 0 rfl) (S.e 1 rfl) rfl (by first | omega | (simp;omega)) (ptr_eq (by simp only [Option.getD_none] <;> omega))),
      fun a w G S=>.of rfl (OpR.ldElem S.ok rfl (S.e 0 rfl) (S.box 1 rfl) tS_99 (dig_get (by first | omega | (simp;omega)))),
      fun a w G S=>.of rfl (OpR.mv S.ok rfl ((S.e 6 rfl).trans (iv_eq (by omega)))),
      fun a w G S=>.of rfl (OpR.nrem S.ok rfl (S.e 0 rfl) (rfl : _ = nv .i64 32) (by omega) MT.self),
      fun a w G S=>.of rfl (OpR.nshl S.ok rfl (rfl : _ = nv .u32 1) (S.e 0 rfl) (by show _ ≤ 32;omega) (wr_u32 (pow32_lt (by omega))) MT.self),
      fun a w G S=>.of rfl (OpR.nor32 S.ok rfl (S.e 0 rfl) (S.e 1 rfl) (by omega) (pow32_lt (by omega)) (nv_eq (or_bit hql.1))),
      fun a w G S=>.of rfl (OpR.ixA (i:=(k - 1) / 32) S.ok rfl Tryz.underlying55 tS_99 (S.e 0 rfl) (S.e 1 rfl) rfl (by first | omega | (simp;omega)) (ptr_eq (by simp only [Option.getD_none] <;> omega))),trivial⟩ fun β a w G S=>?_
    replace S : St W0 G0 76 [(71,MT.ex (Value.pointer (some ⟨b13,(k - 1) / 32,none⟩))),(70,MT.ex (nv .u32 (dig q ((k - 1) / 32) + 2 ^ ((k - 1) % 32)))),(58,BT (decide ((cmpN (val l) (val (words y))) ≥ 0))),(37,BT (decide (j < (((words (y)).length) + 1)))),(36,NT j),(35,NT (((words (y)).length) + 1)),(9,MT.ex (nv .u32 (c))),(22,BT (decide ((((k : Nat) : Int) - ((1 : Nat) : Int)) ≥ 0))),(8,IT (((k : Nat) : Int) - ((1 : Nat) : Int))),(7,MT.ex (Value.slice (some ⟨b17,0,none⟩) (((words (y)).length) + 1) (((words (y)).length) + 1))),(6,MT.ex (Value.slice (some ⟨b13,0,none⟩) ((words (x)).length) ((words (x)).length))),(5,MT.ex (Value.slice none 0 0)),(4,MT.ex (Value.slice none 0 0)),(1,SN nb y),(0,SN na x)] [⟨b17,99,some (((words (y)).length) + 1),MT.ex (Value.agg (ucells (lR)).toArray)⟩,⟨b13,99,some ((words (x)).length),MT.ex (Value.agg (ucells (q)).toArray)⟩] a _ _:=S.keep [0,1,10,11,12,13,14,15,16,17,18,19,20,21,22]
    refine S.setElem 1 (z:=dig q ((k - 1) / 32) + 2 ^ ((k - 1) % 32)) rfl rfl rfl rfl (S.e 0 rfl) tS_99 (S.e 1 rfl) rfl (by first | omega | (simp;omega)) fun w S=>?_
    replace S:=S.n1
    refine wpList_nil ?_
    replace S:=S.d1.d0
    refine hK _ _ ?_;clear hK K
    refine wp_region_lit ?_
    refine S.m rfl (S.g 6 rfl) rfl fun a w G S=>?_
    refine S.s (τ:=IT ((((k : Nat) : Int) - ((1 : Nat) : Int)) - 1)) (OpR.isub S.ok rfl (S.e 0 rfl) (rfl : _ = nv .i64 1) (iw_i64 (by omega) (by omega))) rfl fun a w G S=>?_
    replace S:=S.d8
    refine S.q rfl (S.g 0 rfl) rfl fun a w G S=>?_
    refine wpList_nil ?_
    replace S:=S.d2.d1
    replace S:=S.also (t:=8) (τ:=IT ((((k - 1) : Nat) : Int) - ((1 : Nat) : Int))) ((S.e 0 rfl).trans (iv_eq (by first | rfl | omega | (simp only [Nat.zero_add,Nat.add_zero];done) | (simp;done) | (push_cast;omega))))
    replace S:=S.castBox (τ':=MT.ex (Value.agg (ucells ((q.set ((k - 1) / 32) (dig q ((k - 1) / 32) + 2 ^ ((k - 1) % 32))))).toArray)) 1 rfl fun _ h _=>Eq.trans h (congrArg (fun l=>Value.agg (ucells l).toArray) (by simp))
    replace S:=S.n1
    exact ⟨(k - 1),(by omega),(k - 1),q.set ((k - 1) / 32) (dig q ((k - 1) / 32) + 2 ^ ((k - 1) % 32)),lR,_,rfl,(by omega),(by simpa using hqq),(by first | exact hqw.set hql.2 | exact hqw),hlo,hwo,hqo,hro,(S.keep [0,8,9,10,11,12,13]).keepB [0,1] (by decide)⟩
   ·
    have hp8:=of_decide_eq_false hc6
    have hlt : val l < y:=Nat.not_le.1 fun h=>hp8 (cmpN_ge.2 (by omega))
    have hlo:=hl
    have hwo:=hw
    have hro : val l = x / 2 ^ (k - 1) % y:=by rw [hval];exact (dv_lt hk1 (by omega)).1.symm
    have hqo : val q = x / 2 ^ (k - 1) / y * 2 ^ (k - 1):=by rw [hq];exact (dv_lt hk1 (by omega)).2.symm
    refine wp_skip ?_
    refine hK _ _ ?_;clear hK K
    refine wp_region_lit ?_
    refine S.m rfl (S.g 6 rfl) rfl fun a w G S=>?_
    refine S.s (τ:=IT ((((k : Nat) : Int) - ((1 : Nat) : Int)) - 1)) (OpR.isub S.ok rfl (S.e 0 rfl) (rfl : _ = nv .i64 1) (iw_i64 (by omega) (by omega))) rfl fun a w G S=>?_
    replace S:=S.d8
    refine S.q rfl (S.g 0 rfl) rfl fun a w G S=>?_
    refine wpList_nil ?_
    replace S:=S.d2.d1
    replace S:=S.also (t:=8) (τ:=IT ((((k - 1) : Nat) : Int) - ((1 : Nat) : Int))) ((S.e 0 rfl).trans (iv_eq (by first | rfl | omega | (simp only [Nat.zero_add,Nat.add_zero];done) | (simp;done) | (push_cast;omega))))
    exact ⟨(k - 1),(by omega),(k - 1),q,l,_,rfl,(by omega),(by simpa using hqq),(by first | exact hqw.set hql.2 | exact hqw),hlo,hwo,hqo,hro,(S.keep [0,8,9,10,11,12,13]).keepB [0,1] (by decide)⟩
 ·
  have hp9:=of_decide_eq_false hc1
  refine wp_exit (then_exit (then_exit (exit_same ?_)))
  clear hK K
  refine hK _ _ ?_;clear hK K
  refine wp_reg fun K hK=>?_
  have hk0 : k = 0:=by omega
  have hqf : val q = x / y:=by rw [hq,hk0];simp
  have hrf : val r = x % y:=by rw [hr,hk0];simp
  obtain ⟨vz10,Gz10,hz10,hs10,hg10,hle10,S⟩:=S.freeze 1 rfl
  have hsl10 : (SL (q)).t (Value.slice (some ⟨b13,0,none⟩) ((words (x)).length) ((words (x)).length)) Gz10:=SL_frozen hz10 hg10 ⟨hqq.symm,Nat.le_refl _⟩ (by simp only [LIM];omega) hqw
  replace S:=S.also (t:=6) (τ:=SL (q)) ((S.e 3 rfl).symm ▸ hsl10)
  replace S : St W0 G0 76 [(6,SL q),(22,BT (decide ((((k : Nat) : Int) - ((1 : Nat) : Int)) ≥ 0))),(8,IT (((k : Nat) : Int) - ((1 : Nat) : Int))),(7,MT.ex (Value.slice (some ⟨b17,0,none⟩) (((words (y)).length) + 1) (((words (y)).length) + 1))),(5,MT.ex (Value.slice none 0 0)),(4,MT.ex (Value.slice none 0 0)),(1,SN nb y),(0,SN na x)] [⟨b17,99,some (((words (y)).length) + 1),MT.ex (Value.agg (ucells (r)).toArray)⟩] a _ _:=S.keep [0,1,2,3,5,6,7,8]
  refine S.m rfl (S.g 0 rfl) rfl fun a w G S=>?_
  refine S.s (τ:=SN na (x / y)) (OpR.call1 rfl c_160 (rtrim_ok S.ok (SL.asSV (S.g 0 rfl) ⟨hqf,hdb⟩))) rfl fun a w G S=>?_
  obtain ⟨vz11,Gz11,hz11,hs11,hg11,hle11,S⟩:=S.freeze 0 rfl
  have hsl11 : (SL (r)).t (Value.slice (some ⟨b17,0,none⟩) (((words (y)).length) + 1) (((words (y)).length) + 1)) Gz11:=SL_frozen hz11 hg11 ⟨hrl.symm,Nat.le_refl _⟩ (by simp only [LIM];omega) hrw
  replace S:=S.also (t:=7) (τ:=SL (r)) ((S.e 5 rfl).symm ▸ hsl11)
  replace S : St W0 G0 76 [(7,SL r),(73,SN na (x / y)),(72,SL q),(6,SL q),(22,BT (decide ((((k : Nat) : Int) - ((1 : Nat) : Int)) ≥ 0))),(8,IT (((k : Nat) : Int) - ((1 : Nat) : Int))),(5,MT.ex (Value.slice none 0 0)),(4,MT.ex (Value.slice none 0 0)),(1,SN nb y),(0,SN na x)] [] a _ _:=S.keep [0,1,2,3,4,5,7,8,9,10]
  refine S.m rfl (S.g 0 rfl) rfl fun a w G S=>?_
  refine S.s (τ:=SN nb (x % y)) (OpR.call1 rfl c_160 (rtrim_ok S.ok (SL.asSV (S.g 0 rfl) ⟨hrf,hmb⟩))) rfl fun a w G S=>?_
  replace S:=S.d9
  refine S.q rfl (S.g 3 rfl) rfl fun a w G S=>?_
  replace S:=S.d9
  refine S.q rfl (S.g 1 rfl) rfl fun a w G S=>?_
  refine wn hK ?_;clear hK K
  replace S:=S.d6.d5.d3.d2
  exact wp_ret (S.retTmp2 rfl (S.g 1 rfl) (S.g 0 rfl))
end Go.Proofs.YtboicjlbbbodgaaGreatDoor
set_option maxHeartbeats 4000000
set_option maxRecDepth 100000
set_option synthInstance.maxSize 100000
set_option synthInstance.maxHeartbeats 400000
namespace Go.Proofs.YtboicjlbbbodgaaGreatDoor
open Go.RowKit (Below)
attribute [local irreducible] Go.Code.wp Go.wpList Go.bodyPost
private theorem gS_ {W0 : World} {G0 : Gh} {N : Nat} {L : List (Nat × MT)} {B : List BX} {a : Act} {w : World} {G : Gh} {q : Prop} (h : St W0 G0 N L B a w G → q) : St W0 G0 N L B a w G → q:=h
private theorem gL_ {p : Prop} {P : Program} {arr : Array Oper} {Q : Exit → Act → World → Prop} {l : List Oper} {a : Act} {w : World} (h : p → wpList P arr Q l a w) : p → wpList P arr Q l a w:=h
private theorem gC_ {p : Prop} {P : Program} {c : Code} {Q : Exit → Act → World → Prop} {a : Act} {w : World} (h : p → c.wp P Q a w) : p → c.wp P Q a w:=h
instance {n m : Nat} {τ1 : MT} [j1 : NV τ1 (SV n m)] : Con Tryz.prog 160 [τ1] (True) (SN n m):=.o1 fun hok h1 hp=>rtrim_ok hok (j1.h h1)
instance {n m x y : Nat} : Con Tryz.prog 148 [SN n x,SN m y] (True) (IT (cmpN x y)):=.o2 fun hok h1 h2 hp=>rcompare_ok hok h1 h2
instance {n m x y : Nat} {τ2 : MT} [j2 : NK τ2 (SN m y)] : Con Tryz.prog 147 [SN n x,τ2] (n ≤ BIG ∧ m ≤ BIG) (SN (max n m + 1) (x + y)):=.o2 fun hok h1 h2 hp=>rplus_ok hok h1 (j2.h h2) hp.1 hp.2
instance {n m x y : Nat} : Con Tryz.prog 149 [SN n x,SN m y] (y ≤ x) (SN n (x - y)):=.o2 fun hok h1 h2 hp=>rminus_ok hok h1 h2 hp
instance {n m x y : Nat} : Con Tryz.prog 175 [SN n x,SN m y] (n + m ≤ BIG) (SN (n + m) (x * y)):=.o2 fun hok h1 h2 hp=>rtimes_ok hok h1 h2 hp
instance {n m x y : Nat} : Con Tryz.prog 159 [SN n x,SN m y] (n ≤ BIG ∧ m ≤ BIG ∧ y ≠ 0) (MT.tup2 (SN n (x / y)) (SN m (x % y))):=.o2 fun hok h1 h2 hp=>rdivide_ok hok h1 h2 hp.2.2 hp.1 hp.2.1
instance {n m x y : Nat} : Con Tryz.prog 158 [SN n x,SN m y] (n ≤ BIG ∧ m ≤ BIG) (SN (max n m) (Nat.gcd x y)):=.o2 fun hok h1 h2 hp=>rgcd_ok hok h1 h2 hp.1 hp.2
theorem w161 {s : Bool} {l : List Nat} : Con Tryz.prog 161 [WR s l] (True) (BT (wok s l)):=.o1 fun hok h1 hp=>by
  refine St.enter (N:=19) Tryz.func161 rfl rfl rfl hok (enter1 h1) fun a=>?_
  have hlim:=WR.lim h1
  simp only [LIM] at hlim
  repeat' (first|((with_reducible refine gS_ ?_);first|((with_reducible refine gL_ ?_);first|refine W.run ?_ fun a w G=>?_|refine W.mv fun a w G=>?_|refine W.asg fun a w G=>?_|refine W.bx fun b a w G=>?_|(refine W.nn hK ?_;clear hK K)|refine W.nl ?_|refine W.ste ?_ fun w=>?_)|((with_reducible refine gC_ ?_);first|refine W.reg fun K hK=>?_|refine W.reg1 ?_|refine W.sq fun K hK=>?_|refine W.sk ?_|refine W.cd (fun hc=>?_) (fun hc=>?_)|refine W.cb (fun hc=>?_) (fun hc=>?_)|refine W.rt ?_)|((with_reducible refine W.kn hK ?_);clear hK K)|with_reducible refine W.tr ?_|with_reducible refine W.br ?_|refine W.rt1 rfl ?_)|clear hK K|clear hu|exact True.intro|exact Nat.le_trans (by clear hp;omega) hp|exact Nat.le_trans (by clear hp;omega) hp.1|exact Nat.le_trans (by clear hp;omega) hp.2|(clear hp;omega)|apply And.intro|refine GI.i fun _=>?_|with_reducible rfl|decide|(simp only [List.length_cons,List.length_nil];omega))
  all_goals first | exact wok_nil (by omega) | (rw [show ((l.length : Int) - 1).toNat = l.length - 1 by omega];exact wok_last (by omega))
instance {s : Bool} {l : List Nat} {τ1 : MT} [j1 : NV τ1 (WR s l)] : Con Tryz.prog 161 [τ1] (True) (BT (wok s l)):=.o1 fun hok h1 hp=>w161.c1 hok (j1.h h1) hp
theorem w134 {n : Nat} {x : Int} : Con Tryz.prog 134 [W n x] (True) (SN n x.natAbs):=.o1 fun hok h1 hp=>by
  obtain ⟨hlt,s,l,hv,h1⟩:=h1
  have hwf:=WR.wf h1
  refine St.enter (N:=8) Tryz.func134 rfl rfl rfl hok (enter1 h1) fun a=>?_
  repeat' (first|((with_reducible refine gS_ ?_);first|((with_reducible refine gL_ ?_);first|refine W.run ?_ fun a w G=>?_|refine W.mv fun a w G=>?_|refine W.asg fun a w G=>?_|refine W.bx fun b a w G=>?_|(refine W.nn hK ?_;clear hK K)|refine W.nl ?_|refine W.ste ?_ fun w=>?_)|((with_reducible refine gC_ ?_);first|refine W.reg fun K hK=>?_|refine W.reg1 ?_|refine W.sq fun K hK=>?_|refine W.sk ?_|refine W.cd (fun hc=>?_) (fun hc=>?_)|refine W.cb (fun hc=>?_) (fun hc=>?_)|refine W.rt ?_)|((with_reducible refine W.kn hK ?_);clear hK K)|with_reducible refine W.tr ?_|with_reducible refine W.br ?_|refine W.rt1 rfl ?_)|clear hK K|clear hu|exact True.intro|exact Nat.le_trans (by clear hp;omega) hp|exact Nat.le_trans (by clear hp;omega) hp.1|exact Nat.le_trans (by clear hp;omega) hp.2|(clear hp;omega)|apply And.intro|refine GI.i fun _=>?_|with_reducible rfl|decide|(simp only [List.length_cons,List.length_nil];omega))
  all_goals first | (rw [not_wok hv (not_true_of hc)];rfl) | exact mag_of hwf hv (not_false_of hc) | exact hlt
instance {n : Nat} {x : Int} {τ1 : MT} [j1 : NW τ1 (W n x)] : Con Tryz.prog 134 [τ1] (True) (SN n x.natAbs):=.o1 fun hok h1 hp=>w134.c1 hok (j1.h h1) hp
theorem w133 {n : Nat} {x : Int} : Con Tryz.prog 133 [W n x] (True) (BT (decide (x < 0))):=.o1 fun hok h1 hp=>by
  obtain ⟨hlt,s,l,hv,h1⟩:=h1
  have hwf:=WR.wf h1
  refine St.enter (N:=9) Tryz.func133 rfl rfl rfl hok (enter1 h1) fun a=>?_
  repeat' (first|((with_reducible refine gS_ ?_);first|((with_reducible refine gL_ ?_);first|refine W.run ?_ fun a w G=>?_|refine W.mv fun a w G=>?_|refine W.asg fun a w G=>?_|refine W.bx fun b a w G=>?_|(refine W.nn hK ?_;clear hK K)|refine W.nl ?_|refine W.ste ?_ fun w=>?_)|((with_reducible refine gC_ ?_);first|refine W.reg fun K hK=>?_|refine W.reg1 ?_|refine W.sq fun K hK=>?_|refine W.sk ?_|refine W.rt ?_)|((with_reducible refine W.kn hK ?_);clear hK K)|with_reducible refine W.tr ?_|with_reducible refine W.br ?_|refine W.rt1 rfl ?_)|clear hK K|clear hu|exact True.intro|exact Nat.le_trans (by clear hp;omega) hp|exact Nat.le_trans (by clear hp;omega) hp.1|exact Nat.le_trans (by clear hp;omega) hp.2|(clear hp;omega)|apply And.intro|refine GI.i fun _=>?_|with_reducible rfl|decide|(simp only [List.length_cons,List.length_nil];omega))
  all_goals (cases hok : wok s l with | true=>simp [neg_of hwf hv hok] | false=>simp [not_wok hv hok])
instance {n : Nat} {x : Int} {τ1 : MT} [j1 : NW τ1 (W n x)] : Con Tryz.prog 133 [τ1] (True) (BT (decide (x < 0))):=.o1 fun hok h1 hp=>w133.c1 hok (j1.h h1) hp
theorem w132 {s : Bool} {n m : Nat} : Con Tryz.prog 132 [BT s,SV n m] (True) (WC n (sg s m)):=.o2 fun hok h1 h2 hp=>by
  refine St.enter (N:=14) Tryz.func132 rfl rfl rfl hok (enter2 h1 h2) fun a=>?_
  repeat' (first|((with_reducible refine gS_ ?_);first|((with_reducible refine gL_ ?_);first|refine W.run ?_ fun a w G=>?_|refine W.mv fun a w G=>?_|refine W.asg fun a w G=>?_|(refine W.nn hK ?_;clear hK K)|refine W.nl ?_|refine W.al fun b a w G=>?_|refine W.st fun w=>?_|refine W.stp fun w=>?_|refine W.ste ?_ fun w=>?_)|((with_reducible refine gC_ ?_);first|refine W.reg fun K hK=>?_|refine W.reg1 ?_|refine W.sq fun K hK=>?_|refine W.sk ?_|refine W.cd (fun hc=>?_) (fun hc=>?_)|refine W.cb (fun hc=>?_) (fun hc=>?_)|refine W.rt ?_)|((with_reducible refine W.kn hK ?_);clear hK K)|with_reducible refine W.tr ?_|with_reducible refine W.br ?_|refine W.rt1 rfl ?_)|clear hK K|clear hu|exact True.intro|exact Nat.le_trans (by clear hp;omega) hp|exact Nat.le_trans (by clear hp;omega) hp.1|exact Nat.le_trans (by clear hp;omega) hp.2|(clear hp;omega)|apply And.intro|refine GI.i fun _=>?_|with_reducible rfl|decide|(simp only [List.length_cons,List.length_nil];omega))
  all_goals first | (have h0:=len_zero (m:=m) (by omega);subst h0;cases s <;> rfl) | exact sg_abs.symm | (have:=@len_pos_iff m;cases s <;> simp [sg] <;> omega)
instance {s : Bool} {n m : Nat} {τ2 : MT} [j2 : NV τ2 (SV n m)] : Con Tryz.prog 132 [BT s,τ2] (True) (WC n (sg s m)):=.o2 fun hok h1 h2 hp=>w132.c2 hok h1 (j2.h h2) hp
theorem w129 {n : Nat} {x : Int} : Con Tryz.prog 129 [W n x] (True) (IT x.sign):=.o1 fun hok h1 hp=>by
  refine St.enter (N:=9) Tryz.func129 rfl rfl rfl hok (enter1 h1) fun a=>?_
  repeat' (first|((with_reducible refine gS_ ?_);first|((with_reducible refine gL_ ?_);first|refine W.run ?_ fun a w G=>?_|refine W.mv fun a w G=>?_|refine W.asg fun a w G=>?_|refine W.bx fun b a w G=>?_|(refine W.nn hK ?_;clear hK K)|refine W.nl ?_|refine W.ste ?_ fun w=>?_)|((with_reducible refine gC_ ?_);first|refine W.reg fun K hK=>?_|refine W.reg1 ?_|refine W.sq fun K hK=>?_|refine W.sk ?_|refine W.cd (fun hc=>?_) (fun hc=>?_)|refine W.cb (fun hc=>?_) (fun hc=>?_)|refine W.rt ?_)|((with_reducible refine W.kn hK ?_);clear hK K)|with_reducible refine W.tr ?_|with_reducible refine W.br ?_|refine W.rt1 rfl ?_)|clear hK K|clear hu|exact True.intro|exact Nat.le_trans (by clear hp;omega) hp|exact Nat.le_trans (by clear hp;omega) hp.1|exact Nat.le_trans (by clear hp;omega) hp.2|(clear hp;omega)|apply And.intro|refine GI.i fun _=>?_|with_reducible rfl|decide|(simp only [List.length_cons,List.length_nil];omega))
  all_goals (have h1:=@len_zero_iff x.natAbs;have h2:=sgn_cases x;omega)
instance {n : Nat} {x : Int} {τ1 : MT} [j1 : NW τ1 (W n x)] : Con Tryz.prog 129 [τ1] (True) (IT x.sign):=.o1 fun hok h1 hp=>w129.c1 hok (j1.h h1) hp
theorem w84 {n : Nat} {x : Int} : Con Tryz.prog 84 [W n x] (True) (WC n (-x)):=.o1 fun hok h1 hp=>by
  refine St.enter (N:=9) Tryz.func84 rfl rfl rfl hok (enter1 h1) fun a=>?_
  repeat' (first|((with_reducible refine gS_ ?_);first|((with_reducible refine gL_ ?_);first|refine W.run ?_ fun a w G=>?_|refine W.mv fun a w G=>?_|refine W.asg fun a w G=>?_|refine W.bx fun b a w G=>?_|(refine W.nn hK ?_;clear hK K)|refine W.nl ?_|refine W.al fun b a w G=>?_|refine W.st fun w=>?_|refine W.stp fun w=>?_|refine W.ste ?_ fun w=>?_)|((with_reducible refine gC_ ?_);first|refine W.reg fun K hK=>?_|refine W.reg1 ?_|refine W.sq fun K hK=>?_|refine W.ds ?_ (fun β a w G hu=>W.fin ?_ hu) mixedOrders (by kernel_rfl)|refine W.sk ?_|refine W.rt ?_)|((with_reducible refine W.kn hK ?_);clear hK K)|with_reducible refine W.tr ?_|with_reducible refine W.br ?_|refine W.rt1 rfl ?_)|clear hK K|clear hu|exact True.intro|exact Nat.le_trans (by clear hp;omega) hp|exact Nat.le_trans (by clear hp;omega) hp.1|exact Nat.le_trans (by clear hp;omega) hp.2|(clear hp;omega)|apply And.intro|refine GI.i fun _=>?_|with_reducible rfl|decide|(simp only [List.length_cons,List.length_nil];omega))
  all_goals exact neg_sg
instance {n : Nat} {x : Int} {τ1 : MT} [j1 : NW τ1 (W n x)] : Con Tryz.prog 84 [τ1] (True) (WC n (-x)):=.o1 fun hok h1 hp=>w84.c1 hok (j1.h h1) hp
theorem w114 {n m : Nat} {x y : Int} : Con Tryz.prog 114 [W n x,W m y] (n ≤ BIG ∧ m ≤ BIG) (WC (max n m + 1) (x + y)):=.o2 fun hok h1 h2 hp=>by
  refine St.enter (N:=38) Tryz.func114 rfl rfl rfl hok (enter2 h1 h2) fun a=>?_
  repeat' (first|((with_reducible refine gS_ ?_);first|((with_reducible refine gL_ ?_);first|refine W.run ?_ fun a w G=>?_|refine W.mv fun a w G=>?_|refine W.asg fun a w G=>?_|refine W.bx fun b a w G=>?_|(refine W.nn hK ?_;clear hK K)|refine W.nl ?_|refine W.al fun b a w G=>?_|refine W.st fun w=>?_|refine W.stp fun w=>?_|refine W.ste ?_ fun w=>?_)|((with_reducible refine gC_ ?_);first|refine W.reg fun K hK=>?_|refine W.reg1 ?_|refine W.sq fun K hK=>?_|refine W.ds ?_ (fun β a w G hu=>W.fin ?_ hu) mixedOrders (by kernel_rfl)|refine W.sk ?_|refine W.cd (fun hc=>?_) (fun hc=>?_)|refine W.cb (fun hc=>?_) (fun hc=>?_)|refine W.rt ?_)|((with_reducible refine W.kn hK ?_);clear hK K)|with_reducible refine W.tr ?_|with_reducible refine W.br ?_|refine W.rt1 rfl ?_)|clear hK K|clear hu|exact True.intro|exact Nat.le_trans (by clear hp;omega) hp|exact Nat.le_trans (by clear hp;omega) hp.1|exact Nat.le_trans (by clear hp;omega) hp.2|(clear hp;omega)|apply And.intro|refine GI.i fun _=>?_|with_reducible rfl|decide|(simp only [List.length_cons,List.length_nil];omega))
  all_goals first | exact add_same (by simpa using hc) | exact cmpN_ge.1 hc | exact add_diff (add_d (by assumption)) (cmpN_ge.1 hc) | exact cmpN_lt hc | exact add_diff2 (add_d (by assumption)) (cmpN_lt hc)
instance {n m : Nat} {x y : Int} {τ1 : MT} [j1 : NW τ1 (W n x)] {τ2 : MT} [j2 : NW τ2 (W m y)] : Con Tryz.prog 114 [τ1,τ2] (n ≤ BIG ∧ m ≤ BIG) (WC (max n m + 1) (x + y)):=.o2 fun hok h1 h2 hp=>w114.c2 hok (j1.h h1) (j2.h h2) hp
theorem w167 {n m : Nat} {x y : Int} : Con Tryz.prog 167 [W n x,W m y] (n ≤ BIG ∧ m ≤ BIG) (WC (max n m + 1) (x - y)):=.o2 fun hok h1 h2 hp=>by
  refine St.enter (N:=9) Tryz.func167 rfl rfl rfl hok (enter2 h1 h2) fun a=>?_
  repeat' (first|((with_reducible refine gS_ ?_);first|((with_reducible refine gL_ ?_);first|refine W.run ?_ fun a w G=>?_|refine W.mv fun a w G=>?_|refine W.asg fun a w G=>?_|refine W.bx fun b a w G=>?_|(refine W.nn hK ?_;clear hK K)|refine W.nl ?_|refine W.al fun b a w G=>?_|refine W.st fun w=>?_|refine W.stp fun w=>?_|refine W.ste ?_ fun w=>?_)|((with_reducible refine gC_ ?_);first|refine W.reg fun K hK=>?_|refine W.reg1 ?_|refine W.sq fun K hK=>?_|refine W.ds ?_ (fun β a w G hu=>W.fin ?_ hu) mixedOrders (by kernel_rfl)|refine W.sk ?_|refine W.rt ?_)|((with_reducible refine W.kn hK ?_);clear hK K)|with_reducible refine W.tr ?_|with_reducible refine W.br ?_|refine W.rt1 rfl ?_)|clear hK K|clear hu|exact True.intro|exact Nat.le_trans (by clear hp;omega) hp|exact Nat.le_trans (by clear hp;omega) hp.1|exact Nat.le_trans (by clear hp;omega) hp.2|(clear hp;omega)|apply And.intro|refine GI.i fun _=>?_|with_reducible rfl|decide|(simp only [List.length_cons,List.length_nil];omega))
  all_goals exact Int.sub_eq_add_neg.symm
instance {n m : Nat} {x y : Int} {τ1 : MT} [j1 : NW τ1 (W n x)] {τ2 : MT} [j2 : NW τ2 (W m y)] : Con Tryz.prog 167 [τ1,τ2] (n ≤ BIG ∧ m ≤ BIG) (WC (max n m + 1) (x - y)):=.o2 fun hok h1 h2 hp=>w167.c2 hok (j1.h h1) (j2.h h2) hp
theorem w151 {n m : Nat} {x y : Int} : Con Tryz.prog 151 [W n x,W m y] (n ≤ BIG ∧ m ≤ BIG) (IT (cmpZ x y)):=.o2 fun hok h1 h2 hp=>by
  refine St.enter (N:=9) Tryz.func151 rfl rfl rfl hok (enter2 h1 h2) fun a=>?_
  repeat' (first|((with_reducible refine gS_ ?_);first|((with_reducible refine gL_ ?_);first|refine W.run ?_ fun a w G=>?_|refine W.mv fun a w G=>?_|refine W.asg fun a w G=>?_|refine W.bx fun b a w G=>?_|(refine W.nn hK ?_;clear hK K)|refine W.nl ?_|refine W.ste ?_ fun w=>?_)|((with_reducible refine gC_ ?_);first|refine W.reg fun K hK=>?_|refine W.reg1 ?_|refine W.sq fun K hK=>?_|refine W.sk ?_|refine W.rt ?_)|((with_reducible refine W.kn hK ?_);clear hK K)|with_reducible refine W.tr ?_|with_reducible refine W.br ?_|refine W.rt1 rfl ?_)|clear hK K|clear hu|exact True.intro|exact Nat.le_trans (by clear hp;omega) hp|exact Nat.le_trans (by clear hp;omega) hp.1|exact Nat.le_trans (by clear hp;omega) hp.2|(clear hp;omega)|apply And.intro|refine GI.i fun _=>?_|with_reducible rfl|decide|(simp only [List.length_cons,List.length_nil];omega))
  all_goals exact cmp_sub
instance {n m : Nat} {x y : Int} {τ1 : MT} [j1 : NW τ1 (W n x)] {τ2 : MT} [j2 : NW τ2 (W m y)] : Con Tryz.prog 151 [τ1,τ2] (n ≤ BIG ∧ m ≤ BIG) (IT (cmpZ x y)):=.o2 fun hok h1 h2 hp=>w151.c2 hok (j1.h h1) (j2.h h2) hp
theorem w157 {n m : Nat} {x y : Int} : Con Tryz.prog 157 [W n x,W m y] (n + m ≤ BIG) (WC (n + m) (x * y)):=.o2 fun hok h1 h2 hp=>by
  refine St.enter (N:=16) Tryz.func157 rfl rfl rfl hok (enter2 h1 h2) fun a=>?_
  repeat' (first|((with_reducible refine gS_ ?_);first|((with_reducible refine gL_ ?_);first|refine W.run ?_ fun a w G=>?_|refine W.mv fun a w G=>?_|refine W.asg fun a w G=>?_|refine W.bx fun b a w G=>?_|(refine W.nn hK ?_;clear hK K)|refine W.nl ?_|refine W.al fun b a w G=>?_|refine W.st fun w=>?_|refine W.stp fun w=>?_|refine W.ste ?_ fun w=>?_)|((with_reducible refine gC_ ?_);first|refine W.reg fun K hK=>?_|refine W.reg1 ?_|refine W.sq fun K hK=>?_|refine W.ds ?_ (fun β a w G hu=>W.fin ?_ hu) mixedOrders (by kernel_rfl)|refine W.sk ?_|refine W.rt ?_)|((with_reducible refine W.kn hK ?_);clear hK K)|with_reducible refine W.tr ?_|with_reducible refine W.br ?_|refine W.rt1 rfl ?_)|clear hK K|clear hu|exact True.intro|exact Nat.le_trans (by clear hp;omega) hp|exact Nat.le_trans (by clear hp;omega) hp.1|exact Nat.le_trans (by clear hp;omega) hp.2|(clear hp;omega)|apply And.intro|refine GI.i fun _=>?_|with_reducible rfl|decide|(simp only [List.length_cons,List.length_nil];omega))
  all_goals exact mul_sg
instance {n m : Nat} {x y : Int} {τ1 : MT} [j1 : NW τ1 (W n x)] {τ2 : MT} [j2 : NW τ2 (W m y)] : Con Tryz.prog 157 [τ1,τ2] (n + m ≤ BIG) (WC (n + m) (x * y)):=.o2 fun hok h1 h2 hp=>w157.c2 hok (j1.h h1) (j2.h h2) hp
theorem w130 {n m : Nat} {x y : Int} : Con Tryz.prog 130 [W n x,W m y] (n ≤ BIG ∧ m ≤ BIG) (WC (max n m) ((Nat.gcd x.natAbs y.natAbs : Nat) : Int)):=.o2 fun hok h1 h2 hp=>by
  refine St.enter (N:=11) Tryz.func130 rfl rfl rfl hok (enter2 h1 h2) fun a=>?_
  repeat' (first|((with_reducible refine gS_ ?_);first|((with_reducible refine gL_ ?_);first|refine W.run ?_ fun a w G=>?_|refine W.mv fun a w G=>?_|refine W.asg fun a w G=>?_|refine W.bx fun b a w G=>?_|(refine W.nn hK ?_;clear hK K)|refine W.nl ?_|refine W.al fun b a w G=>?_|refine W.st fun w=>?_|refine W.stp fun w=>?_|refine W.ste ?_ fun w=>?_)|((with_reducible refine gC_ ?_);first|refine W.reg fun K hK=>?_|refine W.reg1 ?_|refine W.sq fun K hK=>?_|refine W.ds ?_ (fun β a w G hu=>W.fin ?_ hu) mixedOrders (by kernel_rfl)|refine W.sk ?_|refine W.rt ?_)|((with_reducible refine W.kn hK ?_);clear hK K)|with_reducible refine W.tr ?_|with_reducible refine W.br ?_|refine W.rt1 rfl ?_)|clear hK K|clear hu|exact True.intro|exact Nat.le_trans (by clear hp;omega) hp|exact Nat.le_trans (by clear hp;omega) hp.1|exact Nat.le_trans (by clear hp;omega) hp.2|(clear hp;omega)|apply And.intro|refine GI.i fun _=>?_|with_reducible rfl|decide|(simp only [List.length_cons,List.length_nil];omega))
  all_goals exact sg_false
instance {n m : Nat} {x y : Int} {τ1 : MT} [j1 : NW τ1 (W n x)] {τ2 : MT} [j2 : NW τ2 (W m y)] : Con Tryz.prog 130 [τ1,τ2] (n ≤ BIG ∧ m ≤ BIG) (WC (max n m) ((Nat.gcd x.natAbs y.natAbs : Nat) : Int)):=.o2 fun hok h1 h2 hp=>w130.c2 hok (j1.h h1) (j2.h h2) hp
theorem rsgn_z {y : Int} (h : y.sign = 0) : y = 0:=by have:=sgn_cases y;omega
theorem rsgn_nz {y : Int} (h : ¬ y.sign = 0) : y ≠ 0:=fun e=>h (by rw [e];rfl)
theorem w131 {n m : Nat} {x y : Int} : Con Tryz.prog 131 [W n x,W m y] (n ≤ BIG ∧ m ≤ BIG) (MT.tup3 (WC n (x / y)) (WC m (if y = 0 then 0 else x % y)) (IT (if y = 0 then 8 else 0))):=.o2 fun hok h1 h2 hp=>by
  refine St.enter (N:=45) Tryz.func131 rfl rfl rfl hok (enter2 h1 h2) fun a=>?_
  have hxl:=W.lt h1
  have hyl:=W.lt h2
  have hB1 : 1 ≤ BIG:=by decide
  repeat' (first|refine W.cast (t:=31) (τ:=SN (max n 1 + 1) (x.natAbs / y.natAbs + 1)) (τ':=SN n (x.natAbs / y.natAbs + 1)) (fun h=>⟨qd_bound hxl (div_t hc).2 (rsgn_nz (by assumption)),h.2⟩) ?_|((with_reducible refine gS_ ?_);first|((with_reducible refine gL_ ?_);first|refine W.run ?_ fun a w G=>?_|refine W.mv fun a w G=>?_|refine W.asg fun a w G=>?_|refine W.bx fun b a w G=>?_|(refine W.nn hK ?_;clear hK K)|refine W.nl ?_|refine W.al fun b a w G=>?_|refine W.st fun w=>?_|refine W.stp fun w=>?_|refine W.ste ?_ fun w=>?_)|((with_reducible refine gC_ ?_);first|refine W.reg fun K hK=>?_|refine W.reg1 ?_|refine W.sq fun K hK=>?_|refine W.ds ?_ (fun β a w G hu=>W.fin ?_ hu) mixedOrders (by kernel_rfl)|refine W.sk ?_|refine W.cd (fun hc=>?_) (fun hc=>?_)|refine W.cb (fun hc=>?_) (fun hc=>?_)|refine W.rt ?_)|((with_reducible refine W.kn hK ?_);clear hK K)|with_reducible refine W.tr ?_|with_reducible refine W.br ?_|refine W.rt3 rfl ?_ ?_ ?_)|clear hK K|clear hu|exact True.intro|exact Nat.le_trans (by clear hp;omega) hp|exact Nat.le_trans (by clear hp;omega) hp.1|exact Nat.le_trans (by clear hp;omega) hp.2|(clear hp;omega)|apply And.intro|refine GI.i fun _=>?_|with_reducible rfl|decide|(simp only [List.length_cons,List.length_nil];omega))
  all_goals first
    | (have hy0:=rsgn_z hc;subst hy0;simp;done)
    | (have hy0 := rsgn_nz (y := y) (by assumption)
       have hlt:=Nat.mod_lt x.natAbs (show 0 < y.natAbs by omega)
       (try rw [if_neg hy0]) <;> first | omega | exact (qd2 hy0 (div_f hc)).1 | exact (qd2 hy0 (div_f hc)).2 | exact (qd1 hy0 (div_t hc).1 (div_t hc).2).1 | exact (qd1 hy0 (div_t hc).1 (div_t hc).2).2)
instance {n m : Nat} {x y : Int} {τ1 : MT} [j1 : NW τ1 (W n x)] {τ2 : MT} [j2 : NW τ2 (W m y)] : Con Tryz.prog 131 [τ1,τ2] (n ≤ BIG ∧ m ≤ BIG) (MT.tup3 (WC n (x / y)) (WC m (if y = 0 then 0 else x % y)) (IT (if y = 0 then 8 else 0))):=.o2 fun hok h1 h2 hp=>w131.c2 hok (j1.h h1) (j2.h h2) hp
instance {z : Int} : Con Tryz.prog 113 [IT z] (I64 z) (WC 64 z):=.o1 fun hok h1 hp=>by
  refine St.enter (N:=19) Tryz.func113 rfl rfl rfl hok (enter1 h1) fun a=>?_
  repeat' (first|((with_reducible refine gS_ ?_);first|((with_reducible refine gL_ ?_);first|refine W.run ?_ fun a w G=>?_|refine W.mv fun a w G=>?_|refine W.asg fun a w G=>?_|(refine W.nn hK ?_;clear hK K)|refine W.nl ?_|refine W.al fun b a w G=>?_|refine W.st fun w=>?_|refine W.stp fun w=>?_|refine W.ste ?_ fun w=>?_)|((with_reducible refine gC_ ?_);first|refine W.reg fun K hK=>?_|refine W.reg1 ?_|refine W.sq fun K hK=>?_|refine W.sk ?_|refine W.cd (fun hc=>?_) (fun hc=>?_)|refine W.cb (fun hc=>?_) (fun hc=>?_)|refine W.rt ?_)|((with_reducible refine W.kn hK ?_);clear hK K)|with_reducible refine W.tr ?_|with_reducible refine W.br ?_|refine W.rt1 rfl ?_)|refine W.cast (t:=17) (τ':=SV 64 z.natAbs) (of_sv (by first|exact of_n hp hc|exact of_p hp hc) hp) ?_|clear hK K|clear hu|exact True.intro|exact Nat.le_trans (by clear hp;omega) hp|exact Nat.le_trans (by clear hp;omega) hp.1|exact Nat.le_trans (by clear hp;omega) hp.2|(clear hp;omega)|apply And.intro|refine GI.i fun _=>?_|with_reducible rfl|decide|(simp only [List.length_cons,List.length_nil];omega))
  all_goals (unfold sg;simp [hc];omega)
end Go.Proofs.YtboicjlbbbodgaaGreatDoor
namespace Go.Proofs.YtboicjlbbbodgaaGreatDoor
open Go.RowKit (Below)
attribute [local irreducible] Go.Code.wp Go.wpList Go.bodyPost
class NL (τ : MT) (τ' : outParam MT) : Prop where
  h : ∀ {v : Value} {G : Gh},τ.t v G → τ'.t v G
instance NL.l {τ : MT} {l : List Nat} [q : AsW τ l] : NL τ (SL l):=⟨q.h⟩
instance  : Con Tryz.prog 124 [] (True) (WC 1 1):=.o0 fun hok  hp=>by
  refine St.enter (N:=2) Tryz.func124 rfl rfl rfl hok enter0 fun a=>?_
  repeat' (first|((with_reducible refine gS_ ?_);first|((with_reducible refine gL_ ?_);first|refine W.run ?_ fun a w G=>?_|refine W.mv fun a w G=>?_|refine W.asg fun a w G=>?_|(refine W.nn hK ?_;clear hK K)|refine W.nl ?_|refine W.al fun b a w G=>?_|refine W.st fun w=>?_|refine W.stp fun w=>?_|refine W.ste ?_ fun w=>?_)|((with_reducible refine gC_ ?_);first|refine W.reg fun K hK=>?_|refine W.reg1 ?_|refine W.sq fun K hK=>?_|refine W.sk ?_|refine W.rt ?_)|((with_reducible refine W.kn hK ?_);clear hK K)|with_reducible refine W.tr ?_|with_reducible refine W.br ?_|refine W.rt1 rfl ?_)|clear hK K|clear hu|exact True.intro|exact Nat.le_trans (by clear hp;omega) hp|exact Nat.le_trans (by clear hp;omega) hp.1|exact Nat.le_trans (by clear hp;omega) hp.2|(clear hp;omega)|apply And.intro|refine GI.i fun _=>?_|with_reducible rfl|decide|(simp only [List.length_cons,List.length_nil];omega))
theorem plain_e {l : List Nat} : (decide ((l.length : Int) > 0) && decide (dig l ((l.length : Int) - 1).toNat ≠ 0)) = plainl l:=by
  by_cases h : 0 < l.length
  · rw [show ((l.length : Int) - 1).toNat = l.length - 1 by omega,plainl_last h];simp only [show ((l.length : Int) > 0) from by omega,decide_true,Bool.true_and]
  · rw [← plainl_none h];simp only [Bool.and_eq_false_iff,decide_eq_false_iff_not];exact .inl (by omega)
theorem rok_e {r : FR} (h0 : (decide ((r.p.length : Int) = 0) && decide ((r.q.length : Int) = 0)) = false) : (plainl r.p && plainl r.q && decide (cmpZ ((Nat.gcd (wval false r.p).natAbs (wval false r.q).natAbs : Nat) : Int) 1 = 0)) = r.ok:=by
  simp only [Bool.and_eq_false_iff,decide_eq_false_iff_not] at h0
  have h0' : ¬ (r.p.length = 0 ∧ r.q.length = 0):=by omega
  cases h1 : plainl r.p with
  | false=>exact rqok_f1 h0' h1
  | true=>cases h2 : plainl r.q with
    | false=>exact rqok_f2 h0' h2
    | true=>exact rqok_t h1 h2
theorem f_sgd {x y X : Int} {g : Nat} (hy : y ≠ 0) (hx : ¬ x.sign = 0) (hX : X = if y < 0 then -x else x) (hg : g ∣ X.natAbs) : decide (X / (g : Int) < 0) = decide (Rat.divInt x y < 0):=by
  have hx0 : x ≠ 0:=fun e=>hx (by rw [e];rfl)
  refine decide_eq_decide.2 (Iff.trans ?_ (frac_neg hx0 hy).symm)
  rw [← hX]
  obtain ⟨k,hk⟩:=Int.ofNat_dvd_left.2 hg
  have hX0 : X ≠ 0:=by split at hX <;> omega
  have hg0 : 0 < (g : Int):=by
    rcases Nat.eq_zero_or_pos g with h | h
    · subst h;simp at hk;exact absurd hk hX0
    · omega
  rw [hk,Int.mul_ediv_cancel_left _ (by omega)]
  constructor
  · intro h;exact Int.mul_neg_of_pos_of_neg hg0 h
  · intro h
    rcases (show k < 0 ∨ 0 ≤ k by omega) with h1 | h1
    · exact h1
    · have:=Int.mul_nonneg (Int.le_of_lt hg0) h1;omega
theorem w152 {l : List Nat} : Con Tryz.prog 152 [SL l] (True) (BT (plainl l)):=.o1 fun hok h1 hp=>by
  refine St.enter (N:=15) Tryz.func152 rfl rfl rfl hok (enter1 h1) fun a=>?_
  have hlim:=SL.lim h1
  simp only [LIM] at hlim
  repeat' (first|((with_reducible refine gS_ ?_);first|((with_reducible refine gL_ ?_);first|refine W.run ?_ fun a w G=>?_|refine W.mv fun a w G=>?_|refine W.asg fun a w G=>?_|(refine W.nn hK ?_;clear hK K)|refine W.nl ?_|refine W.ste ?_ fun w=>?_)|((with_reducible refine gC_ ?_);first|refine W.reg fun K hK=>?_|refine W.reg1 ?_|refine W.sq fun K hK=>?_|refine W.sk ?_|refine W.rt ?_)|((with_reducible refine W.kn hK ?_);clear hK K)|with_reducible refine W.tr ?_|with_reducible refine W.br ?_|refine W.rt1 rfl ?_)|clear hK K|clear hu|exact True.intro|exact Nat.le_trans (by clear hp;omega) hp|exact Nat.le_trans (by clear hp;omega) hp.1|exact Nat.le_trans (by clear hp;omega) hp.2|(clear hp;omega)|apply And.intro|refine GI.i fun _=>?_|with_reducible rfl|decide|(simp only [List.length_cons,List.length_nil];omega))
  all_goals first | exact plain_e | (simp only [decide_eq_true_eq] at *;omega)
instance {l : List Nat} {τ1 : MT} [j1 : NL τ1 (SL l)] : Con Tryz.prog 152 [τ1] (True) (BT (plainl l)):=.o1 fun hok h1 hp=>w152.c1 hok (j1.h h1) hp
theorem w118 {n : Nat} {r : FR} : Con Tryz.prog 118 [FX n r] (n ≤ BIG) (BT r.ok):=.o1 fun hok h1 hp=>by
  refine St.enter (N:=36) Tryz.func118 rfl rfl rfl hok (enter1 h1) fun a=>?_
  have hlim:=QR.lim (FX.qr h1)
  simp only [LIM] at hlim
  repeat' (first|((with_reducible refine gS_ ?_);first|((with_reducible refine gL_ ?_);first|refine W.run ?_ fun a w G=>?_|refine W.mv fun a w G=>?_|refine W.asg fun a w G=>?_|refine W.bx fun b a w G=>?_|(refine W.nn hK ?_;clear hK K)|refine W.nl ?_|refine W.ste ?_ fun w=>?_)|((with_reducible refine gC_ ?_);first|refine W.reg fun K hK=>?_|refine W.reg1 ?_|refine W.sq fun K hK=>?_|refine W.sk ?_|refine W.cd (fun hc=>?_) (fun hc=>?_)|refine W.cb (fun hc=>?_) (fun hc=>?_)|refine W.rt ?_)|((with_reducible refine W.kn hK ?_);clear hK K)|with_reducible refine W.tr ?_|with_reducible refine W.br ?_|refine W.rt1 rfl ?_)|clear hK K|clear hu|exact True.intro|exact Nat.le_trans (by clear hp;omega) hp|exact Nat.le_trans (by clear hp;omega) hp.1|exact Nat.le_trans (by clear hp;omega) hp.2|(clear hp;omega)|apply And.intro|refine GI.i fun _=>?_|with_reducible rfl|decide|(simp only [List.length_cons,List.length_nil];omega))
  all_goals first | exact fv_nil hc | exact rok_e hc
instance {n : Nat} {r : FR} {τ1 : MT} [j1 : NF τ1 (FX n r)] : Con Tryz.prog 118 [τ1] (n ≤ BIG) (BT r.ok):=.o1 fun hok h1 hp=>w118.c1 hok (j1.h h1) hp
theorem w82 {n : Nat} {x : Rat} : Con Tryz.prog 82 [QV n x] (n ≤ BIG) (MT.tup2 (WC n x.num) (WC n ((x.den : Nat) : Int))):=.o1 fun hok h1 hp=>by
  obtain ⟨r,rfl,hf⟩:=QV.fx h1
  replace h1:=hf
  have hqr:=FX.qr h1
  have hwf:=QR.wf hqr
  have hlim:=QR.lim hqr
  have hn1:=h1.1
  simp only [LIM] at hlim
  refine St.enter (N:=23) Tryz.func82 rfl rfl rfl hok (enter1 h1) fun a=>?_
  repeat' (first|((with_reducible refine gS_ ?_);first|((with_reducible refine gL_ ?_);first|refine W.run ?_ fun a w G=>?_|refine W.mv fun a w G=>?_|refine W.asg fun a w G=>?_|refine W.bx fun b a w G=>?_|(refine W.nn hK ?_;clear hK K)|refine W.nl ?_|refine W.al fun b a w G=>?_|refine W.st fun w=>?_|refine W.stp fun w=>?_|refine W.ste ?_ fun w=>?_)|((with_reducible refine gC_ ?_);first|refine W.reg fun K hK=>?_|refine W.reg1 ?_|refine W.sq fun K hK=>?_|refine W.ds ?_ (fun β a w G hu=>W.fin ?_ hu) mixedOrders (by kernel_rfl)|refine W.sk ?_|refine W.cd (fun hc=>?_) (fun hc=>?_)|refine W.cb (fun hc=>?_) (fun hc=>?_)|refine W.rt ?_)|((with_reducible refine W.kn hK ?_);clear hK K)|with_reducible refine W.tr ?_|with_reducible refine W.br ?_|refine W.rt2 rfl ?_ ?_)|clear hK K|clear hu|exact True.intro|exact Nat.le_trans (by clear hp;omega) hp|exact Nat.le_trans (by clear hp;omega) hp.1|exact Nat.le_trans (by clear hp;omega) hp.2|(clear hp;omega)|apply And.intro|refine GI.i fun _=>?_|with_reducible rfl|decide|(simp only [List.length_cons,List.length_nil];omega))
  all_goals first
    | (rw [part_e hc];rfl)
    | exact part_s hwf (part_o hc).1 (part_o hc).2
    | exact part_p hwf (part_o hc).1 (part_o hc).2
    | exact part_q hwf (part_o hc).1 (part_o hc).2
    | exact (decide_eq_false (by omega)).symm
instance {n : Nat} {x : Rat} {τ1 : MT} [j1 : NQ τ1 (QV n x)] : Con Tryz.prog 82 [τ1] (n ≤ BIG) (MT.tup2 (WC n x.num) (WC n ((x.den : Nat) : Int))):=.o1 fun hok h1 hp=>w82.c1 hok (j1.h h1) hp
theorem w83 {n m : Nat} {x y : Int} : Con Tryz.prog 83 [W n x,W m y] (max n m ≤ BIG ∧ y ≠ 0) (QC (max n m) (Rat.divInt x y)):=.o2 fun hok h1 h2 hp=>by
  refine St.enter (N:=47) Tryz.func83 rfl rfl rfl hok (enter2 h1 h2) fun a=>?_
  repeat' (first|((with_reducible refine gS_ ?_);first|((with_reducible refine gL_ ?_);first|refine W.run ?_ fun a w G=>?_|refine W.mv fun a w G=>?_|refine W.asg fun a w G=>?_|refine W.bx fun b a w G=>?_|(refine W.nn hK ?_;clear hK K)|refine W.nl ?_|refine W.al fun b a w G=>?_|refine W.st fun w=>?_|refine W.stp fun w=>?_|refine W.ste ?_ fun w=>?_)|((with_reducible refine gC_ ?_);first|refine W.reg fun K hK=>?_|refine W.reg1 ?_|refine W.sq fun K hK=>?_|refine W.ds ?_ (fun β a w G hu=>W.fin ?_ hu) mixedOrders (by kernel_rfl)|refine W.sk ?_|refine W.cd (fun hc=>?_) (fun hc=>?_)|refine W.cb (fun hc=>?_) (fun hc=>?_)|refine W.rt ?_)|((with_reducible refine W.kn hK ?_);clear hK K)|with_reducible refine W.tr ?_|with_reducible refine W.br ?_|refine W.rt1 rfl ?_)|clear hK K|clear hu|exact True.intro|exact Nat.le_trans (by clear hp;omega) hp|exact Nat.le_trans (by clear hp;omega) hp.1|exact Nat.le_trans (by clear hp;omega) hp.2|(clear hp;omega)|apply And.intro|refine GI.i fun _=>?_|with_reducible rfl|decide|(simp only [List.length_cons,List.length_nil];omega))
  all_goals first
    | exact Nat.le_trans (one_le_of_lt (show y.natAbs ≠ 0 by omega) (W.lt h2)) (Nat.le_max_right _ _)
    | exact frac_zero hc
    | exact (frac_zero hc).symm
    | exact f_num hp.2 (by omega) (by omega) (by omega)
    | exact f_den hp.2 (by omega) (by omega) (by omega)
    | exact f_ne hp.2 (by assumption)
    | exact f_sgd hp.2 (by assumption) (by first | exact (if_pos (sgn_lt (by assumption))).symm | exact (if_neg (sgn_nlt (by assumption))).symm) (Nat.gcd_dvd_left _ _)
instance {n m : Nat} {x y : Int} {τ1 : MT} [j1 : NW τ1 (W n x)] {τ2 : MT} [j2 : NW τ2 (W m y)] : Con Tryz.prog 83 [τ1,τ2] (max n m ≤ BIG ∧ y ≠ 0) (QC (max n m) (Rat.divInt x y)):=.o2 fun hok h1 h2 hp=>w83.c2 hok (j1.h h1) (j2.h h2) hp
theorem w127 {n m : Nat} {x y : Rat} : Con Tryz.prog 127 [QV n x,QV m y] (n + m ≤ BIG) (QC (n + m) (x * y)):=.o2 fun hok h1 h2 hp=>by
  refine St.enter (N:=26) Tryz.func127 rfl rfl rfl hok (enter2 h1 h2) fun a=>?_
  repeat' (first|((with_reducible refine gS_ ?_);first|((with_reducible refine gL_ ?_);first|refine W.run ?_ fun a w G=>?_|refine W.mv fun a w G=>?_|refine W.asg fun a w G=>?_|refine W.bx fun b a w G=>?_|(refine W.nn hK ?_;clear hK K)|refine W.nl ?_|refine W.al fun b a w G=>?_|refine W.st fun w=>?_|refine W.stp fun w=>?_|refine W.ste ?_ fun w=>?_)|((with_reducible refine gC_ ?_);first|refine W.reg fun K hK=>?_|refine W.reg1 ?_|refine W.sq fun K hK=>?_|refine W.ds ?_ (fun β a w G hu=>W.fin ?_ hu) mixedOrders (by kernel_rfl)|refine W.sk ?_|refine W.rt ?_)|((with_reducible refine W.kn hK ?_);clear hK K)|with_reducible refine W.tr ?_|with_reducible refine W.br ?_|refine W.rt1 rfl ?_)|clear hK K|clear hu|exact True.intro|exact Nat.le_trans (by clear hp;omega) hp|exact Nat.le_trans (by clear hp;omega) hp.1|exact Nat.le_trans (by clear hp;omega) hp.2|(clear hp;omega)|apply And.intro|refine GI.i fun _=>?_|with_reducible rfl|decide|(simp only [List.length_cons,List.length_nil];omega))
  all_goals first | exact Int.mul_ne_zero (den_ne _) (den_ne _) | exact den_ne _ | exact frac_mul | exact frac_add | exact frac_neg' | exact (Rat.sub_eq_add_neg _ _).symm | exact rcmp_sub
instance {n m : Nat} {x y : Rat} {τ1 : MT} [j1 : NQ τ1 (QV n x)] {τ2 : MT} [j2 : NQ τ2 (QV m y)] : Con Tryz.prog 127 [τ1,τ2] (n + m ≤ BIG) (QC (n + m) (x * y)):=.o2 fun hok h1 h2 hp=>w127.c2 hok (j1.h h1) (j2.h h2) hp
theorem w128 {n m : Nat} {x y : Rat} : Con Tryz.prog 128 [QV n x,QV m y] (n + m + 1 ≤ BIG) (QC (n + m + 1) (x + y)):=.o2 fun hok h1 h2 hp=>by
  refine St.enter (N:=30) Tryz.func128 rfl rfl rfl hok (enter2 h1 h2) fun a=>?_
  repeat' (first|((with_reducible refine gS_ ?_);first|((with_reducible refine gL_ ?_);first|refine W.run ?_ fun a w G=>?_|refine W.mv fun a w G=>?_|refine W.asg fun a w G=>?_|refine W.bx fun b a w G=>?_|(refine W.nn hK ?_;clear hK K)|refine W.nl ?_|refine W.al fun b a w G=>?_|refine W.st fun w=>?_|refine W.stp fun w=>?_|refine W.ste ?_ fun w=>?_)|((with_reducible refine gC_ ?_);first|refine W.reg fun K hK=>?_|refine W.reg1 ?_|refine W.sq fun K hK=>?_|refine W.ds ?_ (fun β a w G hu=>W.fin ?_ hu) mixedOrders (by kernel_rfl)|refine W.sk ?_|refine W.rt ?_)|((with_reducible refine W.kn hK ?_);clear hK K)|with_reducible refine W.tr ?_|with_reducible refine W.br ?_|refine W.rt1 rfl ?_)|clear hK K|clear hu|exact True.intro|exact Nat.le_trans (by clear hp;omega) hp|exact Nat.le_trans (by clear hp;omega) hp.1|exact Nat.le_trans (by clear hp;omega) hp.2|(clear hp;omega)|apply And.intro|refine GI.i fun _=>?_|with_reducible rfl|decide|(simp only [List.length_cons,List.length_nil];omega))
  all_goals first | exact Int.mul_ne_zero (den_ne _) (den_ne _) | exact den_ne _ | exact frac_mul | exact frac_add | exact frac_neg' | exact (Rat.sub_eq_add_neg _ _).symm | exact rcmp_sub
instance {n m : Nat} {x y : Rat} {τ1 : MT} [j1 : NQ τ1 (QV n x)] {τ2 : MT} [j2 : NQ τ2 (QV m y)] : Con Tryz.prog 128 [τ1,τ2] (n + m + 1 ≤ BIG) (QC (n + m + 1) (x + y)):=.o2 fun hok h1 h2 hp=>w128.c2 hok (j1.h h1) (j2.h h2) hp
theorem w31 {n : Nat} {x : Rat} : Con Tryz.prog 31 [QV n x] (n ≤ BIG) (QC n (-x)):=.o1 fun hok h1 hp=>by
  refine St.enter (N:=14) Tryz.func31 rfl rfl rfl hok (enter1 h1) fun a=>?_
  repeat' (first|((with_reducible refine gS_ ?_);first|((with_reducible refine gL_ ?_);first|refine W.run ?_ fun a w G=>?_|refine W.mv fun a w G=>?_|refine W.asg fun a w G=>?_|refine W.bx fun b a w G=>?_|(refine W.nn hK ?_;clear hK K)|refine W.nl ?_|refine W.al fun b a w G=>?_|refine W.st fun w=>?_|refine W.stp fun w=>?_|refine W.ste ?_ fun w=>?_)|((with_reducible refine gC_ ?_);first|refine W.reg fun K hK=>?_|refine W.reg1 ?_|refine W.sq fun K hK=>?_|refine W.ds ?_ (fun β a w G hu=>W.fin ?_ hu) mixedOrders (by kernel_rfl)|refine W.sk ?_|refine W.rt ?_)|((with_reducible refine W.kn hK ?_);clear hK K)|with_reducible refine W.tr ?_|with_reducible refine W.br ?_|refine W.rt1 rfl ?_)|clear hK K|clear hu|exact True.intro|exact Nat.le_trans (by clear hp;omega) hp|exact Nat.le_trans (by clear hp;omega) hp.1|exact Nat.le_trans (by clear hp;omega) hp.2|(clear hp;omega)|apply And.intro|refine GI.i fun _=>?_|with_reducible rfl|decide|(simp only [List.length_cons,List.length_nil];omega))
  all_goals first | exact Int.mul_ne_zero (den_ne _) (den_ne _) | exact den_ne _ | exact frac_mul | exact frac_add | exact frac_neg' | exact (Rat.sub_eq_add_neg _ _).symm | exact rcmp_sub
instance {n : Nat} {x : Rat} {τ1 : MT} [j1 : NQ τ1 (QV n x)] : Con Tryz.prog 31 [τ1] (n ≤ BIG) (QC n (-x)):=.o1 fun hok h1 hp=>w31.c1 hok (j1.h h1) hp
theorem w125 {n : Nat} {x : Rat} : Con Tryz.prog 125 [QV n x] (n ≤ BIG) (IT x.num.sign):=.o1 fun hok h1 hp=>by
  refine St.enter (N:=12) Tryz.func125 rfl rfl rfl hok (enter1 h1) fun a=>?_
  repeat' (first|((with_reducible refine gS_ ?_);first|((with_reducible refine gL_ ?_);first|refine W.run ?_ fun a w G=>?_|refine W.mv fun a w G=>?_|refine W.asg fun a w G=>?_|refine W.bx fun b a w G=>?_|(refine W.nn hK ?_;clear hK K)|refine W.nl ?_|refine W.al fun b a w G=>?_|refine W.st fun w=>?_|refine W.stp fun w=>?_|refine W.ste ?_ fun w=>?_)|((with_reducible refine gC_ ?_);first|refine W.reg fun K hK=>?_|refine W.reg1 ?_|refine W.sq fun K hK=>?_|refine W.sk ?_|refine W.rt ?_)|((with_reducible refine W.kn hK ?_);clear hK K)|with_reducible refine W.tr ?_|with_reducible refine W.br ?_|refine W.rt1 rfl ?_)|clear hK K|clear hu|exact True.intro|exact Nat.le_trans (by clear hp;omega) hp|exact Nat.le_trans (by clear hp;omega) hp.1|exact Nat.le_trans (by clear hp;omega) hp.2|(clear hp;omega)|apply And.intro|refine GI.i fun _=>?_|with_reducible rfl|decide|(simp only [List.length_cons,List.length_nil];omega))
  all_goals first | exact Int.mul_ne_zero (den_ne _) (den_ne _) | exact den_ne _ | exact frac_mul | exact frac_add | exact frac_neg' | exact (Rat.sub_eq_add_neg _ _).symm | exact rcmp_sub
instance {n : Nat} {x : Rat} {τ1 : MT} [j1 : NQ τ1 (QV n x)] : Con Tryz.prog 125 [τ1] (n ≤ BIG) (IT x.num.sign):=.o1 fun hok h1 hp=>w125.c1 hok (j1.h h1) hp
instance {z : Int} {x : Rat} [e : LitQ z x] : Con Tryz.prog 72 [IT z] (I64 z) (QC 64 x):=.o1 fun hok h1 hp=>by
  refine St.enter (N:=7) Tryz.func72 rfl rfl rfl hok (enter1 h1) fun a=>?_
  repeat' (first|((with_reducible refine gS_ ?_);first|((with_reducible refine gL_ ?_);first|refine W.run ?_ fun a w G=>?_|refine W.mv fun a w G=>?_|refine W.asg fun a w G=>?_|(refine W.nn hK ?_;clear hK K)|refine W.nl ?_|refine W.al fun b a w G=>?_|refine W.st fun w=>?_|refine W.stp fun w=>?_|refine W.ste ?_ fun w=>?_)|((with_reducible refine gC_ ?_);first|refine W.reg fun K hK=>?_|refine W.reg1 ?_|refine W.sq fun K hK=>?_|refine W.sk ?_|refine W.rt ?_)|((with_reducible refine W.kn hK ?_);clear hK K)|with_reducible refine W.tr ?_|with_reducible refine W.br ?_|refine W.rt1 rfl ?_)|clear hK K|clear hu|exact True.intro|exact Nat.le_trans (by clear hp;omega) hp|exact Nat.le_trans (by clear hp;omega) hp.1|exact Nat.le_trans (by clear hp;omega) hp.2|(clear hp;omega)|apply And.intro|refine GI.i fun _=>?_|with_reducible rfl|decide|(simp only [List.length_cons,List.length_nil];omega))
  all_goals first | decide | exact hp.1 | exact hp.2 | exact frac_one.trans e.h
end Go.Proofs.YtboicjlbbbodgaaGreatDoor
