import Derived.Test.YtjphllpnhjemjaaGreatQLc
set_option linter.unusedVariables false
set_option linter.unusedSimpArgs false
namespace Go.Proofs.YtjphllpnhjemjaaGreat
set_option maxHeartbeats 1000000
set_option maxRecDepth 100000
open Go.RowKit (Below)
private theorem c_107 : callable Tryz.prog 107 = true:=by kernel_rfl
private theorem c_86 : callable Tryz.prog 86 = true:=by kernel_rfl
private theorem el_94 : elS Tryz.prog 94 1 4 (.int .u32 0):=by unfold elS;kernel_rfl
private theorem it_105 : intTy Tryz.prog 105 .u64 = true:=by kernel_rfl
private theorem it_94 : intTy Tryz.prog 94 .u32 = true:=by kernel_rfl
theorem rplus_ok {na nb x y : Nat} {v1 v2 : Value} {W0 : World} {G0 : Gh} (hok : Gok W0 G0) (h1 : (SN na x).t v1 G0) (h2 : (SN nb y).t v2 G0) (hna : na ≤ BIG) (hnb : nb ≤ BIG) : Calls Tryz.prog 91 #[v1,v2] W0 (Ret W0 G0 (SN (max na nb + 1) (x + y))):=by
 have hla:=words_length_bits (SN.lt h1)
 have hlb:=words_length_bits (SN.lt h2)
 simp only [BIG] at hna hnb
 have ha:=SN.lt h1
 have hb:=SN.lt h2
 refine St.enter (N:=37) (L:=[(1,SN nb y),(0,SN na x)]) (args:=[v1,v2]) Tryz.func91 rfl rfl rfl hok (enter2 h1 h2) fun a S=>?_
 refine wp_reg fun K hK=>?_
 refine S.s (τ:=MT.ex (Value.slice none 0 0)) (OpR.asn S.ok rfl rfl) rfl fun a w G S=>?_
 refine wn hK ?_;clear hK K
 refine wp_reg fun K hK=>?_
 refine S.s (τ:=MT.ex (Value.slice none 0 0)) (OpR.asn S.ok rfl rfl) rfl fun a w G S=>?_
 refine wn hK ?_;clear hK K
 refine wp_reg fun K hK=>?_
 refine S.s (τ:=MT.ex (nv .u64 (0))) (OpR.asn S.ok rfl (rfl : _ = nv .u64 0)) rfl fun a w G S=>?_
 refine wn hK ?_;clear hK K
 refine wp_seq_k fun K hK=>?_
 refine wp_reg fun K hK=>?_
 refine S.m rfl (S.g 4 rfl) rfl fun a w G S=>?_
 refine S.s (OpR.lenL S.ok rfl Tryz.underlying23 (SN.toSL (S.g 0 rfl)) MT.self) rfl fun a w G S=>?_
 refine S.m rfl (S.g 5 rfl) rfl fun a w G S=>?_
 refine S.s (OpR.lenL S.ok rfl Tryz.underlying23 (SN.toSL (S.g 0 rfl)) MT.self) rfl fun a w G S=>?_
 refine S.s (OpR.nmax S.ok rfl (S.e 2 rfl) (S.e 0 rfl) MT.self) rfl fun a w G S=>?_
 refine S.s (OpR.nadd S.ok rfl (S.e 0 rfl) (rfl : _ = nv .i64 1) (wr_i64 (by omega)) MT.self) rfl fun a w G S=>?_
 refine S.s (τ:=NT 0) (OpR.mv S.ok rfl (rfl : _ = nv .i64 0)) rfl fun a w G S=>?_
 refine wn hK ?_;clear hK K
 replace S:=S.d6.d5.d4.d3.d2
 refine wp_block ?_
 replace S:=S.also (t:=5) (τ:=MT.ex ((Value.slice none 0 0))) ((S.e 3 rfl).trans (by first | rfl | omega | (simp only [Nat.zero_add,Nat.add_zero];done) | (simp;done) | (push_cast;omega)))
 refine wp_loopJ (fun μ a w=>∃ (k : Nat) (c : Nat) (l : List Nat) (v : Value) (own : List BX) (G : Gh),μ = max (words x).length (words y).length + 1 - k ∧ (k ≤ max (words x).length (words y).length + 1) ∧ (c ≤ 1) ∧ (l.length = k) ∧ (wfl l) ∧ (OWN 94 v own l) ∧ (val l + 4294967296 ^ k * c = val ((words x).take k) + val ((words y).take k)) ∧  St W0 G0 37 [(15,NT k),(14,NT ((max ((words (x)).length) ((words (y)).length)) + 1)),(6,MT.ex (nv .u64 (c))),(5,MT.ex (v)),(4,MT.ex (Value.slice none 0 0)),(1,SN nb y),(0,SN na x)] (own) a w G) (max (words x).length (words y).length + 1 - 0) ⟨0,0,[],(Value.slice none 0 0),[],_,rfl,(by omega),(by omega),rfl,wfl_nil,OWN.nil,(by simp [val]),(S.keep [1,2,3,0,5,6,7]).keepB [] (by decide)⟩ ?_
 clear S
 intro μ a w ⟨k,c,l,v,own,G,hm,hk,hc,hl,hw,hr,hv,S⟩
 have hda:=dig_lt (wfl_words x) k
 have hdb:=dig_lt (wfl_words y) k
 refine wp_reg fun K hK=>?_
 refine S.s (OpR.nlss S.ok rfl (S.e 0 rfl) (S.e 1 rfl) MT.self) rfl fun a w G S=>?_
 refine wn hK ?_;clear hK K
 refine wp_seq_k fun K hK=>?_
 refine S.cond 0 rfl (fun hc1=>?_) (fun hc1=>?_)
 ·
  have hp2:=of_decide_eq_true hc1
  refine wp_skip ?_
  refine hK _ _ ?_;clear hK K
  refine wp_seq_k fun K hK=>?_
  refine wp_block ?_
  refine wp_reg fun K hK=>?_
  refine S.m rfl (S.g 1 rfl) rfl fun a w G S=>?_
  refine S.q rfl (S.g 0 rfl) rfl fun a w G S=>?_
  refine wn hK ?_;clear hK K
  replace S:=S.d1
  refine wp_reg fun K hK=>?_
  refine S.m rfl (S.g 8 rfl) rfl fun a w G S=>?_
  refine S.m rfl (S.g 1 rfl) rfl fun a w G S=>?_
  refine S.s (τ:=MT.ex (nv .u64 (dig (words (x)) k))) (OpR.call2 rfl c_107 (rat_ok S.ok (SN.toSL (S.g 1 rfl)) (S.g 0 rfl))) rfl fun a w G S=>?_
  refine S.m rfl (S.g 10 rfl) rfl fun a w G S=>?_
  refine S.m rfl (S.g 4 rfl) rfl fun a w G S=>?_
  refine S.s (τ:=MT.ex (nv .u64 (dig (words (y)) k))) (OpR.call2 rfl c_107 (rat_ok S.ok (SN.toSL (S.g 1 rfl)) (S.g 0 rfl))) rfl fun a w G S=>?_
  refine S.s (OpR.nadd S.ok rfl (S.e 3 rfl) (S.e 0 rfl) (wr_u64 (by omega)) MT.self) rfl fun a w G S=>?_
  refine S.m rfl (S.g 11 rfl) rfl fun a w G S=>?_
  refine S.s (OpR.nadd S.ok rfl (S.e 1 rfl) (S.e 0 rfl) (wr_u64 (by omega)) MT.self) rfl fun a w G S=>?_
  refine S.q rfl (S.g 0 rfl) rfl fun a w G S=>?_
  refine wn hK ?_;clear hK K
  replace S:=S.d10.d9.d8.d7.d6.d5.d4.d3.d2.d1
  refine wp_region_lit ?_
  refine S.m rfl (S.g 5 rfl) rfl fun a w G S=>?_
  refine S.m rfl (S.g 1 rfl) rfl fun a w G S=>?_
  refine S.s (OpR.nconv32 S.ok rfl (S.e 0 rfl) it_105 it_94 MT.self) rfl fun a w G S=>?_
  refine S.s (τ:=SL ([(((dig (words (x)) k) + (dig (words (y)) k)) + c) % 4294967296])) (OpR.build32 S.ok rfl Tryz.underlying23 el_94 (by omega) rfl (by simp [wfl] <;> omega) (fill1 (S.e 0 rfl))) rfl fun a w G S=>?_
  refine S.app1 (Bh:=[]) (own:=own) (l:=l) (z:=(dig (words x) k + dig (words y) k + c) % 4294967296) rfl rfl rfl Tryz.underlying23 el_94 (S.e 3 rfl) hr (S.g 0 rfl) (by simp only [LIM];omega) rfl rfl fun v1 own1 a w G hr1 S=>?_
  replace S : St W0 G0 37 [(31,MT.ex (v1)),(30,SL ([(((dig (words (x)) k) + (dig (words (y)) k)) + c) % 4294967296])),(29,MT.ex (nv .u32 ((((dig (words (x)) k) + (dig (words (y)) k)) + c) % 4294967296))),(28,MT.ex (nv .u64 (((dig (words (x)) k) + (dig (words (y)) k)) + c))),(27,MT.ex (v)),(8,MT.ex (nv .u64 (((dig (words (x)) k) + (dig (words (y)) k)) + c))),(16,BT (decide (k < ((max ((words (x)).length) ((words (y)).length)) + 1)))),(15,NT k),(14,NT ((max ((words (x)).length) ((words (y)).length)) + 1)),(6,MT.ex (nv .u64 (c))),(5,MT.ex (v)),(4,MT.ex (Value.slice none 0 0)),(1,SN nb y),(0,SN na x)] (own1) a _ _:=S
  refine S.m rfl (S.g 5 rfl) rfl fun a w G S=>?_
  refine S.s (OpR.nshr S.ok rfl (S.e 0 rfl) (rfl : _ = nv .u64 32) (by decide) MT.self) rfl fun a w G S=>?_
  replace S:=S.d12
  refine S.q rfl (S.g 2 rfl) rfl fun a w G S=>?_
  replace S:=S.d12
  refine S.q rfl (S.g 1 rfl) rfl fun a w G S=>?_
  refine wpList_nil ?_
  replace S:=S.d9.d8.d7.d6.d5.d4.d3.d2
  refine hK _ _ ?_;clear hK K
  refine wp_region_lit ?_
  refine S.s (OpR.nadd S.ok rfl (S.e 3 rfl) (rfl : _ = nv .i64 1) (wr_i64 (by omega)) MT.self) rfl fun a w G S=>?_
  replace S:=S.d4
  refine S.m rfl (S.g 0 rfl) rfl fun a w G S=>?_
  refine wpList_nil ?_
  replace S:=S.d1
  replace S:=S.also (t:=6) (τ:=MT.ex (nv .u64 (((((dig (words (x)) k) + (dig (words (y)) k)) + c) / 2 ^ 32)))) ((S.e 1 rfl).trans (nv_eq (by first | rfl | omega | (simp only [Nat.zero_add,Nat.add_zero];done) | (simp;done) | (push_cast;omega))))
  exact ⟨max (words x).length (words y).length + 1 - (k + 1),(by omega),k + 1,(((dig (words (x)) k) + (dig (words (y)) k)) + c) / 2 ^ 32,(l ++ [(dig (words x) k + dig (words y) k + c) % 4294967296]),v1,own1,_,rfl,(by omega),(by omega),(by simp [hl]),(wfl_app hw (Nat.mod_lt _ (by decide))),hr1,(radd_step hl hv),S.keep [1,5,0,3,6,7,8]⟩
 ·
  have hp3:=of_decide_eq_false hc1
  refine wp_exit (then_exit (then_exit (exit_same ?_)))
  clear hK K
  refine hK _ _ ?_;clear hK K
  refine wp_reg fun K hK=>?_
  obtain ⟨Gz,hsl,hle,S⟩:=S.freezeRow (Bh:=[]) hr (by simp only [LIM];omega) hw
  replace S:=S.also (t:=5) (τ:=SL l) ((S.e 4 rfl).symm ▸ hsl)
  replace S : St W0 G0 37 [(5,SL l),(16,BT (decide (k < ((max ((words (x)).length) ((words (y)).length)) + 1)))),(15,NT k),(14,NT ((max ((words (x)).length) ((words (y)).length)) + 1)),(6,MT.ex (nv .u64 (c))),(5,MT.ex (v)),(4,MT.ex (Value.slice none 0 0)),(1,SN nb y),(0,SN na x)] [] a _ _:=S
  refine S.m rfl (S.g 0 rfl) rfl fun a w G S=>?_
  refine S.s (τ:=SN (max na nb + 1) (x + y)) (OpR.call1 rfl c_86 (rtrim_ok S.ok (SL.asSV (S.g 0 rfl) ⟨radd_fin hl ‹_› hk hv hc,add_lt_pow ha hb⟩))) rfl fun a w G S=>?_
  replace S:=S.d8
  refine S.q rfl (S.g 0 rfl) rfl fun a w G S=>?_
  refine wn hK ?_;clear hK K
  replace S:=S.d8.d2.d1
  exact wp_ret (S.retTmp rfl (S.g 0 rfl))
theorem rminus_ok {na nb x y : Nat} {v1 v2 : Value} {W0 : World} {G0 : Gh} (hok : Gok W0 G0) (h1 : (SN na x).t v1 G0) (h2 : (SN nb y).t v2 G0) (hle0 : y ≤ x) : Calls Tryz.prog 93 #[v1,v2] W0 (Ret W0 G0 (SN na (x - y))):=by
 have hlim:=SL.lim (SN.toSL h1)
 have hx:=SN.lt h1
 simp only [LIM] at hlim
 refine St.enter (N:=35) (L:=[(1,SN nb y),(0,SN na x)]) (args:=[v1,v2]) Tryz.func93 rfl rfl rfl hok (enter2 h1 h2) fun a S=>?_
 refine wp_reg fun K hK=>?_
 refine S.s (τ:=MT.ex (Value.slice none 0 0)) (OpR.asn S.ok rfl rfl) rfl fun a w G S=>?_
 refine wn hK ?_;clear hK K
 refine wp_reg fun K hK=>?_
 refine S.s (τ:=MT.ex (Value.slice none 0 0)) (OpR.asn S.ok rfl rfl) rfl fun a w G S=>?_
 refine wn hK ?_;clear hK K
 refine wp_reg fun K hK=>?_
 refine S.s (τ:=MT.ex (nv .u64 (0))) (OpR.asn S.ok rfl (rfl : _ = nv .u64 0)) rfl fun a w G S=>?_
 refine wn hK ?_;clear hK K
 refine wp_seq_k fun K hK=>?_
 refine wp_reg fun K hK=>?_
 refine S.m rfl (S.g 4 rfl) rfl fun a w G S=>?_
 refine S.s (OpR.lenL S.ok rfl Tryz.underlying23 (SN.toSL (S.g 0 rfl)) MT.self) rfl fun a w G S=>?_
 refine S.s (τ:=NT 0) (OpR.mv S.ok rfl (rfl : _ = nv .i64 0)) rfl fun a w G S=>?_
 refine wn hK ?_;clear hK K
 replace S:=S.d2
 refine wp_block ?_
 replace S:=S.also (t:=5) (τ:=MT.ex ((Value.slice none 0 0))) ((S.e 3 rfl).trans (by first | rfl | omega | (simp only [Nat.zero_add,Nat.add_zero];done) | (simp;done) | (push_cast;omega)))
 refine wp_loopJ (fun μ a w=>∃ (k : Nat) (c : Nat) (l : List Nat) (v : Value) (own : List BX) (G : Gh),μ = (words x).length - k ∧ (k ≤ (words x).length) ∧ (c ≤ 1) ∧ (l.length = k) ∧ (wfl l) ∧ (OWN 94 v own l) ∧ (val l + val ((words y).take k) = val ((words x).take k) + 4294967296 ^ k * c) ∧  St W0 G0 35 [(11,NT k),(10,NT ((words (x)).length)),(6,MT.ex (nv .u64 (c))),(5,MT.ex (v)),(4,MT.ex (Value.slice none 0 0)),(1,SN nb y),(0,SN na x)] (own) a w G) ((words x).length - 0) ⟨0,0,[],(Value.slice none 0 0),[],_,rfl,(by omega),(by omega),rfl,wfl_nil,OWN.nil,(by simp [val]),(S.keep [1,2,3,0,5,6,7]).keepB [] (by decide)⟩ ?_
 clear S
 intro μ a w ⟨k,c,l,v,own,G,hm,hk,hc,hl,hw,hr,hv,S⟩
 have hda:=dig_lt (wfl_words x) k
 have hdb:=dig_lt (wfl_words y) k
 refine wp_reg fun K hK=>?_
 refine S.s (OpR.nlss S.ok rfl (S.e 0 rfl) (S.e 1 rfl) MT.self) rfl fun a w G S=>?_
 refine wn hK ?_;clear hK K
 refine wp_seq_k fun K hK=>?_
 refine S.cond 0 rfl (fun hc1=>?_) (fun hc1=>?_)
 ·
  have hp2:=of_decide_eq_true hc1
  refine wp_skip ?_
  refine hK _ _ ?_;clear hK K
  refine wp_seq_k fun K hK=>?_
  refine wp_block ?_
  refine wp_reg fun K hK=>?_
  refine S.m rfl (S.g 1 rfl) rfl fun a w G S=>?_
  refine S.q rfl (S.g 0 rfl) rfl fun a w G S=>?_
  refine wn hK ?_;clear hK K
  replace S:=S.d1
  refine wp_reg fun K hK=>?_
  refine S.m rfl (S.g 8 rfl) rfl fun a w G S=>?_
  refine S.m rfl (S.g 1 rfl) rfl fun a w G S=>?_
  refine S.s (τ:=MT.ex (nv .u64 (dig (words (x)) k))) (OpR.call2 rfl c_107 (rat_ok S.ok (SN.toSL (S.g 1 rfl)) (S.g 0 rfl))) rfl fun a w G S=>?_
  refine S.s (OpR.nadd S.ok rfl (rfl : _ = nv .u64 4294967296) (S.e 0 rfl) (wr_u64 (by omega)) MT.self) rfl fun a w G S=>?_
  refine S.m rfl (S.g 11 rfl) rfl fun a w G S=>?_
  refine S.m rfl (S.g 5 rfl) rfl fun a w G S=>?_
  refine S.s (τ:=MT.ex (nv .u64 (dig (words (y)) k))) (OpR.call2 rfl c_107 (rat_ok S.ok (SN.toSL (S.g 1 rfl)) (S.g 0 rfl))) rfl fun a w G S=>?_
  refine S.s (OpR.nsub S.ok rfl (S.e 3 rfl) (S.e 0 rfl) (by omega) (wr_u64 (by omega)) MT.self) rfl fun a w G S=>?_
  refine S.m rfl (S.g 12 rfl) rfl fun a w G S=>?_
  refine S.s (OpR.nsub S.ok rfl (S.e 1 rfl) (S.e 0 rfl) (by omega) (wr_u64 (by omega)) MT.self) rfl fun a w G S=>?_
  refine S.q rfl (S.g 0 rfl) rfl fun a w G S=>?_
  refine wn hK ?_;clear hK K
  replace S:=S.d11.d10.d9.d8.d7.d6.d5.d4.d3.d2.d1
  refine wp_region_lit ?_
  refine S.m rfl (S.g 5 rfl) rfl fun a w G S=>?_
  refine S.m rfl (S.g 1 rfl) rfl fun a w G S=>?_
  refine S.s (OpR.nconv32 S.ok rfl (S.e 0 rfl) it_105 it_94 MT.self) rfl fun a w G S=>?_
  refine S.s (τ:=SL ([(((4294967296 + (dig (words (x)) k)) - (dig (words (y)) k)) - c) % 4294967296])) (OpR.build32 S.ok rfl Tryz.underlying23 el_94 (by omega) rfl (by simp [wfl] <;> omega) (fill1 (S.e 0 rfl))) rfl fun a w G S=>?_
  refine S.app1 (Bh:=[]) (own:=own) (l:=l) (z:=(4294967296 + dig (words x) k - dig (words y) k - c) % 4294967296) rfl rfl rfl Tryz.underlying23 el_94 (S.e 3 rfl) hr (S.g 0 rfl) (by simp only [LIM];omega) rfl rfl fun v1 own1 a w G hr1 S=>?_
  replace S : St W0 G0 35 [(28,MT.ex (v1)),(27,SL ([(((4294967296 + (dig (words (x)) k)) - (dig (words (y)) k)) - c) % 4294967296])),(26,MT.ex (nv .u32 ((((4294967296 + (dig (words (x)) k)) - (dig (words (y)) k)) - c) % 4294967296))),(25,MT.ex (nv .u64 (((4294967296 + (dig (words (x)) k)) - (dig (words (y)) k)) - c))),(24,MT.ex (v)),(8,MT.ex (nv .u64 (((4294967296 + (dig (words (x)) k)) - (dig (words (y)) k)) - c))),(12,BT (decide (k < ((words (x)).length)))),(11,NT k),(10,NT ((words (x)).length)),(6,MT.ex (nv .u64 (c))),(5,MT.ex (v)),(4,MT.ex (Value.slice none 0 0)),(1,SN nb y),(0,SN na x)] (own1) a _ _:=S
  refine S.m rfl (S.g 5 rfl) rfl fun a w G S=>?_
  refine S.s (OpR.nshr S.ok rfl (S.e 0 rfl) (rfl : _ = nv .u64 32) (by decide) MT.self) rfl fun a w G S=>?_
  refine S.s (OpR.nsub S.ok rfl (rfl : _ = nv .u64 1) (S.e 0 rfl) (by omega) (wr_u64 (by omega)) MT.self) rfl fun a w G S=>?_
  replace S:=S.d13
  refine S.q rfl (S.g 3 rfl) rfl fun a w G S=>?_
  replace S:=S.d13
  refine S.q rfl (S.g 1 rfl) rfl fun a w G S=>?_
  refine wpList_nil ?_
  replace S:=S.d10.d9.d8.d7.d6.d5.d4.d3.d2
  refine hK _ _ ?_;clear hK K
  refine wp_region_lit ?_
  refine S.s (OpR.nadd S.ok rfl (S.e 3 rfl) (rfl : _ = nv .i64 1) (wr_i64 (by omega)) MT.self) rfl fun a w G S=>?_
  replace S:=S.d4
  refine S.m rfl (S.g 0 rfl) rfl fun a w G S=>?_
  refine wpList_nil ?_
  replace S:=S.d1
  replace S:=S.also (t:=6) (τ:=MT.ex (nv .u64 ((1 - ((((4294967296 + (dig (words (x)) k)) - (dig (words (y)) k)) - c) / 2 ^ 32))))) ((S.e 1 rfl).trans (nv_eq (by first | rfl | omega | (simp only [Nat.zero_add,Nat.add_zero];done) | (simp;done) | (push_cast;omega))))
  exact ⟨(words x).length - (k + 1),(by omega),k + 1,1 - ((((4294967296 + (dig (words (x)) k)) - (dig (words (y)) k)) - c) / 2 ^ 32),(l ++ [(4294967296 + dig (words x) k - dig (words y) k - c) % 4294967296]),v1,own1,_,rfl,(by omega),(by omega),(by simp [hl]),(wfl_app hw (Nat.mod_lt _ (by decide))),hr1,(rsub_step hl hda hdb hc hv),S.keep [1,5,0,3,6,7,8]⟩
 ·
  have hp3:=of_decide_eq_false hc1
  refine wp_exit (then_exit (then_exit (exit_same ?_)))
  clear hK K
  refine hK _ _ ?_;clear hK K
  refine wp_reg fun K hK=>?_
  obtain ⟨Gz,hsl,hle,S⟩:=S.freezeRow (Bh:=[]) hr (by simp only [LIM];omega) hw
  replace S:=S.also (t:=5) (τ:=SL l) ((S.e 4 rfl).symm ▸ hsl)
  replace S : St W0 G0 35 [(5,SL l),(12,BT (decide (k < ((words (x)).length)))),(11,NT k),(10,NT ((words (x)).length)),(6,MT.ex (nv .u64 (c))),(5,MT.ex (v)),(4,MT.ex (Value.slice none 0 0)),(1,SN nb y),(0,SN na x)] [] a _ _:=S
  refine S.m rfl (S.g 0 rfl) rfl fun a w G S=>?_
  refine S.s (τ:=SN na (x - y)) (OpR.call1 rfl c_86 (rtrim_ok S.ok (SL.asSV (S.g 0 rfl) ⟨rsub_fin hle0 hl hw ‹_› hk hv hc,by omega⟩))) rfl fun a w G S=>?_
  replace S:=S.d8
  refine S.q rfl (S.g 0 rfl) rfl fun a w G S=>?_
  refine wn hK ?_;clear hK K
  replace S:=S.d8.d2.d1
  exact wp_ret (S.retTmp rfl (S.g 0 rfl))
end Go.Proofs.YtjphllpnhjemjaaGreat
namespace Go.Proofs.YtjphllpnhjemjaaGreat
set_option maxHeartbeats 1000000
set_option maxRecDepth 100000
open Go.RowKit (Below)
private theorem mixedOrders : Tryz.prog.follows .mixedOrders = true:=by kernel_rfl
private theorem tS_94 : tyS Tryz.prog 94 (none) = true:=by kernel_rfl
theorem rtimes_ok {na nb x y : Nat} {v1 v2 : Value} {W0 : World} {G0 : Gh} (hok : Gok W0 G0) (h1 : (SN na x).t v1 G0) (h2 : (SN nb y).t v2 G0) (hn : na + nb ≤ BIG) : Calls Tryz.prog 94 #[v1,v2] W0 (Ret W0 G0 (SN (na + nb) (x * y))):=by
 have hla:=words_length_bits (SN.lt h1)
 have hlb:=words_length_bits (SN.lt h2)
 simp only [BIG] at hn
 have hx:=SN.lt h1
 have hy:=SN.lt h2
 refine St.enter (N:=68) (L:=[(1,SN nb y),(0,SN na x)]) (args:=[v1,v2]) Tryz.func94 rfl rfl rfl hok (enter2 h1 h2) fun a S=>?_
 refine wp_reg fun K hK=>?_
 refine S.s (τ:=MT.ex (Value.slice none 0 0)) (OpR.asn S.ok rfl rfl) rfl fun a w G S=>?_
 refine wn hK ?_;clear hK K
 refine wp_reg fun K hK=>?_
 refine S.m rfl (S.g 2 rfl) rfl fun a w G S=>?_
 refine S.s (OpR.lenL S.ok rfl Tryz.underlying23 (SN.toSL (S.g 0 rfl)) MT.self) rfl fun a w G S=>?_
 refine S.m rfl (S.g 3 rfl) rfl fun a w G S=>?_
 refine S.s (OpR.lenL S.ok rfl Tryz.underlying23 (SN.toSL (S.g 0 rfl)) MT.self) rfl fun a w G S=>?_
 refine S.s (OpR.nadd S.ok rfl (S.e 2 rfl) (S.e 0 rfl) (wr_i64 (by omega)) MT.self) rfl fun a w G S=>?_
 refine S.mkSlice (n:=((words (x)).length) + ((words (y)).length)) rfl rfl rfl Tryz.underlying23 el_94 (S.e 0 rfl) (S.e 0 rfl) rfl rfl (by omega) (by omega) rfl rfl fun b15 a w G S=>?_
 refine S.q rfl (S.g 0 rfl) rfl fun a w G S=>?_
 refine wn hK ?_;clear hK K
 replace S:=S.d6.d5.d4.d3.d2.d1
 refine wp_seq_k fun K hK=>?_
 refine wp_reg fun K hK=>?_
 refine S.m rfl (S.g 3 rfl) rfl fun a w G S=>?_
 refine S.s (OpR.lenL S.ok rfl Tryz.underlying23 (SN.toSL (S.g 0 rfl)) MT.self) rfl fun a w G S=>?_
 refine S.s (τ:=NT 0) (OpR.mv S.ok rfl (rfl : _ = nv .i64 0)) rfl fun a w G S=>?_
 refine wn hK ?_;clear hK K
 replace S:=S.d2
 refine wp_block ?_
 replace S:=S.castBox (τ':=MT.ex (Value.agg (ucells ((List.replicate (((words (x)).length) + ((words (y)).length)) 0))).toArray)) 0 rfl fun _ h _=>Eq.trans h (congrArg (fun l=>Value.agg (ucells l).toArray) (by simp))
 replace S:=S.n0
 refine wp_loopJ (fun μ a w=>∃ (i : Nat) (o : List Nat) (G : Gh),μ = (words x).length - i ∧ (i ≤ (words x).length) ∧ (o.length = (words x).length + (words y).length) ∧ (wfl o) ∧ (val o = val ((words x).take i) * val (words y)) ∧ (∀ j,i + (words y).length ≤ j → dig o j = 0) ∧  St W0 G0 68 [(18,NT i),(17,NT ((words (x)).length)),(5,MT.ex (Value.slice (some ⟨b15,0,none⟩) (((words (x)).length) + ((words (y)).length)) (((words (x)).length) + ((words (y)).length)))),(4,MT.ex (Value.slice none 0 0)),(1,SN nb y),(0,SN na x)] [⟨b15,94,some (((words (x)).length) + ((words (y)).length)),MT.ex (Value.agg (ucells (o)).toArray)⟩] a w G) ((words x).length - 0) ⟨0,List.replicate (((words (x)).length) + ((words (y)).length)) 0,_,rfl,(by omega),(by simp),(wfl_replicate _),(by simp [val,val_replicate_zero]),(fun j _=>dig_replicate),(S.keep [0,1,2,3,4,5]).keepB [0] (by decide)⟩ ?_
 clear S
 intro μ a w ⟨i,o,G,hm,hi,ho,hw,hv,hz,S⟩
 have hdx:=dig_lt (wfl_words x) i
 refine wp_reg fun K hK=>?_
 refine S.s (OpR.nlss S.ok rfl (S.e 0 rfl) (S.e 1 rfl) MT.self) rfl fun a w G S=>?_
 refine wn hK ?_;clear hK K
 refine wp_seq_k fun K hK=>?_
 refine S.cond 0 rfl (fun hc1=>?_) (fun hc1=>?_)
 ·
  have hp2:=of_decide_eq_true hc1
  refine wp_skip ?_
  refine hK _ _ ?_;clear hK K
  refine wp_seq_k fun K hK=>?_
  refine wp_block ?_
  refine wp_reg fun K hK=>?_
  refine S.m rfl (S.g 1 rfl) rfl fun a w G S=>?_
  refine S.q rfl (S.g 0 rfl) rfl fun a w G S=>?_
  refine wn hK ?_;clear hK K
  replace S:=S.d1
  refine wp_reg fun K hK=>?_
  refine S.s (τ:=MT.ex (nv .u64 (0))) (OpR.asn S.ok rfl (rfl : _ = nv .u64 0)) rfl fun a w G S=>?_
  refine wn hK ?_;clear hK K
  refine wp_seq_k fun K hK=>?_
  refine wp_reg fun K hK=>?_
  refine S.m rfl (S.g 7 rfl) rfl fun a w G S=>?_
  refine S.s (OpR.lenL S.ok rfl Tryz.underlying23 (SN.toSL (S.g 0 rfl)) MT.self) rfl fun a w G S=>?_
  refine S.s (τ:=NT 0) (OpR.mv S.ok rfl (rfl : _ = nv .i64 0)) rfl fun a w G S=>?_
  refine wn hK ?_;clear hK K
  replace S:=S.d2
  refine wp_block ?_
  refine wp_loopJ (fun μ a w=>∃ (k : Nat) (c : Nat) (q : List Nat) (G : Gh),μ = (words y).length - k ∧ (k ≤ (words y).length) ∧ (c < 4294967296) ∧ (q.length = (words x).length + (words y).length) ∧ (wfl q) ∧ (val q + 4294967296 ^ (i + k) * c = val ((words x).take i) * val (words y) + 4294967296 ^ i * dig (words x) i * val ((words y).take k)) ∧ (∀ j,i + (words y).length ≤ j → dig q j = 0) ∧  St W0 G0 68 [(23,NT k),(22,NT ((words (y)).length)),(7,MT.ex (nv .u64 (c))),(6,NT i),(19,BT (decide (i < ((words (x)).length)))),(18,NT i),(17,NT ((words (x)).length)),(5,MT.ex (Value.slice (some ⟨b15,0,none⟩) (((words (x)).length) + ((words (y)).length)) (((words (x)).length) + ((words (y)).length)))),(4,MT.ex (Value.slice none 0 0)),(1,SN nb y),(0,SN na x)] [⟨b15,94,some (((words (x)).length) + ((words (y)).length)),MT.ex (Value.agg (ucells (q)).toArray)⟩] a w G) ((words y).length - 0) ⟨0,0,o,_,rfl,(by omega),(by omega),ho,hw,(by rw [hv];simp [val]),hz,(S.keep [0,1,2,3,4,5,6,7,8,9,10]).keepB [0] (by decide)⟩ ?_
  clear S
  intro μ a w ⟨k,c,q,G,hm,hk,hc,hq,hwq,hvq,hzq,S⟩
  have hdy:=dig_lt (wfl_words y) k
  have hdq:=dig_lt hwq (i + k)
  have hmb:=mul_bound hdx hdy hc hdq
  have hmb2:=mul_bound' hdx hdy hdq
  refine wp_reg fun K hK=>?_
  refine S.s (OpR.nlss S.ok rfl (S.e 0 rfl) (S.e 1 rfl) MT.self) rfl fun a w G S=>?_
  refine wn hK ?_;clear hK K
  refine wp_seq_k fun K hK=>?_
  refine S.cond 0 rfl (fun hc3=>?_) (fun hc3=>?_)
  ·
   have hp4:=of_decide_eq_true hc3
   refine wp_skip ?_
   refine hK _ _ ?_;clear hK K
   refine wp_seq_k fun K hK=>?_
   refine wp_block ?_
   refine wp_reg fun K hK=>?_
   refine S.m rfl (S.g 1 rfl) rfl fun a w G S=>?_
   refine S.q rfl (S.g 0 rfl) rfl fun a w G S=>?_
   refine wn hK ?_;clear hK K
   replace S:=S.d1
   refine wp_seq_k fun K hK=>?_
   refine S.drawn [⟨26,.g (SN na x),[]⟩,⟨27,.g (NT i),[]⟩,⟨28,.g (PE (none) (MT.ex (nv .u32 (dig (words (x)) (i))))),[0,1]⟩,⟨29,.g (MT.ex (nv .u32 (dig (words (x)) (i)))),[2]⟩,⟨30,.g (MT.ex (nv .u64 (dig (words (x)) (i)))),[3]⟩,⟨31,.g (SN nb y),[]⟩,⟨32,.g (NT k),[]⟩,⟨33,.g (PE (none) (MT.ex (nv .u32 (dig (words (y)) (k))))),[5,6]⟩,⟨34,.g (MT.ex (nv .u32 (dig (words (y)) (k)))),[7]⟩,⟨35,.g (MT.ex (nv .u64 (dig (words (y)) (k)))),[8]⟩,⟨36,.g (MT.ex (nv .u64 ((dig (words (x)) (i)) * (dig (words (y)) (k))))),[4,9]⟩,⟨37,.g (MT.ex (Value.slice (some ⟨b15,0,none⟩) (((words (x)).length) + ((words (y)).length)) (((words (x)).length) + ((words (y)).length)))),[]⟩,⟨38,.g (NT i),[]⟩,⟨39,.g (NT k),[]⟩,⟨40,.g (NT (i + k)),[12,13]⟩,⟨41,.g (MT.ex (Value.pointer (some ⟨b15,i + k,none⟩))),[11,14]⟩,⟨42,.g (MT.ex (nv .u32 (dig (q) (i + k)))),[15]⟩,⟨43,.g (MT.ex (nv .u64 (dig (q) (i + k)))),[16]⟩,⟨44,.g (MT.ex (nv .u64 (((dig (words (x)) (i)) * (dig (words (y)) (k))) + (dig (q) (i + k))))),[10,17]⟩,⟨45,.g (MT.ex (nv .u64 (c))),[]⟩,⟨46,.g (MT.ex (nv .u64 (c + (dig (words x) i * dig (words y) k + dig q (i + k))))),[18,19]⟩,⟨9,.g (MT.ex (nv .u64 (c + (dig (words x) i * dig (words y) k + dig q (i + k))))),[20]⟩] mixedOrders (by kernel_rfl)
    ⟨fun a w G S=>.of rfl (OpR.mv S.ok rfl (S.g 12 rfl)),
     fun a w G S=>.of rfl (OpR.mv S.ok rfl (S.g 5 rfl)),
     fun a w G S=>.of rfl (OpR.ixL (i:=i) S.ok rfl Tryz.underlying23 tS_94 (SN.toSL (S.g 0 rfl)) (S.e 1 rfl) rfl (dig_get (by first | omega | (simp;omega)))),
     fun a w G S=>.of rfl (OpR.ldE S.ok rfl tS_94 (S.g 0 rfl)),
     fun a w G S=>.of rfl (OpR.nconv S.ok rfl (S.e 0 rfl) it_94 it_105 (wr_u64 (by omega)) MT.self),
     fun a w G S=>.of rfl (OpR.mv S.ok rfl (S.g 11 rfl)),
     fun a w G S=>.of rfl (OpR.mv S.ok rfl (S.g 0 rfl)),
     fun a w G S=>.of rfl (OpR.ixL (i:=k) S.ok rfl Tryz.underlying23 tS_94 (SN.toSL (S.g 0 rfl)) (S.e 1 rfl) rfl (dig_get (by first | omega | (simp;omega)))),
     fun a w G S=>.of rfl (OpR.ldE S.ok rfl tS_94 (S.g 0 rfl)),
     fun a w G S=>.of rfl (OpR.nconv S.ok rfl (S.e 0 rfl) it_94 it_105 (wr_u64 (by omega)) MT.self),
     fun a w G S=>.of rfl (OpR.nmul S.ok rfl (S.e 0 rfl) (S.e 1 rfl) (wr_u64 (by omega)) MT.self),
     fun a w G S=>.of rfl (OpR.mv S.ok rfl (S.g 9 rfl)),
     fun a w G S=>.of rfl (OpR.mv S.ok rfl (S.g 5 rfl)),
     fun a w G S=>.of rfl (OpR.mv S.ok rfl (S.g 0 rfl)),
     fun a w G S=>.of rfl (OpR.nadd S.ok rfl (S.e 0 rfl) (S.e 1 rfl) (wr_i64 (by omega)) MT.self),
     fun a w G S=>.of rfl (OpR.ixA (i:=i + k) S.ok rfl Tryz.underlying23 tS_94 (S.e 0 rfl) (S.e 1 rfl) rfl (by first | omega | (simp;omega)) (ptr_eq (by simp only [Option.getD_none] <;> omega))),
     fun a w G S=>.of rfl (OpR.ldElem S.ok rfl (S.e 0 rfl) (S.box 0 rfl) tS_94 (dig_get (by first | omega | (simp;omega)))),
     fun a w G S=>.of rfl (OpR.nconv S.ok rfl (S.e 0 rfl) it_94 it_105 (wr_u64 (by omega)) MT.self),
     fun a w G S=>.of rfl (OpR.nadd S.ok rfl (S.e 0 rfl) (S.e 1 rfl) (wr_u64 (by omega)) MT.self),
     fun a w G S=>.of rfl (OpR.mv S.ok rfl (S.g 4 rfl)),
     fun a w G S=>.of rfl (OpR.nadd S.ok rfl (S.e 0 rfl) (S.e 1 rfl) (wr_u64 (by omega)) (nv_eq (by omega))),
     fun a w G S=>.of rfl (OpR.asn S.ok rfl (S.g 0 rfl)),trivial⟩ fun β a w G S=>?_
   replace S : St W0 G0 68 [(9,MT.ex (nv .u64 (c + (dig (words x) i * dig (words y) k + dig q (i + k))))),(8,NT k),(24,BT (decide (k < ((words (y)).length)))),(23,NT k),(22,NT ((words (y)).length)),(7,MT.ex (nv .u64 (c))),(6,NT i),(19,BT (decide (i < ((words (x)).length)))),(18,NT i),(17,NT ((words (x)).length)),(5,MT.ex (Value.slice (some ⟨b15,0,none⟩) (((words (x)).length) + ((words (y)).length)) (((words (x)).length) + ((words (y)).length)))),(4,MT.ex (Value.slice none 0 0)),(1,SN nb y),(0,SN na x)] [⟨b15,94,some (((words (x)).length) + ((words (y)).length)),MT.ex (Value.agg (ucells (q)).toArray)⟩] a _ _:=S.keep [0,22,23,24,25,26,27,28,29,30,31,32,33,34]
   refine wn hK ?_;clear hK K
   refine wp_region_lit ?_
   refine S.m rfl (S.g 10 rfl) rfl fun a w G S=>?_
   refine S.m rfl (S.g 7 rfl) rfl fun a w G S=>?_
   refine S.m rfl (S.g 3 rfl) rfl fun a w G S=>?_
   refine S.s (OpR.nadd S.ok rfl (S.e 1 rfl) (S.e 0 rfl) (wr_i64 (by omega)) MT.self) rfl fun a w G S=>?_
   refine S.m rfl (S.g 4 rfl) rfl fun a w G S=>?_
   refine S.s (OpR.nconv32 S.ok rfl (S.e 0 rfl) it_105 it_94 MT.self) rfl fun a w G S=>?_
   refine S.m rfl (S.g 6 rfl) rfl fun a w G S=>?_
   refine S.s (OpR.nshr S.ok rfl (S.e 0 rfl) (rfl : _ = nv .u64 32) (by decide) MT.self) rfl fun a w G S=>?_
   refine S.s (τ:=MT.ex (Value.pointer (some ⟨b15,i + k,none⟩))) (OpR.ixA (i:=i + k) S.ok rfl Tryz.underlying23 tS_94 (S.e 7 rfl) (S.e 4 rfl) rfl (by first | omega | (simp;omega)) (ptr_eq (by simp only [Option.getD_none] <;> omega))) rfl fun a w G S=>?_
   refine S.setElem 0 (z:=(c + (dig (words x) i * dig (words y) k + dig q (i + k))) % 4294967296) rfl rfl rfl rfl (S.e 0 rfl) tS_94 (S.e 3 rfl) rfl (by first | omega | (simp;omega)) fun w S=>?_
   replace S:=S.n0
   replace S:=S.d14
   refine S.q rfl (S.g 1 rfl) rfl fun a w G S=>?_
   refine wpList_nil ?_
   replace S:=S.d10.d9.d8.d7.d6.d5.d4.d3.d2.d1
   refine hK _ _ ?_;clear hK K
   refine wp_region_lit ?_
   refine S.s (OpR.nadd S.ok rfl (S.e 3 rfl) (rfl : _ = nv .i64 1) (wr_i64 (by omega)) MT.self) rfl fun a w G S=>?_
   replace S:=S.d4
   refine S.m rfl (S.g 0 rfl) rfl fun a w G S=>?_
   refine wpList_nil ?_
   replace S:=S.d1
   replace S:=S.also (t:=7) (τ:=MT.ex (nv .u64 (((c + (dig (words x) i * dig (words y) k + dig q (i + k))) / 2 ^ 32)))) ((S.e 1 rfl).trans (nv_eq (by first | rfl | omega | (simp only [Nat.zero_add,Nat.add_zero];done) | (simp;done) | (push_cast;omega))))
   replace S:=S.castBox (τ':=MT.ex (Value.agg (ucells ((q.set (i + k) ((c + (dig (words x) i * dig (words y) k + dig q (i + k))) % 4294967296)))).toArray)) 0 rfl fun _ h _=>Eq.trans h (congrArg (fun l=>Value.agg (ucells l).toArray) (by simp))
   replace S:=S.n0
   exact ⟨(words y).length - (k + 1),(by omega),k + 1,(c + (dig (words x) i * dig (words y) k + dig q (i + k))) / 2 ^ 32,q.set (i + k) ((c + (dig (words x) i * dig (words y) k + dig q (i + k))) % 4294967296),_,rfl,(by omega),(by omega),(by simpa using hq),(hwq.set (by omega)),(mul_step (by omega) hvq),(fun j hj=>by rw [dig_set (by omega),if_neg (by omega)];exact hzq j hj),(S.keep [1,5,0,6,7,8,9,10,11,12,13]).keepB [0] (by decide)⟩
  ·
   have hp5:=of_decide_eq_false hc3
   refine wp_exit (then_exit (then_exit (exit_same ?_)))
   clear hK K
   refine hK _ _ ?_;clear hK K
   refine wp_region_lit ?_
   refine S.m rfl (S.g 8 rfl) rfl fun a w G S=>?_
   refine S.m rfl (S.g 5 rfl) rfl fun a w G S=>?_
   refine S.m rfl (S.g 12 rfl) rfl fun a w G S=>?_
   refine S.s (OpR.lenL S.ok rfl Tryz.underlying23 (SN.toSL (S.g 0 rfl)) MT.self) rfl fun a w G S=>?_
   refine S.s (OpR.nadd S.ok rfl (S.e 2 rfl) (S.e 0 rfl) (wr_i64 (by omega)) MT.self) rfl fun a w G S=>?_
   refine S.m rfl (S.g 8 rfl) rfl fun a w G S=>?_
   refine S.s (OpR.nconv32 S.ok rfl (S.e 0 rfl) it_105 it_94 MT.self) rfl fun a w G S=>?_
   refine S.s (τ:=MT.ex (Value.pointer (some ⟨b15,i + ((words (y)).length),none⟩))) (OpR.ixA (i:=i + ((words (y)).length)) S.ok rfl Tryz.underlying23 tS_94 (S.e 6 rfl) (S.e 2 rfl) rfl (by first | omega | (simp;omega)) (ptr_eq (by simp only [Option.getD_none] <;> omega))) rfl fun a w G S=>?_
   refine S.setElem 0 (z:=c % 4294967296) rfl rfl rfl rfl (S.e 0 rfl) tS_94 (S.e 1 rfl) rfl (by first | omega | (simp;omega)) fun w S=>?_
   replace S:=S.n0
   refine wpList_nil ?_
   replace S:=S.d7.d6.d5.d4.d3.d2.d1.d0
   refine hK _ _ ?_;clear hK K
   refine wp_region_lit ?_
   refine S.s (OpR.nadd S.ok rfl (S.e 6 rfl) (rfl : _ = nv .i64 1) (wr_i64 (by omega)) MT.self) rfl fun a w G S=>?_
   replace S:=S.d7
   refine S.m rfl (S.g 0 rfl) rfl fun a w G S=>?_
   refine wpList_nil ?_
   replace S:=S.d1
   replace S:=S.castBox (τ':=MT.ex (Value.agg (ucells ((q.set (i + ((words (y)).length)) (c % 4294967296)))).toArray)) 0 rfl fun _ h _=>Eq.trans h (congrArg (fun l=>Value.agg (ucells l).toArray) (by simp))
   replace S:=S.n0
   exact ⟨(words x).length - (i + 1),(by omega),i + 1,q.set (i + ((words (y)).length)) (c % 4294967296),_,rfl,(by omega),(by simpa using hq),(hwq.set (by omega)),(mul_row' ‹_› hk hc (by omega) (hzq _ (by omega)) hvq),(fun j hj=>by rw [dig_set (by omega),if_neg (by omega)];exact hzq j (by omega)),(S.keep [0,7,8,9,10,11]).keepB [0] (by decide)⟩
 ·
  have hp6:=of_decide_eq_false hc1
  refine wp_exit (then_exit (then_exit (exit_same ?_)))
  clear hK K
  refine hK _ _ ?_;clear hK K
  refine wp_reg fun K hK=>?_
  obtain ⟨vz7,Gz7,hz7,hs7,hg7,hle7,S⟩:=S.freeze 0 rfl
  have hsl7 : (SL (o)).t (Value.slice (some ⟨b15,0,none⟩) (((words (x)).length) + ((words (y)).length)) (((words (x)).length) + ((words (y)).length))) Gz7:=SL_frozen hz7 hg7 ⟨ho.symm,Nat.le_refl _⟩ (by simp only [LIM];omega) (by assumption)
  replace S:=S.also (t:=5) (τ:=SL (o)) ((S.e 3 rfl).symm ▸ hsl7)
  replace S : St W0 G0 68 [(5,SL o),(19,BT (decide (i < ((words (x)).length)))),(18,NT i),(17,NT ((words (x)).length)),(4,MT.ex (Value.slice none 0 0)),(1,SN nb y),(0,SN na x)] [] a _ _:=S.keep [0,1,2,3,5,6,7]
  refine S.m rfl (S.g 0 rfl) rfl fun a w G S=>?_
  refine S.s (τ:=SN (na + nb) (x * y)) (OpR.call1 rfl c_86 (rtrim_ok S.ok (SL.asSV (S.g 0 rfl) ⟨times_fin ‹_› hi hv,mul_lt_pow hx hy⟩))) rfl fun a w G S=>?_
  replace S:=S.d6
  refine S.q rfl (S.g 0 rfl) rfl fun a w G S=>?_
  refine wn hK ?_;clear hK K
  replace S:=S.d2.d1
  exact wp_ret (S.retTmp rfl (S.g 0 rfl))
end Go.Proofs.YtjphllpnhjemjaaGreat
namespace Go.Proofs.YtjphllpnhjemjaaGreat
open Go.RowKit (Below)
section
variable {P : Program} {o : Oper} {a : Act} {w : World} {G : Gh} {τ : MT} {W0 : World} {G0 : Gh} {N : Nat} {L : List (Nat × MT)} {B : List BX}
theorem OpR.cutX0 {x z : Operand} {t e b c n hi : Nat} {k' : IntKind} {m' : Int} (hok : Gok w G) (ho : o.op = .slice t x none (some z) none) (ht : P.underlying t = some (.slice e)) (hs : tyS P e none = true)
    (hx : a.eval x = .slice (some ⟨b,0,none⟩) n c) (hz : a.eval z = .int k' m') (hm' : m' = (hi : Int)) (h2 : hi ≤ c) (h : τ.t (.slice (some ⟨b,0,none⟩) hi c) G) : OpR P o a w G τ:=by
  subst hm'
  refine .run hok (v:=.slice (some ⟨b,0,none⟩) hi c) ?_ h
  simp [execOp,ho,hx,hz,Instr.sliceAt,run_underlying ht,Instr.slice,Instr.sliceBounds,Instr.sliceBound,asIntOf,h2,tyS_size hs,addr_add]
theorem St.stepM1 {ops : Array Oper} {rest : List Oper} {Q : Exit → Act → World → Prop} (S : St W0 G0 N L B a w G) (i : Nat) {d f bu n : Nat} {ty : TypeId} {x : Operand} {ats : Array TypeId} {p : Value → List Nat → Prop} (ho : o.op = .call { callee := .value (.func f), args := #[x], argTypes := ats }) (hd : o.dst = some d) (hg : o.guard = none)
    (hc : callable P f = true) (h : Calls P f #[a.eval x] w (RetM W0 G0 G B i bu ty n p)) (hdN : (decide (d < N)) = true) (hf : fresh d L = true)
    (K : ∀ v l a' w' G',p v l → l.length = n → St W0 G0 N ((d,.ex v) :: L) (B.set i ⟨bu,ty,some n,.ex (.agg (ucells l).toArray)⟩) a' w' G' → wpList P ops Q rest a' w') : wpList P ops Q (o :: rest) a w:=S.stepM i ho hd hg hc (by simpa using h) hdN hf K
end
theorem dig_take {q : List Nat} {n i : Nat} (h : i < n) : dig (q.take n) i = dig q i:=by
  unfold dig
  rw [List.getD_eq_getElem?_getD,List.getD_eq_getElem?_getD,List.getElem?_take,if_pos h]
theorem cut_step {us : List Nat} {n k : Nat} (h0 : 0 < k) (hd : dig us (k - 1) = 0) (hv : val (us.take k) = val (us.take n)) : val (us.take (k - 1)) = val (us.take n):=by
  have:=val_take_dig us (k - 1)
  rw [show k - 1 + 1 = k from by omega,hd] at this
  omega
theorem cut_zero {us : List Nat} {n k : Nat} (h0 : ¬ 0 < k) (hv : val (us.take k) = val (us.take n)) : us.take k = words (val (us.take n)):=by
  have : k = 0:=by omega
  subst this
  rw [← hv];simp [val,words_zero]
theorem cut_top {us : List Nat} {n k : Nat} (h0 : 0 < k) (hk : k ≤ us.length) (hd : ¬ dig us (k - 1) = 0) (hv : val (us.take k) = val (us.take n)) (hw : wfl us) : us.take k = words (val (us.take n)):=by
  rw [← hv]
  refine (words_val (hw.take k) ?_).symm
  unfold canl
  rw [List.getLast?_eq_getElem?,List.length_take,Nat.min_eq_left hk,List.getElem?_take,if_pos (by omega)]
  unfold dig at hd
  rw [List.getD_eq_getElem?_getD] at hd
  have hlt : k - 1 < us.length:=by omega
  rw [List.getElem?_eq_getElem hlt] at hd ⊢
  simpa using hd
end Go.Proofs.YtjphllpnhjemjaaGreat
namespace Go.Proofs.YtjphllpnhjemjaaGreat
open Go.RowKit (Below)
def RetO (w : World) (G : Gh) (ty : TypeId) (p : Nat → Nat → List Nat → Prop) : Ending → World → Prop:=fun e w' =>
  ∃ b n c q G',e = .returned (.slice (some ⟨b,0,none⟩) n c) ∧ w.heap.size ≤ b ∧ Nxt w G w' G' ∧ G' b = none ∧ w'.heap[b]? = some (.cells (ucells q).toArray ty (0,0)) ∧ q.length = c ∧ p n c q
section
variable {P : Program} {W0 : World} {G0 : Gh} {N : Nat} {L : List (Nat × MT)} {B Br : List BX} {a : Act} {w : World} {G : Gh} {fn : Func} {o : Oper}
variable {ops : Array Oper} {rest : List Oper} {Q : Exit → Act → World → Prop}
theorem St.stepO (S : St W0 G0 N L B a w G) {d f : Nat} {ty : TypeId} {x : Operand} {ats : Array TypeId} {p : Nat → Nat → List Nat → Prop} (ho : o.op = .call { callee := .value (.func f), args := #[x], argTypes := ats }) (hd : o.dst = some d) (hg : o.guard = none)
    (hc : callable P f = true) (h : Calls P f #[a.eval x] w (RetO w G ty p)) (hdN : (decide (d < N)) = true) (hf : fresh d L = true)
    (K : ∀ b n c q a' w' G',q.length = c → p n c q → St W0 G0 N ((d,.ex (.slice (some ⟨b,0,none⟩) n c)) :: L) (⟨b,ty,some c,.ex (.agg (ucells q).toArray)⟩ :: B) a' w' G' → wpList P ops Q rest a' w') : wpList P ops Q (o :: rest) a w :=
  wpList_plain hg fun K' hK=>by
    have hr : (execOp a.eval o).run P w = .ok (.enter f (#[x].map a.eval)) w:=by
      simp [execOp,ho,resolve,Act.eval,Deferred.ofValue,invoke,run_callFunc hc]
    unfold Oper.wp
    rw [hr]
    have h : Calls P f (#[x].map a.eval) w (RetO w G ty p):=by simpa using h
    refine Calls.mono h fun e w' he=>?_
    obtain ⟨b,n,c,q,G',rfl,hb,hn,hG,hw,hq,hp⟩:=he
    show K' (a.put o.dst _) w'
    rw [hd]
    have hs : Shaped (some c) (.agg (ucells q).toArray):=ucells_shaped hq
    have S1 : St W0 G0 N L (⟨b,ty,some c,.ex (.agg (ucells q).toArray)⟩ :: B) a w' G':={
      nxt:=S.nxt.trans hn
      size:=S.size
      dfr:=S.dfr
      ty:=fun i p h=>p.2.mono hn.le (S.ty i p h)
      bx:=fun i y h=>by
        cases i with
        | zero=>cases h;exact ⟨Nat.le_trans S.nxt.below.size hb,hG,.agg (ucells q).toArray,hw,hs,rfl⟩
        | succ i=>exact (S.bx i y h).nxt hn
      nd:=fun i j y z hy hz hij=>by
        cases i with
        | zero =>
          cases hy
          cases j with
          | zero=>exact absurd rfl hij
          | succ j=>have:=(S.bx j z hz).lt;show b ≠ z.b;omega
        | succ i =>
          cases j with
          | zero=>cases hz;have:=(S.bx i y hy).lt;show y.b ≠ b;omega
          | succ j=>exact S.nd i j y z hy hz (by omega) }
    exact hK _ _ (K b n c q _ _ G' hq hp (S1.put (of_decide_eq_true hdN) hf rfl (Nxt.refl S1.ok)))
theorem St.retO (S : St W0 G0 N L B a w G) (i : Nat) {t b n c : Nat} {ty : TypeId} {q : List Nat} {p : Nat → Nat → List Nat → Prop} (hr : fn.results = #[.tmp t]) (ht : tm a t = .slice (some ⟨b, 0, none⟩) n c) (hi : B[i]? = some ⟨b, ty, some c, .ex (.agg (ucells q).toArray)⟩) (hl : q.length = c) (hp : p n c q) :
    bodyPost P fn (RetO W0 G0 ty p) .ret a w:=by
  obtain ⟨h1,h2,v,hv,hs,htv⟩:=S.bx i _ hi
  cases htv
  exact bodyPost_ret (v:=.slice (some ⟨b,0,none⟩) n c) (by have:=results_tmp hr a.tmps P w;rw [this];exact congrArg (fun v=>Result.ok v w) ht) S.dfr ⟨b,n,c,q,G,rfl,h1,S.nxt,h2,hv,hl,hp⟩
theorem St.build0 (S : St W0 G0 N L B a w G) {d size bytes : Nat} {t e : TypeId} {z : Value} (ho : o.op = .buildSlice t 0 #[]) (hd : o.dst = some d) (hg : o.guard = none) (ht : P.underlying t = some (.slice e)) (he : elS P e size bytes z) (hdN : (decide (d < N)) = true) (hf : fresh d L = true)
    (K : ∀ b a' w' G',St W0 G0 N ((d,.ex (.slice (some ⟨b,0,none⟩) 0 0)) :: L) (⟨b,e,some 0,.ex (.agg (ucells []).toArray)⟩ :: B) a' w' G' → wpList P ops Q rest a' w') : wpList P ops Q (o :: rest) a w :=
  wpList_plain hg fun K' hK=>by
    obtain ⟨i,hi,h1,h2,h3⟩:=elS_of he
    have hr : (execOp a.eval o).run P w = .ok (.value (.slice (some ⟨w.heap.size,0,none⟩) 0 0)) (w.alloc (.cells #[] e)):=by
      simp [execOp,ho,Instr.buildSlice,run_underlying ht,sizeOf,typeInfo,hi,Instr.fill,newRow,show Array.range 0 = #[] from rfl]
    unfold Oper.wp
    rw [hr]
    simp only [Oper.upon,hd]
    have S':=(S.newVar (v:=.agg (ucells []).toArray) (t:=e) (k:=some 0) (τ:=.ex (.agg (ucells []).toArray)) (ucells_shaped rfl) rfl).put (v:=.slice (some ⟨w.heap.size,0,none⟩) 0 0) (of_decide_eq_true hdN) hf (τ:=.ex (.slice (some ⟨w.heap.size,0,none⟩) 0 0)) rfl (Nxt.refl (S.ok.alloc _))
    exact hK _ _ (K w.heap.size _ _ G S')
theorem St.dropB {b0 : Nat} {ty0 : TypeId} {k0 : Option Nat} {τ0 : MT} (S : St W0 G0 N L (BX.mk b0 ty0 k0 τ0 :: B) a w G) : St W0 G0 N L B a w G :=
  { S with bx:=fun i x h=>S.bx (i + 1) x h,nd:=fun i j x y hx hy hij=>S.nd (i + 1) (j + 1) x y hx hy (by omega) }
theorem St.appO {b0 : Nat} {e : TypeId} (S : St W0 G0 N L (⟨b0, e, some 0, .ex (.agg (ucells []).toArray)⟩ :: B) a w G) {d : Nat} {t : TypeId} {x y : Operand} {l : List Nat} (ho : o.op = .call { callee := .builtin .append, args := #[x, y], argTypes := #[t, t] }) (hd : o.dst = some d) (hg : o.guard = none)
    (ht : P.underlying t = some (.slice e)) (he : elS P e 1 4 (u32 0)) (hx : a.eval x = .slice (some ⟨b0,0,none⟩) 0 0) (hy : (SL l).t (a.eval y) G) (hdN : (decide (d < N)) = true) (hf : fresh d L = true)
    (K : ∀ b c q a' w' G',q.length = c → l.length ≤ c → q.take l.length = l → wfl q → St W0 G0 N ((d,.ex (.slice (some ⟨b,0,none⟩) l.length c)) :: L) (⟨b,e,some c,.ex (.agg (ucells q).toArray)⟩ :: B) a' w' G' → wpList P ops Q rest a' w') : wpList P ops Q (o :: rest) a w :=
  wpList_plain hg fun K' hK=>by
    obtain ⟨i,hi,h1,h2,h3⟩:=elS_of he
    obtain ⟨A,c,hy,hlc,hlim,hwf,hcell⟩:=hy
    simp only [LIM] at hlim
    by_cases h0 : l = []
    · subst h0
      have hf0 : (Builtin.firstCells 1 0 (.slice A 0 c)).run P w = .ok #[] w:=by
        cases A with
        | none=>simp [Builtin.firstCells]
        | some ad=>simp [Builtin.firstCells,loadCells,loadCellsFrom]
      simp only [List.length_nil] at hy
      have hr : (execOp a.eval o).run P w = .ok (.value (.slice (some ⟨b0,0,none⟩) 0 0)) w:=by
        simp [execOp,ho,resolve,invoke,builtin,hx,hy,Builtin.append_,run_underlying ht,sizeOf,typeInfo,hi,h1,Builtin.lenOf,hf0,storeCells]
      unfold Oper.wp
      rw [hr]
      simp only [Oper.upon,hd]
      exact hK _ _ (K b0 0 [] _ _ G rfl (Nat.le_refl _) rfl wfl_nil (S.put (of_decide_eq_true hdN) hf rfl (Nxt.refl S.ok)))
    · have hpos : 0 < l.length:=List.length_pos_iff.2 h0
      obtain ⟨b',off,rfl,_⟩:=hcell 0 l[0] (by simp [hpos])
      have hgr:=run_append_grow (P:=P) w t o.type e i (u32 0) ht hi h3 ⟨b0,0,none⟩ 0 0 [] (by simp) (by simp) ⟨b',off,none⟩ l.length c (ucells l) (by simp [ucells,h1]) (fun j v hj=>by
        simp only [ucells,List.getElem?_map,Option.map_eq_some_iff] at hj
        obtain ⟨z,hz,rfl⟩:=hj
        obtain ⟨b2,off2,e,hc⟩:=hcell j z hz
        cases e
        rw [addr_add];exact Gc.cell S.ok hc) (by omega) (by omega) (by rw [h2,Nat.zero_add,nextslicecap_zero hpos];omega)
      simp only [Nat.zero_add] at hgr
      have hge:=grownCap_ge w l.length 0 e
      generalize grownCap w l.length 0 e = cp at *
      have hcells : (([] : List Value).toArray ++ (ucells l).toArray) ++ Builtin.zeroCells (u32 0).cells (cp - l.length) = (ucells (l ++ List.replicate (cp - l.length) 0)).toArray:=by
        have hz : Builtin.zeroCells (u32 0).cells (cp - l.length) = (List.replicate (cp - l.length) (u32 0)).toArray:=by
          apply Array.ext
          · simp [size_zeroCells,Value.cells]
          · intro j h1 h2
            simp [Builtin.zeroCells,Value.cells]
            rw [List.getElem?_eq_getElem (by simp [Nat.mod_one])]
            simp [Nat.mod_one]
        rw [hz];simp [ucells]
      rw [hcells] at hgr
      have hN:=Nxt.drew S.ok
      have S1 : St W0 G0 N L B a w.drew G:=⟨S.dropB.nxt.trans hN,S.size,S.dfr,S.ty,fun j x hx=>(S.dropB.bx j x hx).nxt hN,S.dropB.nd⟩
      have hql : (l ++ List.replicate (cp - l.length) 0).length = cp:=by simp;omega
      have S2:=(S1.newVar (v:=.agg (ucells (l ++ List.replicate (cp - l.length) 0)).toArray) (t:=e) (k:=some cp) (τ:=.ex (.agg (ucells (l ++ List.replicate (cp - l.length) 0)).toArray)) (ucells_shaped hql) rfl).put (v:=.slice (some ⟨w.drew.heap.size,0,none⟩) l.length cp) (of_decide_eq_true hdN) hf (τ:=.ex (.slice (some ⟨w.drew.heap.size,0,none⟩) l.length cp)) rfl (Nxt.refl (S1.ok.alloc _))
      have hr : (execOp a.eval o).run P w = .ok (.value (.slice (some ⟨w.heap.size,0,none⟩) l.length cp)) (w.drew.alloc (.cells (ucells (l ++ List.replicate (cp - l.length) 0)).toArray e)):=by
        simp only [execOp,ho,resolve,Sem.run_bind,Sem.run_pure,Result.andThen_ok,invoke,builtin,List.map_toArray,List.map_cons,List.map_nil,hx,hy,hgr]
      unfold Oper.wp
      rw [hr]
      simp only [Oper.upon,hd]
      exact hK _ _ (K _ cp _ _ _ G hql hge (by simp) (fun x hx=>by
        rcases List.mem_append.1 hx with h | h
        · exact hwf x h
        · rw [List.mem_replicate] at h;omega) S2)
theorem Gle_put {b : Nat} {x : Obj} (h : G b = none) : Gle G (Gput G b x):=fun c y hc=>by
  unfold Gput;split
  · rename_i e;subst e;rw [h] at hc;cases hc
  · exact hc
theorem Gok_put {b : Nat} {x : Obj} (hok : Gok w G) (h : w.heap[b]? = some x) : Gok w (Gput G b x):=fun c y hc=>by
  unfold Gput at hc;split at hc
  · rename_i e;subst e;cases hc;exact h
  · exact hok c y hc
theorem BX.ok.lent {x : BX} {b : Nat} {y : Obj} (h : x.ok W0 w G) (hG : G b = none) (hne : x.b ≠ b) : x.ok W0 w (Gput G b y):=by
  obtain ⟨h1,h2,v,h3,h4,h5⟩:=h
  exact ⟨h1,by unfold Gput;rw [if_neg hne];exact h2,v,h3,h4,x.τ.mono (Gle_put hG) h5⟩
theorem OpR.lent1 {b : Nat} {ty : TypeId} {k : Option Nat} {τ : MT} {r : Value} (hb : BX.ok ⟨b, ty, k, τ⟩ W0 w G)
    (h : ∀ v,τ.t v G → Shaped k v → G b = none → w.heap[b]? = some (.cells v.cells ty (0,0)) → OpR P o a w (Gput G b (.cells v.cells ty (0,0))) (.ex r)) : OpR P o a w G (.ex r):=by
  obtain ⟨h1,h2,v,hv,hs,hvt⟩:=hb
  simp only at h1 h2 hv hs hvt
  intro Q K hK
  refine h v hvt hs h2 hv Q K fun u w' G' hu hN=>?_
  refine hK u w' (fun c=>if c = b then none else G' c) hu ⟨hN.below,fun c hc=>?_,fun c x hc=>?_,fun c x hc=>?_⟩
  · by_cases e : c = b
    · subst e;simp [h2]
    · simp only [if_neg e];rw [hN.agree c hc];unfold Gput;rw [if_neg e]
  · have e : c ≠ b:=fun e=>by rw [e,h2] at hc;cases hc
    simp only [if_neg e]
    exact hN.le c x (Gle_put h2 c x hc)
  · by_cases e : c = b
    · subst e;simp at hc
    · simp only [if_neg e] at hc;exact hN.ok c x hc
theorem OpR.lendPP (S : St W0 G0 N L B a w G) {f b n c b' n' c' i j : Nat} {ty ty' : TypeId} {q q' : List Nat} {x y : Operand} {ats : Array TypeId} {r : Value} (ho : o.op = .call { callee := .value (.func f), args := #[x, y], argTypes := ats }) (hc : callable P f = true)
    (hi : B[i]? = some ⟨b,ty,some c,.ex (.agg (ucells q).toArray)⟩) (hj : B[j]? = some ⟨b',ty',some c',.ex (.agg (ucells q').toArray)⟩) (hij : i ≠ j) (hx : a.eval x = .slice (some ⟨b,0,none⟩) n c) (hy : a.eval y = .slice (some ⟨b',0,none⟩) n' c')
    (hn : n ≤ q.length) (hnc : n ≤ c) (hlim : n ≤ LIM) (hw : wfl q) (hn' : n' ≤ q'.length) (hnc' : n' ≤ c') (hlim' : n' ≤ LIM) (hw' : wfl q')
    (h : ∀ G1,Gok w G1 → (SL (q.take n)).t (a.eval x) G1 → (SL (q'.take n')).t (a.eval y) G1 → Calls P f #[a.eval x,a.eval y] w (Ret w G1 (.ex r))) : OpR P o a w G (.ex r):=by
  refine OpR.lent1 (S.bx i _ hi) fun v hv _ hG hw1=>?_
  have hne : b' ≠ b:=S.nd j i _ _ hj hi (Ne.symm hij)
  refine OpR.lent1 ((S.bx j _ hj).lent hG hne) fun v' hv' _ hG' hw1'=>?_
  have hok:=Gok_put S.ok hw1
  refine OpR.call2 ho hc (h _ (Gok_put hok hw1') ?_ ?_)
  · exact (SL (q.take n)).mono (Gle_put hG') (SL_prefix (u:=v) (ty:=ty) hv (by simp [Gput]) hn hnc hlim hw hx)
  · exact SL_prefix (u:=v') (ty:=ty') hv' (by simp [Gput]) hn' hnc' hlim' hw' hy
theorem St.stepML {bu n b' c' : Nat} {ty ty' : TypeId} {us q' : List Nat} (S : St W0 G0 N L (⟨bu, ty, some n, .ex (.agg (ucells us).toArray)⟩ :: ⟨b', ty', some c', .ex (.agg (ucells q').toArray)⟩ :: []) a w G) {d f n' : Nat} {x y : Operand} {ats : Array TypeId} {p : Value → List Nat → Prop} (ho : o.op = .call { callee := .value (.func f), args := #[x, y], argTypes := ats }) (hd : o.dst = some d) (hg : o.guard = none)
    (hc : callable P f = true) (hy : a.eval y = .slice (some ⟨b',0,none⟩) n' c') (hn' : n' ≤ q'.length) (hnc' : n' ≤ c') (hlim' : n' ≤ LIM) (hw' : wfl q')
    (h : ∀ G1,Gle G G1 → St W0 G0 0 [] (⟨bu,ty,some n,.ex (.agg (ucells us).toArray)⟩ :: []) ⟨#[],[]⟩ w G1 → (SL (q'.take n')).t (a.eval y) G1 → Calls P f #[a.eval x,a.eval y] w (RetM W0 G0 G1 (⟨bu,ty,some n,.ex (.agg (ucells us).toArray)⟩ :: []) 0 bu ty n p)) (hdN : (decide (d < N)) = true) (hf : fresh d L = true)
    (K : ∀ v l a' w' G',p v l → l.length = n → St W0 G0 N ((d,.ex v) :: L) (⟨bu,ty,some n,.ex (.agg (ucells l).toArray)⟩ :: ⟨b',ty',some c',.ex (.agg (ucells q').toArray)⟩ :: []) a' w' G' → wpList P ops Q rest a' w') : wpList P ops Q (o :: rest) a w :=
  wpList_plain hg fun K' hK=>by
    have hr : (execOp a.eval o).run P w = .ok (.enter f (#[x,y].map a.eval)) w:=by
      simp [execOp,ho,resolve,Act.eval,Deferred.ofValue,invoke,run_callFunc hc]
    obtain ⟨h1,h2,v0,hv0,hs0,ht0⟩:=S.bx 1 _ rfl
    have ht0 : v0 = .agg (ucells q').toArray:=ht0
    have hne : ∀ (i : Nat) (x : BX),i ≠ 1 → (⟨bu,ty,some n,.ex (.agg (ucells us).toArray)⟩ :: ⟨b',ty',some c',.ex (.agg (ucells q').toArray)⟩ :: [] : List BX)[i]? = some x → x.b ≠ b':=fun i x hi hx=>S.nd i 1 x _ hx rfl hi
    obtain ⟨v1,G1,hz,_,hG1,hle,S1⟩:=S.freeze 1 rfl
    have hsl:=SL_prefix (u:=v1) (ty:=ty') hz hG1 hn' hnc' hlim' hw' hy
    have hcall:=h G1 hle S1.world hsl
    unfold Oper.wp
    rw [hr]
    have e2 : #[x,y].map a.eval = #[a.eval x,a.eval y]:=by simp
    rw [← e2] at hcall
    refine Calls.mono hcall fun e w' he=>?_
    obtain ⟨v,l,G',rfl,hp,hl,hle',SW⟩:=he
    show K' (a.put o.dst v) w'
    rw [hd]
    have hG'b:=hle' _ _ hG1
    cases hz
    have hwb:=SW.ok _ _ hG'b
    have hleG : Gle G (fun c=>if c = b' then none else G' c):=fun c z hcz=>by
      have e : c ≠ b':=fun e=>by rw [e,h2] at hcz;cases hcz
      simp only [if_neg e];exact hle' _ _ (hle _ _ hcz)
    have hsub : ∀ {τ : MT} {u : Value},τ.t u G → τ.t u (fun c=>if c = b' then none else G' c):=fun {τ u} hu=>τ.mono hleG hu
    have hb0:=SW.bx 0 _ rfl
    obtain ⟨k1,k2,u,hu,hsu,htu⟩:=SW.bx 0 _ rfl
    have S2 : St W0 G0 N L (⟨bu,ty,some n,.ex (.agg (ucells l).toArray)⟩ :: ⟨b',ty',some c',.ex (.agg (ucells q').toArray)⟩ :: []) a w' (fun c=>if c = b' then none else G' c):={
      nxt := ⟨SW.nxt.below, fun c hc => by
          have e : c ≠ b':=fun e=>by have : W0.heap.size ≤ b':=h1;omega
          simp only [if_neg e];exact SW.nxt.agree c hc,S.nxt.le.trans hleG,fun c z hcz=>by
          by_cases e : c = b'
          · subst e;simp at hcz
          · simp only [if_neg e] at hcz;exact SW.ok c z hcz⟩
      size:=S.size
      dfr:=S.dfr
      ty:=fun i pr hpr=>pr.2.mono hleG (S.ty i pr hpr)
      bx:=fun i z hz=>by
        match i,hz with
        | 0,hz=>cases hz;exact ⟨k1,by have:=hne 0 _ (by decide) rfl;simp only [if_neg this];exact k2,u,hu,hsu,htu⟩
        | 1,hz=>cases hz;exact ⟨h1,by simp,_,hwb,by rw [← ht0];exact hs0,rfl⟩
        | i + 2,hz=>simp at hz
      nd:=fun i j y z hy hz hij=>by
        have key : ∀ (i : Nat) (y : BX),(⟨bu,ty,some n,.ex (.agg (ucells l).toArray)⟩ :: ⟨b',ty',some c',.ex (.agg (ucells q').toArray)⟩ :: [] : List BX)[i]? = some y → ∃ y' : BX,(⟨bu,ty,some n,.ex (.agg (ucells us).toArray)⟩ :: ⟨b',ty',some c',.ex (.agg (ucells q').toArray)⟩ :: [] : List BX)[i]? = some y' ∧ y'.b = y.b:=fun i y h=>by
          match i,h with
          | 0,h=>cases h;exact ⟨_,rfl,rfl⟩
          | 1,h=>cases h;exact ⟨_,rfl,rfl⟩
          | i + 2,h=>simp at h
        obtain ⟨y',e1,e2⟩:=key i y hy
        obtain ⟨z',e3,e4⟩:=key j z hz
        rw [← e2,← e4];exact S.nd i j y' z' e1 e3 hij }
    exact hK _ _ (K v l _ _ _ hp hl (S2.put (of_decide_eq_true hdN) hf rfl (Nxt.refl S2.ok)))
end
theorem take_of_take {q l : List Nat} {k : Nat} (h : q.take l.length = l) (hk : k ≤ l.length) : q.take k = l.take k:=by
  have e : (q.take l.length).take k = q.take k:=by rw [List.take_take,Nat.min_eq_left hk]
  rw [← e,h]
theorem dig_of_take {q l : List Nat} {k : Nat} (h : q.take l.length = l) (hk : k < l.length) : dig q k = dig l k:=by
  rw [← dig_take (q:=q) hk,h]
theorem halve_dig {l us : List Nat} {nn k j : Nat} (h : l.drop k = us.drop k) (hj : k ≤ j) : dig (l.take nn) j = dig (us.take nn) j:=by
  have key : l[j]? = us[j]?:=by
    have h1 : (l.drop k)[j - k]? = (us.drop k)[j - k]?:=by rw [h]
    rwa [List.getElem?_drop,List.getElem?_drop,show k + (j - k) = j from by omega] at h1
  unfold dig
  rw [List.getD_eq_getElem?_getD,List.getD_eq_getElem?_getD,List.getElem?_take,List.getElem?_take,key]
theorem halve_or {x y a b : Nat} (hx : x < 4294967296) (ha : a = x) (hb : b = y) : (a / 2 ^ 1 ||| b * 2 ^ 31) % 4294967296 = x / 2 + y % 2 * 2147483648:=by
  subst ha hb
  rw [Nat.or_comm,or_shift (by omega)];omega
theorem halve_step {l us : List Nat} {nn nu k z : Nat} (h1 : k < nn) (hn : nn ≤ nu) (hl : us.length = nu) (hd : l.drop k = us.drop k) (hz : z = dig (us.take nn) k / 2 + dig (us.take nn) (k + 1) % 2 * 2147483648)
    (h : 2 * val (l.take k) + dig (us.take nn) 0 % 2 = val (us.take k) + 4294967296 ^ k * (dig (us.take nn) k % 2)) :
    2 * val ((l.set k z).take (k + 1)) + dig (us.take nn) 0 % 2 = val (us.take (k + 1)) + 4294967296 ^ (k + 1) * (dig (us.take nn) (k + 1) % 2):=by
  have hlk : k < l.length:=by
    have:=congrArg List.length hd
    simp only [List.length_drop] at this;omega
  have e1:=val_take_dig (l.set k z) k
  have e2:=val_take_dig us k
  have e3 : (l.set k z).take k = l.take k:=by rw [List.take_set_of_le (Nat.le_refl _)]
  have e4 : dig (l.set k z) k = z:=by rw [dig_set hlk,if_pos rfl]
  have e5 : dig (us.take nn) k = dig us k:=dig_take h1
  rw [e1,e3,e4,e2,hz,Nat.pow_succ]
  rw [e5] at h ⊢
  generalize 4294967296 ^ k = B at *
  generalize dig us k = d at *
  generalize dig (us.take nn) (k + 1) = e at *
  have e6 : d = d / 2 * 2 + d % 2:=by omega
  generalize d / 2 = p at *
  generalize d % 2 = r at *
  generalize e % 2 = s at *
  subst e6
  have e7 : 2 * (B * (p + s * 2147483648)) = B * (p * 2) + B * 4294967296 * s:=by grind
  have e8 : B * (p * 2 + r) = B * (p * 2) + B * r:=Nat.mul_add ..
  omega
theorem halve_end {l us : List Nat} {nn nu k : Nat} (hl : l.length = nu) (hu : us.length = nu) (hk : ¬ k < nn) (hk' : k ≤ nn) (h : 2 * val (l.take k) + dig (us.take nn) 0 % 2 = val (us.take k) + 4294967296 ^ k * (dig (us.take nn) k % 2)) : val (l.take nn) = val (us.take nn) / 2:=by
  have : k = nn:=by omega
  subst this
  have e : dig (us.take k) k = 0:=dig_out (by simp [List.length_take];omega)
  rw [e] at h
  simp only [Nat.zero_mod,Nat.mul_zero,Nat.add_zero] at h
  omega
end Go.Proofs.YtjphllpnhjemjaaGreat
namespace Go.Proofs.YtjphllpnhjemjaaGreat
set_option maxHeartbeats 1000000
set_option maxRecDepth 100000
open Go.RowKit (Below)
theorem rtrimO_ok {l : List Nat} {v1 : Value} {W0 : World} {G0 : Gh} (hok : Gok W0 G0) (h1 : (SL l).t v1 G0)  : Calls Tryz.prog 86 #[v1] W0 (RetO W0 G0 94 (fun n c q=>wfl q ∧ n ≤ c ∧ q.take n = words (val l))):=by
 have hlim:=SL.lim h1
 have hwf:=SL.wf h1
 simp only [LIM] at hlim
 refine St.enter (N:=25) (L:=[(0,SL l)]) (args:=[v1]) Tryz.func86 rfl rfl rfl hok (enter1 h1) fun a S=>?_
 refine wp_reg fun K hK=>?_
 refine S.s (τ:=MT.ex (Value.slice none 0 0)) (OpR.asn S.ok rfl rfl) rfl fun a w G S=>?_
 refine wn hK ?_;clear hK K
 refine wp_reg fun K hK=>?_
 refine S.build0 rfl rfl rfl Tryz.underlying23 el_94 rfl rfl fun b4 a w G S=>?_
 refine S.m rfl (S.g 2 rfl) rfl fun a w G S=>?_
 refine S.appO rfl rfl rfl Tryz.underlying23 el_94 (S.e 1 rfl) (S.g 0 rfl) rfl rfl fun b6 c6 q6 a w G hqc6 hlc6 hqt6 hqw6 S=>?_
 replace S : St W0 G0 25 [(6,MT.ex (Value.slice (some ⟨b6,0,none⟩) (l.length) (c6))),(5,SL l),(2,MT.ex (Value.slice none 0 0)),(0,SL l)] [⟨b6,94,some (c6),MT.ex (Value.agg (ucells (q6)).toArray)⟩] a _ _:=S.keep [0,1,3,4]
 refine S.q rfl (S.g 0 rfl) rfl fun a w G S=>?_
 refine wn hK ?_;clear hK K
 replace S:=S.d4.d2.d1
 refine wp_seq_k fun K hK=>?_
 refine wp_block ?_
 refine wp_loopJ (fun μ a w=>∃ (k : Nat) (G : Gh),μ = k ∧ (k ≤ l.length) ∧ (val (l.take k) = val l) ∧  St W0 G0 25 [(3,MT.ex (Value.slice (some ⟨b6,0,none⟩) (k) (c6))),(2,MT.ex (Value.slice none 0 0))] [⟨b6,94,some (c6),MT.ex (Value.agg (ucells (q6)).toArray)⟩] a w G) (l.length) ⟨l.length,_,rfl,(Nat.le_refl _),(by rw [List.take_length]),(S.keep [0,1]).keepB [0] (by decide)⟩ ?_
 clear S
 intro μ a w ⟨k,G,hm,hk,hv,S⟩
 refine wp_seq_k fun K hK=>?_
 refine wp_reg fun K hK=>?_
 refine S.m rfl (S.g 0 rfl) rfl fun a w G S=>?_
 refine S.s (OpR.lenA S.ok rfl Tryz.underlying23 (S.e 0 rfl) MT.self) rfl fun a w G S=>?_
 refine S.s (OpR.ngtr S.ok rfl (S.e 0 rfl) (rfl : _ = nv .i64 0) MT.self) rfl fun a w G S=>?_
 refine S.m rfl (S.g 0 rfl) rfl fun a w G S=>?_
 rcases Bool.eq_false_or_eq_true (decide (0 < k)) with hc1 | hc1
 ·
  have hp2:=of_decide_eq_true hc1
  replace S:=S.boolIs 0 rfl hc1
  refine S.stepG 0 (OpR.mv S.ok rfl (S.g 5 rfl)) rfl rfl rfl rfl rfl rfl fun a w G S=>?_
  refine S.stepG 1 (OpR.mv S.ok rfl (S.g 6 rfl)) rfl rfl rfl rfl rfl rfl fun a w G S=>?_
  refine S.stepG 2 (OpR.lenA S.ok rfl Tryz.underlying23 (S.e 0 rfl) MT.self) rfl rfl rfl rfl rfl rfl fun a w G S=>?_
  refine S.stepG 3 (OpR.nsub S.ok rfl (S.e 0 rfl) (rfl : _ = nv .i64 1) (by omega) (wr_i64 (by omega)) MT.self) rfl rfl rfl rfl rfl rfl fun a w G S=>?_
  refine S.stepG (τ:=MT.ex (Value.pointer (some ⟨b6,k - 1,none⟩))) 4 (OpR.ixA (i:=k - 1) S.ok rfl Tryz.underlying23 tS_94 (S.e 3 rfl) (S.e 0 rfl) rfl (by first | omega | (simp;omega)) (ptr_eq (by simp only [Option.getD_none] <;> omega))) rfl rfl rfl rfl rfl rfl fun a w G S=>?_
  refine S.stepG 5 (OpR.ldElem S.ok rfl (S.e 0 rfl) (S.box 0 rfl) tS_94 (dig_get (by first | omega | (simp;omega)))) rfl rfl rfl rfl rfl rfl fun a w G S=>?_
  refine S.stepG 6 (OpR.neql S.ok rfl (S.e 0 rfl) (rfl : _ = nv .u32 0) MT.self) rfl rfl rfl rfl rfl rfl fun a w G S=>?_
  refine S.s (τ:=BT (decide ((dig (q6) (k - 1)) = 0))) (OpR.pick S.ok rfl (S.e 7 rfl) (S.g 0 rfl)) rfl fun a w G S=>?_
  refine wn hK ?_;clear hK K
  replace S:=S.d12.d11.d10.d9.d8.d7.d6.d5.d4.d3.d2.d1
  refine S.cond 0 rfl (fun hc3=>?_) (fun hc3=>?_)
  ·
   have hp4:=of_decide_eq_true hc3
   refine wp_skip ?_
   refine hK _ _ ?_;clear hK K
   refine wp_block ?_
   refine wp_region_lit ?_
   refine S.m rfl (S.g 1 rfl) rfl fun a w G S=>?_
   refine S.m rfl (S.g 2 rfl) rfl fun a w G S=>?_
   refine S.s (OpR.lenA S.ok rfl Tryz.underlying23 (S.e 0 rfl) MT.self) rfl fun a w G S=>?_
   refine S.s (OpR.nsub S.ok rfl (S.e 0 rfl) (rfl : _ = nv .i64 1) (by omega) (wr_i64 (by omega)) MT.self) rfl fun a w G S=>?_
   refine S.s (τ:=MT.ex (Value.slice (some ⟨b6,0,none⟩) (k - 1) (c6))) (OpR.cutX0 S.ok rfl Tryz.underlying23 tS_94 (S.e 3 rfl) (S.e 0 rfl) rfl (by first | omega | (simp;omega)) rfl) rfl fun a w G S=>?_
   replace S:=S.d6
   refine S.q rfl (S.g 0 rfl) rfl fun a w G S=>?_
   refine wpList_nil ?_
   replace S:=S.d5.d4.d3.d2.d1
   replace S:=S.also (t:=3) (τ:=MT.ex (Value.slice (some ⟨b6,0,none⟩) ((k - 1)) (c6))) ((S.e 0 rfl).trans (by first | rfl | omega | (simp only [Nat.zero_add,Nat.add_zero];done) | (simp;done) | (push_cast;omega)))
   exact ⟨(k - 1),(by omega),(k - 1),_,rfl,(by omega),(trim_step ‹_› ((dig_of_take hqt6 (by omega)).symm.trans ‹_›) hv),(S.keep [0,3]).keepB [0] (by decide)⟩
  ·
   have hp5:=of_decide_eq_false hc3
   refine wp_exit (then_exit (then_exit (exit_same ?_)))
   clear hK K
   refine hK _ _ ?_;clear hK K
   refine wp_reg fun K hK=>?_
   refine S.m rfl (S.g 1 rfl) rfl fun a w G S=>?_
   replace S:=S.d3
   refine S.q rfl (S.g 0 rfl) rfl fun a w G S=>?_
   refine wn hK ?_;clear hK K
   replace S:=S.d1
   exact wp_ret (S.retO 0 rfl (S.e 0 rfl) rfl hqc6 ⟨hqw6,by omega,by rw [take_of_take hqt6 hk];first | exact rtrim_zero ‹_› hv rfl | exact trim_words (by omega) (fun h=>absurd ((dig_of_take hqt6 (by omega)).trans h.2) ‹_›) hk hv rfl hwf⟩)
 ·
  have hp6:=of_decide_eq_false hc1
  replace S:=S.boolIs 0 rfl hc1
  refine S.skipG 0 rfl rfl rfl rfl rfl rfl fun a w G S=>?_
  refine S.skipG 1 rfl rfl rfl rfl rfl rfl fun a w G S=>?_
  refine S.skipG 2 rfl rfl rfl rfl rfl rfl fun a w G S=>?_
  refine S.skipG 3 rfl rfl rfl rfl rfl rfl fun a w G S=>?_
  refine S.skipG 4 rfl rfl rfl rfl rfl rfl fun a w G S=>?_
  refine S.skipG 5 rfl rfl rfl rfl rfl rfl fun a w G S=>?_
  refine S.skipG 6 rfl rfl rfl rfl rfl rfl fun a w G S=>?_
  refine S.s (τ:=BT false) (OpR.pick S.ok rfl (S.e 7 rfl) rfl) rfl fun a w G S=>?_
  refine wn hK ?_;clear hK K
  replace S:=S.d12.d11.d10.d9.d8.d7.d6.d5.d4.d3.d2.d1
  refine wp_cond_false (S.e 0 rfl) ?_
  refine wp_exit (then_exit (then_exit (exit_same ?_)))
  clear hK K
  refine hK _ _ ?_;clear hK K
  refine wp_reg fun K hK=>?_
  refine S.m rfl (S.g 1 rfl) rfl fun a w G S=>?_
  replace S:=S.d3
  refine S.q rfl (S.g 0 rfl) rfl fun a w G S=>?_
  refine wn hK ?_;clear hK K
  replace S:=S.d1
  exact wp_ret (S.retO 0 rfl (S.e 0 rfl) rfl hqc6 ⟨hqw6,by omega,by rw [take_of_take hqt6 hk];first | exact rtrim_zero ‹_› hv rfl | exact trim_words (by omega) (fun h=>absurd ((dig_of_take hqt6 (by omega)).trans h.2) ‹_›) hk hv rfl hwf⟩)
theorem rcutO_ok {nn nu : Nat} {us : List Nat} {v1 : Value} {ws : World} {Gs : Gh} {W0 : World} {G0 : Gh} {bu : Nat} {Br : List BX} (S0 : St W0 G0 0 [] (⟨bu,94,some (nu),MT.ex (Value.agg (ucells us).toArray)⟩ :: Br) ⟨#[],[]⟩ ws Gs) (h1 : (MT.ex (Value.slice (some ⟨bu,0,none⟩) (nn) (nu))).t v1 Gs) (husl : us.length = nu) (husw : wfl us) (hnn : nn ≤ nu) (hnu : nn ≤ LIM) : Calls Tryz.prog 90 #[v1] ws (RetM W0 G0 Gs (⟨bu,94,some (nu),MT.ex (Value.agg (ucells us).toArray)⟩ :: Br) 0 bu 94 (nu) (fun v l=>l = us ∧ ∃ k,k ≤ nn ∧ v = Value.slice (some ⟨bu,0,none⟩) k nu ∧ us.take k = words (val (us.take nn)))):=by
 simp only [LIM] at hnu
 refine St.enterM (N:=21) (L:=[(0,MT.ex (Value.slice (some ⟨bu,0,none⟩) (nn) (nu)))]) (args:=[v1]) S0 Tryz.func90 rfl rfl rfl (enter1 h1) fun a S=>?_
 replace S:=S.also (t:=9999) (τ:=GLE Gs) (Gle.refl Gs)
 refine wp_reg fun K hK=>?_
 refine S.s (τ:=MT.ex (Value.slice none 0 0)) (OpR.asn S.ok rfl rfl) rfl fun a w G S=>?_
 refine wn hK ?_;clear hK K
 refine wp_seq_k fun K hK=>?_
 refine wp_block ?_
 refine wp_loopJ (fun μ a w=>∃ (k : Nat) (G : Gh),μ = k ∧ (k ≤ nn) ∧ (val (us.take k) = val (us.take nn)) ∧  St W0 G0 21 [(2,MT.ex (Value.slice none 0 0)),(9999,GLE Gs),(0,MT.ex (Value.slice (some ⟨bu,0,none⟩) (k) (nu)))] (⟨bu,94,some (nu),MT.ex (Value.agg (ucells (us)).toArray)⟩ :: Br) a w G) (nn) ⟨nn,_,rfl,(Nat.le_refl _),rfl,S.keep [0,1,2]⟩ ?_
 clear S
 intro μ a w ⟨k,G,hm,hk,hv,S⟩
 refine wp_seq_k fun K hK=>?_
 refine wp_reg fun K hK=>?_
 refine S.m rfl (S.g 2 rfl) rfl fun a w G S=>?_
 refine S.s (OpR.lenA S.ok rfl Tryz.underlying23 (S.e 0 rfl) MT.self) rfl fun a w G S=>?_
 refine S.s (OpR.ngtr S.ok rfl (S.e 0 rfl) (rfl : _ = nv .i64 0) MT.self) rfl fun a w G S=>?_
 refine S.m rfl (S.g 0 rfl) rfl fun a w G S=>?_
 rcases Bool.eq_false_or_eq_true (decide (0 < k)) with hc1 | hc1
 ·
  have hp2:=of_decide_eq_true hc1
  replace S:=S.boolIs 0 rfl hc1
  refine S.stepG 0 (OpR.mv S.ok rfl (S.g 7 rfl)) rfl rfl rfl rfl rfl rfl fun a w G S=>?_
  refine S.stepG 1 (OpR.mv S.ok rfl (S.g 8 rfl)) rfl rfl rfl rfl rfl rfl fun a w G S=>?_
  refine S.stepG 2 (OpR.lenA S.ok rfl Tryz.underlying23 (S.e 0 rfl) MT.self) rfl rfl rfl rfl rfl rfl fun a w G S=>?_
  refine S.stepG 3 (OpR.nsub S.ok rfl (S.e 0 rfl) (rfl : _ = nv .i64 1) (by omega) (wr_i64 (by omega)) MT.self) rfl rfl rfl rfl rfl rfl fun a w G S=>?_
  refine S.stepG (τ:=MT.ex (Value.pointer (some ⟨bu,k - 1,none⟩))) 4 (OpR.ixA (i:=k - 1) S.ok rfl Tryz.underlying23 tS_94 (S.e 3 rfl) (S.e 0 rfl) rfl (by first | omega | (simp;omega)) (ptr_eq (by simp only [Option.getD_none] <;> omega))) rfl rfl rfl rfl rfl rfl fun a w G S=>?_
  refine S.stepG 5 (OpR.ldElem S.ok rfl (S.e 0 rfl) (S.box 0 rfl) tS_94 (dig_get (by first | omega | (simp;omega)))) rfl rfl rfl rfl rfl rfl fun a w G S=>?_
  refine S.stepG 6 (OpR.neql S.ok rfl (S.e 0 rfl) (rfl : _ = nv .u32 0) MT.self) rfl rfl rfl rfl rfl rfl fun a w G S=>?_
  refine S.s (τ:=BT (decide ((dig (us) (k - 1)) = 0))) (OpR.pick S.ok rfl (S.e 7 rfl) (S.g 0 rfl)) rfl fun a w G S=>?_
  refine wn hK ?_;clear hK K
  replace S:=S.d12.d11.d10.d9.d8.d7.d6.d5.d4.d3.d2.d1
  refine S.cond 0 rfl (fun hc3=>?_) (fun hc3=>?_)
  ·
   have hp4:=of_decide_eq_true hc3
   refine wp_skip ?_
   refine hK _ _ ?_;clear hK K
   refine wp_block ?_
   refine wp_region_lit ?_
   refine S.m rfl (S.g 3 rfl) rfl fun a w G S=>?_
   refine S.m rfl (S.g 4 rfl) rfl fun a w G S=>?_
   refine S.s (OpR.lenA S.ok rfl Tryz.underlying23 (S.e 0 rfl) MT.self) rfl fun a w G S=>?_
   refine S.s (OpR.nsub S.ok rfl (S.e 0 rfl) (rfl : _ = nv .i64 1) (by omega) (wr_i64 (by omega)) MT.self) rfl fun a w G S=>?_
   refine S.s (τ:=MT.ex (Value.slice (some ⟨bu,0,none⟩) (k - 1) (nu))) (OpR.cutX0 S.ok rfl Tryz.underlying23 tS_94 (S.e 3 rfl) (S.e 0 rfl) rfl (by first | omega | (simp;omega)) rfl) rfl fun a w G S=>?_
   replace S:=S.d8
   refine S.q rfl (S.g 0 rfl) rfl fun a w G S=>?_
   refine wpList_nil ?_
   replace S:=S.d5.d4.d3.d2.d1
   replace S:=S.also (t:=0) (τ:=MT.ex (Value.slice (some ⟨bu,0,none⟩) ((k - 1)) (nu))) ((S.e 0 rfl).trans (by first | rfl | omega | (simp only [Nat.zero_add,Nat.add_zero];done) | (simp;done) | (push_cast;omega)))
   exact ⟨(k - 1),(by omega),(k - 1),_,rfl,(by omega),(cut_step ‹_› ‹_› hv),S.keep [3,4,0]⟩
  ·
   have hp5:=of_decide_eq_false hc3
   refine wp_exit (then_exit (then_exit (exit_same ?_)))
   clear hK K
   refine hK _ _ ?_;clear hK K
   refine wp_reg fun K hK=>?_
   refine S.m rfl (S.g 3 rfl) rfl fun a w G S=>?_
   replace S:=S.d2
   refine S.q rfl (S.g 0 rfl) rfl fun a w G S=>?_
   refine wn hK ?_;clear hK K
   replace S:=S.d1
   exact wp_ret (S.retM rfl (S.e 0 rfl) ⟨rfl,k,hk,rfl,by first | exact cut_zero ‹_› hv | exact cut_top ‹_› (by omega) ‹_› hv husw⟩ husl (S.g 2 rfl))
 ·
  have hp6:=of_decide_eq_false hc1
  replace S:=S.boolIs 0 rfl hc1
  refine S.skipG 0 rfl rfl rfl rfl rfl rfl fun a w G S=>?_
  refine S.skipG 1 rfl rfl rfl rfl rfl rfl fun a w G S=>?_
  refine S.skipG 2 rfl rfl rfl rfl rfl rfl fun a w G S=>?_
  refine S.skipG 3 rfl rfl rfl rfl rfl rfl fun a w G S=>?_
  refine S.skipG 4 rfl rfl rfl rfl rfl rfl fun a w G S=>?_
  refine S.skipG 5 rfl rfl rfl rfl rfl rfl fun a w G S=>?_
  refine S.skipG 6 rfl rfl rfl rfl rfl rfl fun a w G S=>?_
  refine S.s (τ:=BT false) (OpR.pick S.ok rfl (S.e 7 rfl) rfl) rfl fun a w G S=>?_
  refine wn hK ?_;clear hK K
  replace S:=S.d12.d11.d10.d9.d8.d7.d6.d5.d4.d3.d2.d1
  refine wp_cond_false (S.e 0 rfl) ?_
  refine wp_exit (then_exit (then_exit (exit_same ?_)))
  clear hK K
  refine hK _ _ ?_;clear hK K
  refine wp_reg fun K hK=>?_
  refine S.m rfl (S.g 3 rfl) rfl fun a w G S=>?_
  replace S:=S.d2
  refine S.q rfl (S.g 0 rfl) rfl fun a w G S=>?_
  refine wn hK ?_;clear hK K
  replace S:=S.d1
  exact wp_ret (S.retM rfl (S.e 0 rfl) ⟨rfl,k,hk,rfl,by first | exact cut_zero ‹_› hv | exact cut_top ‹_› (by omega) ‹_› hv husw⟩ husl (S.g 2 rfl))
end Go.Proofs.YtjphllpnhjemjaaGreat
namespace Go.Proofs.YtjphllpnhjemjaaGreat
set_option maxHeartbeats 1000000
set_option maxRecDepth 100000
open Go.RowKit (Below)
private theorem c_90 : callable Tryz.prog 90 = true:=by kernel_rfl
theorem rhalve_ok {nn nu : Nat} {us : List Nat} {v1 : Value} {ws : World} {Gs : Gh} {W0 : World} {G0 : Gh} {bu : Nat} {Br : List BX} (S0 : St W0 G0 0 [] (⟨bu,94,some (nu),MT.ex (Value.agg (ucells us).toArray)⟩ :: Br) ⟨#[],[]⟩ ws Gs) (h1 : (MT.ex (Value.slice (some ⟨bu,0,none⟩) (nn) (nu))).t v1 Gs) (husl : us.length = nu) (husw : wfl us) (hnn : nn ≤ nu) (hnu : nn ≤ LIM) : Calls Tryz.prog 87 #[v1] ws (RetM W0 G0 Gs (⟨bu,94,some (nu),MT.ex (Value.agg (ucells us).toArray)⟩ :: Br) 0 bu 94 (nu) (fun v l=>wfl l ∧ ∃ k,k ≤ nn ∧ v = Value.slice (some ⟨bu,0,none⟩) k nu ∧ l.take k = words (val (us.take nn) / 2))):=by
 simp only [LIM] at hnu
 refine St.enterM (N:=26) (L:=[(0,MT.ex (Value.slice (some ⟨bu,0,none⟩) (nn) (nu)))]) (args:=[v1]) S0 Tryz.func87 rfl rfl rfl (enter1 h1) fun a S=>?_
 replace S:=S.also (t:=9999) (τ:=GLE Gs) (Gle.refl Gs)
 refine wp_reg fun K hK=>?_
 refine S.s (τ:=MT.ex (Value.slice none 0 0)) (OpR.asn S.ok rfl rfl) rfl fun a w G S=>?_
 refine wn hK ?_;clear hK K
 refine wp_seq_k fun K hK=>?_
 refine wp_reg fun K hK=>?_
 refine S.m rfl (S.g 2 rfl) rfl fun a w G S=>?_
 refine S.s (OpR.lenA S.ok rfl Tryz.underlying23 (S.e 0 rfl) MT.self) rfl fun a w G S=>?_
 refine S.s (τ:=NT 0) (OpR.mv S.ok rfl (rfl : _ = nv .i64 0)) rfl fun a w G S=>?_
 refine wn hK ?_;clear hK K
 replace S:=S.d2
 refine wp_block ?_
 refine wp_loopJ (fun μ a w=>∃ (k : Nat) (l : List Nat) (G : Gh),μ = nn - k ∧ (k ≤ nn) ∧ (l.length = nu) ∧ (wfl l) ∧ (l.drop k = us.drop k) ∧ (2 * val (l.take k) + dig (us.take nn) 0 % 2 = val (us.take k) + 4294967296 ^ k * (dig (us.take nn) k % 2)) ∧  St W0 G0 26 [(6,NT k),(5,NT nn),(2,MT.ex (Value.slice none 0 0)),(9999,GLE Gs),(0,MT.ex (Value.slice (some ⟨bu,0,none⟩) (nn) (nu)))] (⟨bu,94,some (nu),MT.ex (Value.agg (ucells (l)).toArray)⟩ :: Br) a w G) (nn - 0) ⟨0,us,_,rfl,(by omega),husl,husw,rfl,(by simp [val]),S.keep [0,1,2,3,4]⟩ ?_
 clear S
 intro μ a w ⟨k,l,G,hm,hk,hl,hw,hB,hv,S⟩
 have hda:=dig_lt (husw.take nn) k
 have hdb:=dig_lt (husw.take nn) (k + 1)
 have hea:=halve_dig (nn:=nn) hB (Nat.le_refl k)
 have heb:=halve_dig (nn:=nn) (j:=k + 1) hB (by omega)
 refine wp_reg fun K hK=>?_
 refine S.s (OpR.nlss S.ok rfl (S.e 0 rfl) (S.e 1 rfl) MT.self) rfl fun a w G S=>?_
 refine wn hK ?_;clear hK K
 refine wp_seq_k fun K hK=>?_
 refine S.cond 0 rfl (fun hc1=>?_) (fun hc1=>?_)
 ·
  have hp2:=of_decide_eq_true hc1
  refine wp_skip ?_
  refine hK _ _ ?_;clear hK K
  refine wp_seq_k fun K hK=>?_
  refine wp_block ?_
  refine wp_reg fun K hK=>?_
  refine S.m rfl (S.g 1 rfl) rfl fun a w G S=>?_
  refine S.q rfl (S.g 0 rfl) rfl fun a w G S=>?_
  refine wn hK ?_;clear hK K
  replace S:=S.d1
  refine wp_region_lit ?_
  refine S.m rfl (S.g 6 rfl) rfl fun a w G S=>?_
  refine S.m rfl (S.g 1 rfl) rfl fun a w G S=>?_
  refine S.m rfl (S.g 8 rfl) rfl fun a w G S=>?_
  refine S.m rfl (S.g 3 rfl) rfl fun a w G S=>?_
  refine S.s (τ:=MT.ex (nv .u64 (dig (l.take (nn)) k))) (OpR.lendP (n:=nn) (c:=nu) (q:=l) S.ok rfl c_107 (S.box 0 rfl) (by omega) (by omega) (by simp only [LIM];omega) (by assumption) fun G1 hle hok1 hsl=>(rat_ok hok1 (of_val (S.e 1 rfl) hsl) ((NT k).mono hle (S.g 0 rfl)))) rfl fun a w G S=>?_
  refine S.s (OpR.nshr S.ok rfl (S.e 0 rfl) (rfl : _ = nv .u64 1) (by decide) MT.self) rfl fun a w G S=>?_
  refine S.m rfl (S.g 12 rfl) rfl fun a w G S=>?_
  refine S.m rfl (S.g 7 rfl) rfl fun a w G S=>?_
  refine S.s (OpR.nadd S.ok rfl (S.e 0 rfl) (rfl : _ = nv .i64 1) (wr_i64 (by omega)) MT.self) rfl fun a w G S=>?_
  refine S.s (τ:=MT.ex (nv .u64 (dig (l.take (nn)) (k + 1)))) (OpR.lendP (n:=nn) (c:=nu) (q:=l) S.ok rfl c_107 (S.box 0 rfl) (by omega) (by omega) (by simp only [LIM];omega) (by assumption) fun G1 hle hok1 hsl=>(rat_ok hok1 (of_val (S.e 2 rfl) hsl) ((NT (k + 1)).mono hle (S.g 0 rfl)))) rfl fun a w G S=>?_
  refine S.s (OpR.nshl S.ok rfl (S.e 0 rfl) (rfl : _ = nv .u64 31) (by decide) (wr_u64 (by omega)) MT.self) rfl fun a w G S=>?_
  refine S.s (OpR.nor S.ok rfl (S.e 5 rfl) (S.e 0 rfl) (by omega) (by omega) MT.self) rfl fun a w G S=>?_
  refine S.s (OpR.nconv32 S.ok rfl (S.e 0 rfl) it_105 it_94 MT.self) rfl fun a w G S=>?_
  refine S.s (τ:=MT.ex (Value.pointer (some ⟨bu,k,none⟩))) (OpR.ixA (i:=k) S.ok rfl Tryz.underlying23 tS_94 (S.e 12 rfl) (S.e 11 rfl) rfl (by first | omega | (simp;omega)) (ptr_eq (by simp only [Option.getD_none] <;> omega))) rfl fun a w G S=>?_
  refine S.setElem 0 (z:=(((dig (l.take (nn)) k) / 2 ^ 1) ||| ((dig (l.take (nn)) (k + 1)) * 2 ^ 31)) % 4294967296) rfl rfl rfl rfl (S.e 0 rfl) tS_94 (S.e 1 rfl) rfl (by first | omega | (simp;omega)) fun w S=>?_
  replace S:=S.n0
  refine wpList_nil ?_
  replace S:=S.d14.d13.d12.d11.d10.d9.d8.d7.d6.d5.d4.d3.d2.d1.d0
  refine hK _ _ ?_;clear hK K
  refine wp_region_lit ?_
  refine S.s (OpR.nadd S.ok rfl (S.e 1 rfl) (rfl : _ = nv .i64 1) (wr_i64 (by omega)) MT.self) rfl fun a w G S=>?_
  replace S:=S.d2
  refine S.m rfl (S.g 0 rfl) rfl fun a w G S=>?_
  refine wpList_nil ?_
  replace S:=S.d1
  replace S:=S.castBox (τ':=MT.ex (Value.agg (ucells ((l.set (k) ((((dig (l.take (nn)) k) / 2 ^ 1) ||| ((dig (l.take (nn)) (k + 1)) * 2 ^ 31)) % 4294967296)))).toArray)) 0 rfl fun _ h _=>Eq.trans h (congrArg (fun l=>Value.agg (ucells l).toArray) (by simp))
  replace S:=S.n0
  exact ⟨nn - (k + 1),(by omega),k + 1,l.set (k) ((((dig (l.take (nn)) k) / 2 ^ 1) ||| ((dig (l.take (nn)) (k + 1)) * 2 ^ 31)) % 4294967296),_,rfl,(by omega),(by simpa using hl),(hw.set (Nat.mod_lt _ (by decide))),(by rw [drop_set_far (by omega)];exact drop_eq_succ hB),(halve_step (by omega) (by omega) husl hB (halve_or hda hea heb) hv),S.keep [0,2,3,4,5]⟩
 ·
  have hp3:=of_decide_eq_false hc1
  refine wp_exit (then_exit (then_exit (exit_same ?_)))
  clear hK K
  refine hK _ _ ?_;clear hK K
  refine wp_reg fun K hK=>?_
  refine S.m rfl (S.g 5 rfl) rfl fun a w G S=>?_
  refine S.stepM1 0 rfl rfl rfl c_90 (rcutO_ok S.world (S.g 0 rfl) hl hw hnn (by simp only [LIM];omega)) rfl rfl fun vR lR a w G hR hlR S=>?_
  obtain ⟨rfl,j,hj,rfl,hjv⟩:=hR
  replace S:=S.d5
  refine S.q rfl (S.g 0 rfl) rfl fun a w G S=>?_
  refine wn hK ?_;clear hK K
  replace S:=S.d2.d1
  exact wp_ret (S.retM rfl (S.e 0 rfl) ⟨hw,j,hj,rfl,hjv.trans (congrArg words (halve_end hl husl ‹_› hk hv))⟩ hl (S.g 4 rfl))
end Go.Proofs.YtjphllpnhjemjaaGreat
namespace Go.Proofs.YtjphllpnhjemjaaGreat
open Go.RowKit (Below)
def ROW (n c : Nat) (q : List Nat) (z M : Nat) : Prop:=q.length = c ∧ n ≤ c ∧ wfl q ∧ q.take n = words z ∧ n ≤ LIM ∧ z < 2 ^ M
section
variable {n c z M : Nat} {q : List Nat}
theorem ROW.len (h : ROW n c q z M) : q.length = c:=h.1
theorem ROW.le (h : ROW n c q z M) : n ≤ c:=h.2.1
theorem ROW.wf (h : ROW n c q z M) : wfl q:=h.2.2.1
theorem ROW.eq (h : ROW n c q z M) : q.take n = words z:=h.2.2.2.1
theorem ROW.lim (h : ROW n c q z M) : n ≤ LIM:=h.2.2.2.2.1
theorem ROW.lt (h : ROW n c q z M) : z < 2 ^ M:=h.2.2.2.2.2
theorem ROW.cnt (h : ROW n c q z M) : n = (words z).length:=by
  have:=congrArg List.length h.eq
  rw [List.length_take,h.len] at this;have:=h.le;omega
theorem ROW.zero (h : ROW n c q z M) (h0 : n = 0) : z = 0:=len_zero (by rw [← h.cnt];exact h0)
theorem ROW.nz (h : ROW n c q z M) (h0 : ¬ n = 0) : z ≠ 0:=fun e=>h0 (by rw [h.cnt,e,words_zero];rfl)
theorem ROW.pos (h : ROW n c q z M) (h0 : z ≠ 0) : 0 < n:=by rw [h.cnt];exact len_pos_iff.2 h0
theorem ROW.val (h : ROW n c q z M) : val (q.take n) = z:=by rw [h.eq,val_words]
theorem ROW.mk {M n c : Nat} {q : List Nat} {z : Nat} (hq : q.length = c) (hn : n ≤ c) (hw : wfl q) (he : q.take n = words z) (hM : M ≤ BIG) (hz : z < 2 ^ M) : ROW n c q z M:=by
  refine ⟨hq,hn,hw,he,?_,hz⟩
  have:=congrArg List.length he
  rw [List.length_take,hq] at this
  have h2:=words_length_bits hz
  simp only [BIG] at hM;simp only [LIM];omega
theorem ROW.odd (h : ROW n c q z M) (h0 : 0 < n) : dig q 0 % 2 = z % 2:=by
  have e:=h.val
  obtain ⟨x,r,hxr⟩ : ∃ x r,q.take n = x :: r:=by
    cases hq : q.take n with
    | nil=>have h5:=congrArg List.length hq;rw [List.length_take,h.len] at h5;have h6:=h.le;simp only [List.length_nil] at h5;omega
    | cons x r=>exact ⟨x,r,rfl⟩
  have e2 : dig q 0 = x:=by rw [← dig_take h0,hxr];rfl
  rw [hxr] at e
  have e3 : Go.Proofs.YtjphllpnhjemjaaGreat.val (x :: r) = x + 4294967296 * Go.Proofs.YtjphllpnhjemjaaGreat.val r:=rfl
  rw [e3] at e
  rw [e2,← e];omega
theorem ROW.half {n c : Nat} {q l : List Nat} {j : Nat} (h : ROW n c q z M) (hl : l.length = c) (hw : wfl l) (hj : j ≤ n) (he : l.take j = words (Go.Proofs.YtjphllpnhjemjaaGreat.val (q.take n) / 2)) (hM : M ≤ BIG) : ROW j c l (z / 2) M:=by
  rw [h.val] at he
  exact ROW.mk hl (by have:=h.le;omega) hw he hM (by have:=h.lt;omega)
end
theorem wfl_val_lt {l : List Nat} (h : wfl l) : val l < 4294967296 ^ l.length:=val_lt h
theorem take_ge {us vs l : List Nat} {nn c A B : Nat} (hl : (l.take nn).length ≤ nn) (hwl : wfl l) (hA : val (us.take nn) = A) (hB : val (vs.take nn) = B) (hle : B ≤ A) (hc : c ≤ 1) (h : val (l.take nn) + val (vs.take nn) = val (us.take nn) + 4294967296 ^ nn * c) : val (l.take nn) = A - B:=by
  have h1:=wfl_val_lt (hwl.take nn)
  have h2 : 4294967296 ^ (l.take nn).length ≤ 4294967296 ^ nn:=Nat.pow_le_pow_right (by decide) hl
  generalize 4294967296 ^ nn = D at *
  generalize 4294967296 ^ (l.take nn).length = E at *
  rcases Nat.eq_zero_or_pos c with h3 | h3
  · subst h3;rw [Nat.mul_zero] at h;omega
  · have : c = 1:=by omega
    subst this;rw [Nat.mul_one] at h;omega
theorem take_take_words {n nn B : Nat} {q : List Nat} (h : q.take n = words B) (hn : n ≤ nn) : val ((q.take n).take nn) = B:=by
  rw [List.take_take,Nat.min_eq_right hn,h,val_words]
theorem words_len_mono {x y : Nat} (h : x ≤ y) : (words x).length ≤ (words y).length:=by
  rcases Nat.lt_or_ge (words y).length (words x).length with h1 | h1
  · have:=lt_of_len (a:=y) (b:=x) h1;omega
  · exact h1
theorem takeO_step {l us vs : List Nat} {nn k c : Nat} (hk : k < l.length) (hn : k < nn) (ha : dig l k < 4294967296) (hb : dig vs k < 4294967296) (hc : c ≤ 1) (hd : l.drop k = us.drop k) (h : val (l.take k) + val (vs.take k) = val (us.take k) + 4294967296 ^ k * c) :
    val ((l.set k ((4294967296 + dig (l.take nn) k - dig vs k - c) % 4294967296)).take (k + 1)) + val (vs.take (k + 1)) = val (us.take (k + 1)) + 4294967296 ^ (k + 1) * (1 - (4294967296 + dig (l.take nn) k - dig vs k - c) / 2 ^ 32):=by
  rw [dig_take hn];exact rtake_step hk ha hb hc hd h
theorem takeO_end {l us vs : List Nat} {nn k c : Nat} (hk : ¬ k < nn) (hk' : k ≤ nn) (h : val (l.take k) + val (vs.take k) = val (us.take k) + 4294967296 ^ k * c) : val (l.take nn) + val (vs.take nn) = val (us.take nn) + 4294967296 ^ nn * c:=by
  obtain rfl : k = nn:=by omega
  exact h
theorem gcd_half_odd {u w : Nat} (h : Nat.gcd (2 * u) w % 2 = 1) : Nat.gcd u w = Nat.gcd (2 * u) w:=by
  refine Nat.dvd_antisymm (Nat.gcd_dvd_gcd_of_dvd_left w (Nat.dvd_mul_left u 2)) (Nat.dvd_gcd ?_ (Nat.gcd_dvd_right _ _))
  have h1 : Nat.gcd (2 * u) w ∣ 2 * u:=Nat.gcd_dvd_left _ _
  have h2 : Nat.Coprime (Nat.gcd (2 * u) w) 2:=by
    generalize Nat.gcd (2 * u) w = g at *
    unfold Nat.Coprime
    rw [Nat.gcd_comm,Nat.gcd_rec,h];rfl
  exact h2.dvd_of_dvd_mul_left h1
theorem gcd_half {z w g : Nat} (he : z % 2 = 0) (hg : Nat.gcd z w = g) (ho : g % 2 = 1) : Nat.gcd (z / 2) w = g:=by
  have e : z = 2 * (z / 2):=by omega
  rw [e] at hg
  rw [gcd_half_odd (by rw [hg];exact ho),hg]
theorem gcd_half' {z w g : Nat} (he : w % 2 = 0) (hg : Nat.gcd z w = g) (ho : g % 2 = 1) : Nat.gcd z (w / 2) = g:=by
  rw [Nat.gcd_comm];exact gcd_half he (by rw [Nat.gcd_comm];exact hg) ho
theorem gcd_both {u w k x y : Nat} (hu : u % 2 = 0) (hw : w % 2 = 0) (hx : u * 2 ^ k = x) (hy : w * 2 ^ k = y) : u / 2 * 2 ^ (k + 1) = x ∧ w / 2 * 2 ^ (k + 1) = y:=by
  have e1 : u = u / 2 * 2:=by omega
  have e2 : w = w / 2 * 2:=by omega
  constructor
  · rw [Nat.pow_succ,← hx];conv=>rhs;rw [e1]
    rw [Nat.mul_assoc,Nat.mul_comm (2 ^ k) 2,← Nat.mul_assoc]
  · rw [Nat.pow_succ,← hy];conv=>rhs;rw [e2]
    rw [Nat.mul_assoc,Nat.mul_comm (2 ^ k) 2,← Nat.mul_assoc]
theorem gcd_minus {u w g : Nat} (hg : Nat.gcd u w = g) (h : w ≤ u) : Nat.gcd (u - w) w = g:=by
  rw [Nat.gcd_sub_self_left h];exact hg
theorem gcd_odd {u w : Nat} (h : ¬ (u % 2 = 0 ∧ w % 2 = 0)) : Nat.gcd u w % 2 = 1:=by
  rcases Nat.mod_two_eq_zero_or_one (Nat.gcd u w) with h1 | h1
  · exact absurd ⟨Nat.mod_eq_zero_of_dvd (Nat.dvd_trans (Nat.dvd_of_mod_eq_zero h1) (Nat.gcd_dvd_left _ _)),Nat.mod_eq_zero_of_dvd (Nat.dvd_trans (Nat.dvd_of_mod_eq_zero h1) (Nat.gcd_dvd_right _ _))⟩ h
  · exact h1
theorem gcd_scale {u w k x y : Nat} (hx : u * 2 ^ k = x) (hy : w * 2 ^ k = y) : Nat.gcd u w * 2 ^ k = Nat.gcd x y:=by rw [← hx,← hy,Nat.gcd_mul_right]
theorem pow_lt_of {u k x M : Nat} (h0 : u ≠ 0) (hx : u * 2 ^ k = x) (hM : x < 2 ^ M) : k < M:=by
  have : 2 ^ k ≤ x:=by rw [← hx];exact Nat.le_mul_of_pos_left _ (Nat.pos_of_ne_zero h0)
  exact (Nat.pow_lt_pow_iff_right (by decide : 1 < 2)).1 (Nat.lt_of_le_of_lt this hM)
theorem gcd_lt_pow {x y M : Nat} (hx : x ≠ 0) (h : x < 2 ^ M) : Nat.gcd x y < 2 ^ M:=Nat.lt_of_le_of_lt (Nat.gcd_le_left _ (Nat.pos_of_ne_zero hx)) h
theorem twos_lt {g i k t M : Nat} (h : g * 2 ^ k = t) (hi : i < k) (ht : t < 2 ^ M) : g * 2 ^ i + g * 2 ^ i = g * 2 ^ (i + 1) ∧ g * 2 ^ i + g * 2 ^ i < 2 ^ M:=by
  have e : g * 2 ^ i + g * 2 ^ i = g * 2 ^ (i + 1):=by rw [Nat.pow_succ];grind
  refine ⟨e,?_⟩
  rw [e]
  refine Nat.lt_of_le_of_lt ?_ ht
  rw [← h];exact Nat.mul_le_mul_left _ (Nat.pow_le_pow_right (by decide) hi)
section
variable {P : Program} {o : Oper} {a : Act} {w : World} {G : Gh} {τ : MT} {x y : Operand} {k k' : IntKind} {t t' : TypeId} {m n : Nat}
theorem OpR.nand1 (hok : Gok w G) (ho : o.op = .binOp .and t x y t') (hx : a.eval x = nv .u32 m) (hy : a.eval y = nv .u32 1) (hm : m < 4294967296) (h : τ.t (nv .u32 (m % 2)) G) : OpR P o a w G τ :=
  .bits hok ho hx hy (.inl ⟨rfl,by
    have h1 : (BitVec.ofInt 32 (m : Int)).toNat = m:=by simp;omega
    have e : (Value.int .u32 (IntKind.u32.wrap ((BitVec.ofInt IntKind.u32.bits (m : Int) &&& BitVec.ofInt IntKind.u32.bits ((1 : Nat) : Int)).toNat : Int))) = nv .u32 (m % 2):=by
      show Value.int .u32 (IntKind.u32.wrap ((BitVec.ofInt 32 (m : Int) &&& BitVec.ofInt 32 ((1 : Nat) : Int)).toNat : Int)) = _
      rw [BitVec.toNat_and,h1,show (BitVec.ofInt 32 ((1 : Nat) : Int)).toNat = 1 from rfl,Nat.and_one_is_mod]
      congr 1;exact wr_u32 (by omega)
    rw [e];exact h⟩)
theorem OpR.nshlw (hok : Gok w G) (ho : o.op = .binOp .shl t x y t') (hx : a.eval x = nv .u32 m) (hy : a.eval y = nv k' n) (hn : n ≤ IntKind.u32.bits) (h : τ.t (nv .u32 (m * 2 ^ n % 4294967296)) G) : OpR P o a w G τ :=
  .shl hok ho hx hy (by omega) (by
    have e : (m : Int) * (2 : Int) ^ (min (n : Int).toNat IntKind.u32.bits) = ((m * 2 ^ n : Nat) : Int):=by rw [Int.toNat_natCast,Nat.min_eq_left hn];simp
    rw [e];have:=nw_u32 (z:=((m * 2 ^ n : Nat) : Int)) (n:=m * 2 ^ n) rfl;rw [this];exact h)
end
end Go.Proofs.YtjphllpnhjemjaaGreat
namespace Go.Proofs.YtjphllpnhjemjaaGreat
set_option maxHeartbeats 1000000
set_option maxRecDepth 100000
open Go.RowKit (Below)
theorem rcompareL_ok {l q : List Nat} {v1 v2 : Value} {W0 : World} {G0 : Gh} (hok : Gok W0 G0) (h1 : (SL l).t v1 G0) (h2 : (SL q).t v2 G0)  : Calls Tryz.prog 88 #[v1,v2] W0 (Ret W0 G0 (IT (cmpN (val l) (val q)))):=by
 have hla:=SL.lim h1
 have hlb:=SL.lim h2
 have hwl:=SL.wf h1
 have hwq:=SL.wf h2
 simp only [LIM] at hla hlb
 refine St.enter (N:=30) (L:=[(1,SL q),(0,SL l)]) (args:=[v1,v2]) Tryz.func88 rfl rfl rfl hok (enter2 h1 h2) fun a S=>?_
 refine wp_reg fun K hK=>?_
 refine S.s (τ:=NT 0) (OpR.asn S.ok rfl (rfl : _ = nv .i64 0)) rfl fun a w G S=>?_
 refine wn hK ?_;clear hK K
 refine wp_seq_k fun K hK=>?_
 refine wp_reg fun K hK=>?_
 refine S.m rfl (S.g 2 rfl) rfl fun a w G S=>?_
 refine S.s (OpR.lenL S.ok rfl Tryz.underlying23 (S.g 0 rfl) MT.self) rfl fun a w G S=>?_
 refine S.m rfl (S.g 3 rfl) rfl fun a w G S=>?_
 refine S.s (OpR.lenL S.ok rfl Tryz.underlying23 (S.g 0 rfl) MT.self) rfl fun a w G S=>?_
 refine S.s (OpR.nmax S.ok rfl (S.e 2 rfl) (S.e 0 rfl) MT.self) rfl fun a w G S=>?_
 refine S.s (τ:=IT (((max l.length q.length : Nat) : Int) - ((1 : Nat) : Int))) (OpR.isub S.ok rfl (S.e 0 rfl) (rfl : _ = nv .i64 1) (iw_i64 (by omega) (by omega))) rfl fun a w G S=>?_
 refine S.q rfl (S.g 0 rfl) rfl fun a w G S=>?_
 refine wn hK ?_;clear hK K
 replace S:=S.d6.d5.d4.d3.d2.d1
 refine wp_block ?_
 replace S:=S.also (t:=5) (τ:=IT ((((max l.length q.length) : Nat) : Int) - ((1 : Nat) : Int))) ((S.e 0 rfl).trans (iv_eq (by first | rfl | omega | (simp only [Nat.zero_add,Nat.add_zero];done) | (simp;done) | (push_cast;omega))))
 refine wp_loopJ (fun μ a w=>∃ (k : Nat) (G : Gh),μ = k ∧ (k ≤ max l.length q.length) ∧ (val (l.drop k) = val (q.drop k)) ∧  St W0 G0 30 [(5,IT (((k : Nat) : Int) - ((1 : Nat) : Int))),(4,NT 0),(1,SL q),(0,SL l)] [] a w G) ((max l.length q.length)) ⟨(max l.length q.length),_,rfl,(Nat.le_refl _),(by rw [List.drop_of_length_le (by omega),List.drop_of_length_le (by omega)]),(S.keep [0,2,3,4]).keepB [] (by decide)⟩ ?_
 clear S
 intro μ a w ⟨k,G,hm,hkm,he,S⟩
 refine wp_seq_k fun K hK=>?_
 refine wp_reg fun K hK=>?_
 refine S.m rfl (S.g 0 rfl) rfl fun a w G S=>?_
 refine S.s (OpR.igeq S.ok rfl (S.e 0 rfl) (rfl : _ = nv .i64 0) MT.self) rfl fun a w G S=>?_
 refine wn hK ?_;clear hK K
 replace S:=S.d1
 refine S.cond 0 rfl (fun hc1=>?_) (fun hc1=>?_)
 ·
  have hp2:=of_decide_eq_true hc1
  refine wp_skip ?_
  refine hK _ _ ?_;clear hK K
  refine wp_seq_k fun K hK=>?_
  refine wp_block ?_
  refine wp_reg fun K hK=>?_
  have hkk : ((k : Nat) : Int) - ((1 : Nat) : Int) = ((k - 1 : Nat) : Int):=by omega
  refine S.m rfl (S.g 4 rfl) rfl fun a w G S=>?_
  refine S.m rfl (S.g 2 rfl) rfl fun a w G S=>?_
  refine S.s (τ:=MT.ex (nv .u64 (dig l (k - 1)))) (OpR.call2 rfl c_107 (rat_ok S.ok (S.g 1 rfl) (iv_at (S.g 0 rfl) (by omega)))) rfl fun a w G S=>?_
  refine S.m rfl (S.g 6 rfl) rfl fun a w G S=>?_
  refine S.m rfl (S.g 5 rfl) rfl fun a w G S=>?_
  refine S.s (τ:=MT.ex (nv .u64 (dig q (k - 1)))) (OpR.call2 rfl c_107 (rat_ok S.ok (S.g 1 rfl) (iv_at (S.g 0 rfl) (by omega)))) rfl fun a w G S=>?_
  refine S.s (OpR.nneq S.ok rfl (S.e 3 rfl) (S.e 0 rfl) MT.self) rfl fun a w G S=>?_
  refine wn hK ?_;clear hK K
  replace S:=S.d6.d5.d4.d3.d2.d1
  refine S.cond 0 rfl (fun hc3=>?_) (fun hc3=>?_)
  ·
   have hp4:=of_decide_eq_true hc3
   refine wp_seq_k fun K hK=>?_
   refine wp_reg fun K hK=>?_
   refine S.m rfl (S.g 5 rfl) rfl fun a w G S=>?_
   refine S.m rfl (S.g 3 rfl) rfl fun a w G S=>?_
   refine S.s (τ:=MT.ex (nv .u64 (dig l (k - 1)))) (OpR.call2 rfl c_107 (rat_ok S.ok (S.g 1 rfl) (iv_at (S.g 0 rfl) (by omega)))) rfl fun a w G S=>?_
   refine S.m rfl (S.g 7 rfl) rfl fun a w G S=>?_
   refine S.m rfl (S.g 6 rfl) rfl fun a w G S=>?_
   refine S.s (τ:=MT.ex (nv .u64 (dig q (k - 1)))) (OpR.call2 rfl c_107 (rat_ok S.ok (S.g 1 rfl) (iv_at (S.g 0 rfl) (by omega)))) rfl fun a w G S=>?_
   refine S.s (OpR.nlss S.ok rfl (S.e 3 rfl) (S.e 0 rfl) MT.self) rfl fun a w G S=>?_
   refine wn hK ?_;clear hK K
   replace S:=S.d6.d5.d4.d3.d2.d1
   refine S.cond 0 rfl (fun hc5=>?_) (fun hc5=>?_)
   ·
    have hp6:=of_decide_eq_true hc5
    refine wp_reg fun K hK=>?_
    replace S:=S.d4
    refine S.s (τ:=IT (-1)) (OpR.asn S.ok rfl (rfl : _ = Value.int .i64 (-1))) rfl fun a w G S=>?_
    refine wn hK ?_;clear hK K
    exact wp_ret (then_ret (block_ret (then_ret (then_ret (block_ret (then_ret (S.retTmp rfl ((S.e 0 rfl).trans (iv_eq (cmp_of_lt (ltL_of_dig hwl (by omega) he ‹_›)))))))))))
   ·
    have hp7:=of_decide_eq_false hc5
    refine wp_skip ?_
    refine hK _ _ ?_;clear hK K
    refine wp_reg fun K hK=>?_
    replace S:=S.d4
    refine S.s (τ:=NT 1) (OpR.asn S.ok rfl (rfl : _ = nv .i64 1)) rfl fun a w G S=>?_
    refine wn hK ?_;clear hK K
    exact wp_ret (block_ret (then_ret (then_ret (block_ret (then_ret (S.retTmp rfl ((S.e 0 rfl).trans (iv_eq (cmp_of_gt (ltL_of_dig hwq (by omega) he.symm (by omega)))))))))))
  ·
   have hp8:=of_decide_eq_false hc3
   refine wp_skip ?_
   refine hK _ _ ?_;clear hK K
   refine wp_region_lit ?_
   refine S.m rfl (S.g 2 rfl) rfl fun a w G S=>?_
   refine S.s (τ:=IT ((((k : Nat) : Int) - ((1 : Nat) : Int)) - 1)) (OpR.isub S.ok rfl (S.e 0 rfl) (rfl : _ = nv .i64 1) (iw_i64 (by omega) (by omega))) rfl fun a w G S=>?_
   replace S:=S.d4
   refine S.q rfl (S.g 0 rfl) rfl fun a w G S=>?_
   refine wpList_nil ?_
   replace S:=S.d2.d1
   replace S:=S.also (t:=5) (τ:=IT ((((k - 1) : Nat) : Int) - ((1 : Nat) : Int))) ((S.e 0 rfl).trans (iv_eq (by first | rfl | omega | (simp only [Nat.zero_add,Nat.add_zero];done) | (simp;done) | (push_cast;omega))))
   exact ⟨(k - 1),(by omega),(k - 1),_,rfl,(by omega),(dropL_step (by omega) he ‹_›),(S.keep [0,4,5,6]).keepB [] (by decide)⟩
 ·
  have hp9:=of_decide_eq_false hc1
  refine wp_exit (then_exit (then_exit (exit_same ?_)))
  clear hK K
  refine hK _ _ ?_;clear hK K
  refine wp_reg fun K hK=>?_
  replace S:=S.d2
  refine S.s (τ:=NT 0) (OpR.asn S.ok rfl (rfl : _ = nv .i64 0)) rfl fun a w G S=>?_
  refine wn hK ?_;clear hK K
  exact wp_ret (S.retTmp rfl ((S.e 0 rfl).trans (iv_eq (cmp_of_eq (eqL_of_drop (by omega) he)))))
end Go.Proofs.YtjphllpnhjemjaaGreat
namespace Go.Proofs.YtjphllpnhjemjaaGreat
set_option maxHeartbeats 1000000
set_option maxRecDepth 100000
open Go.RowKit (Below)
theorem rtakeO_ok {nn nu : Nat} {us vs : List Nat} {v1 v2 : Value} {ws : World} {Gs : Gh} {W0 : World} {G0 : Gh} {bu : Nat} {Br : List BX} (S0 : St W0 G0 0 [] (⟨bu,94,some (nu),MT.ex (Value.agg (ucells us).toArray)⟩ :: Br) ⟨#[],[]⟩ ws Gs) (h1 : (MT.ex (Value.slice (some ⟨bu,0,none⟩) (nn) (nu))).t v1 Gs) (h2 : (SL vs).t v2 Gs) (husl : us.length = nu) (husw : wfl us) (hnn : nn ≤ nu) (hnu : nn ≤ LIM) : Calls Tryz.prog 89 #[v1,v2] ws (RetM W0 G0 Gs (⟨bu,94,some (nu),MT.ex (Value.agg (ucells us).toArray)⟩ :: Br) 0 bu 94 (nu) (fun v l=>wfl l ∧ ∃ c,c ≤ 1 ∧ val (l.take nn) + val (vs.take nn) = val (us.take nn) + 4294967296 ^ nn * c)):=by
 have hwf:=SL.wf h2
 simp only [LIM] at hnu
 refine St.enterM (N:=31) (L:=[(1,SL vs),(0,MT.ex (Value.slice (some ⟨bu,0,none⟩) (nn) (nu)))]) (args:=[v1,v2]) S0 Tryz.func89 rfl rfl rfl (enter2 h1 h2) fun a S=>?_
 replace S:=S.also (t:=9999) (τ:=GLE Gs) (Gle.refl Gs)
 refine wp_reg fun K hK=>?_
 refine S.s (τ:=MT.ex (nv .u64 (0))) (OpR.asn S.ok rfl (rfl : _ = nv .u64 0)) rfl fun a w G S=>?_
 refine wn hK ?_;clear hK K
 refine wp_reg fun K hK=>?_
 refine S.m rfl (S.g 3 rfl) rfl fun a w G S=>?_
 refine S.s (OpR.lenA S.ok rfl Tryz.underlying23 (S.e 0 rfl) MT.self) rfl fun a w G S=>?_
 refine S.s (τ:=NT 0) (OpR.mv S.ok rfl (rfl : _ = nv .i64 0)) rfl fun a w G S=>?_
 refine wn hK ?_;clear hK K
 replace S:=S.d2
 refine wp_block ?_
 refine wp_loopJ (fun μ a w=>∃ (k : Nat) (c : Nat) (l : List Nat) (G : Gh),μ = nn - k ∧ (k ≤ nn) ∧ (c ≤ 1) ∧ (l.length = nu) ∧ (wfl l) ∧ (l.drop k = us.drop k) ∧ (val (l.take k) + val (vs.take k) = val (us.take k) + 4294967296 ^ k * c) ∧  St W0 G0 31 [(9,NT k),(8,NT nn),(4,MT.ex (nv .u64 (c))),(9999,GLE Gs),(1,SL vs),(0,MT.ex (Value.slice (some ⟨bu,0,none⟩) (nn) (nu)))] (⟨bu,94,some (nu),MT.ex (Value.agg (ucells (l)).toArray)⟩ :: Br) a w G) (nn - 0) ⟨0,0,us,_,rfl,(by omega),(by omega),husl,husw,rfl,(by simp [val]),S.keep [0,1,2,3,4,5]⟩ ?_
 clear S
 intro μ a w ⟨k,c,l,G,hm,hk,hc,hl,hw,hB,hv,S⟩
 have hdv:=dig_lt hwf k
 have hdl:=dig_lt (hw.take nn) k
 have hdq:=dig_lt hw k
 refine wp_reg fun K hK=>?_
 refine S.s (OpR.nlss S.ok rfl (S.e 0 rfl) (S.e 1 rfl) MT.self) rfl fun a w G S=>?_
 refine wn hK ?_;clear hK K
 refine wp_seq_k fun K hK=>?_
 refine S.cond 0 rfl (fun hc1=>?_) (fun hc1=>?_)
 ·
  have hp2:=of_decide_eq_true hc1
  refine wp_skip ?_
  refine hK _ _ ?_;clear hK K
  refine wp_seq_k fun K hK=>?_
  refine wp_block ?_
  refine wp_reg fun K hK=>?_
  refine S.m rfl (S.g 1 rfl) rfl fun a w G S=>?_
  refine S.q rfl (S.g 0 rfl) rfl fun a w G S=>?_
  refine wn hK ?_;clear hK K
  replace S:=S.d1
  refine wp_reg fun K hK=>?_
  refine S.m rfl (S.g 7 rfl) rfl fun a w G S=>?_
  refine S.m rfl (S.g 1 rfl) rfl fun a w G S=>?_
  refine S.s (τ:=MT.ex (nv .u64 (dig (l.take (nn)) k))) (OpR.lendP (n:=nn) (c:=nu) (q:=l) S.ok rfl c_107 (S.box 0 rfl) (by omega) (by omega) (by simp only [LIM];omega) (by assumption) fun G1 hle hok1 hsl=>(rat_ok hok1 (of_val (S.e 1 rfl) hsl) ((NT k).mono hle (S.g 0 rfl)))) rfl fun a w G S=>?_
  refine S.s (OpR.nadd S.ok rfl (rfl : _ = nv .u64 4294967296) (S.e 0 rfl) (wr_u64 (by omega)) MT.self) rfl fun a w G S=>?_
  refine S.m rfl (S.g 10 rfl) rfl fun a w G S=>?_
  refine S.m rfl (S.g 5 rfl) rfl fun a w G S=>?_
  refine S.s (τ:=MT.ex (nv .u64 (dig vs k))) (OpR.call2 rfl c_107 (rat_ok S.ok (S.g 1 rfl) (S.g 0 rfl))) rfl fun a w G S=>?_
  refine S.s (OpR.nsub S.ok rfl (S.e 3 rfl) (S.e 0 rfl) (by omega) (wr_u64 (by omega)) MT.self) rfl fun a w G S=>?_
  refine S.m rfl (S.g 12 rfl) rfl fun a w G S=>?_
  refine S.s (OpR.nsub S.ok rfl (S.e 1 rfl) (S.e 0 rfl) (by omega) (wr_u64 (by omega)) MT.self) rfl fun a w G S=>?_
  refine S.q rfl (S.g 0 rfl) rfl fun a w G S=>?_
  refine wn hK ?_;clear hK K
  replace S:=S.d10.d9.d8.d7.d6.d5.d4.d3.d2.d1
  refine wp_region_lit ?_
  refine S.m rfl (S.g 8 rfl) rfl fun a w G S=>?_
  refine S.m rfl (S.g 2 rfl) rfl fun a w G S=>?_
  refine S.m rfl (S.g 2 rfl) rfl fun a w G S=>?_
  refine S.s (OpR.nconv32 S.ok rfl (S.e 0 rfl) it_105 it_94 MT.self) rfl fun a w G S=>?_
  refine S.m rfl (S.g 4 rfl) rfl fun a w G S=>?_
  refine S.s (OpR.nshr S.ok rfl (S.e 0 rfl) (rfl : _ = nv .u64 32) (by decide) MT.self) rfl fun a w G S=>?_
  refine S.s (OpR.nsub S.ok rfl (rfl : _ = nv .u64 1) (S.e 0 rfl) (by omega) (wr_u64 (by omega)) MT.self) rfl fun a w G S=>?_
  refine S.s (τ:=MT.ex (Value.pointer (some ⟨bu,k,none⟩))) (OpR.ixA (i:=k) S.ok rfl Tryz.underlying23 tS_94 (S.e 6 rfl) (S.e 5 rfl) rfl (by first | omega | (simp;omega)) (ptr_eq (by simp only [Option.getD_none] <;> omega))) rfl fun a w G S=>?_
  refine S.setElem 0 (z:=(((4294967296 + (dig (l.take (nn)) k)) - (dig vs k)) - c) % 4294967296) rfl rfl rfl rfl (S.e 0 rfl) tS_94 (S.e 4 rfl) rfl (by first | omega | (simp;omega)) fun w S=>?_
  replace S:=S.n0
  replace S:=S.d13
  refine S.q rfl (S.g 1 rfl) rfl fun a w G S=>?_
  refine wpList_nil ?_
  replace S:=S.d9.d8.d7.d6.d5.d4.d3.d2.d1
  refine hK _ _ ?_;clear hK K
  refine wp_region_lit ?_
  refine S.s (OpR.nadd S.ok rfl (S.e 3 rfl) (rfl : _ = nv .i64 1) (wr_i64 (by omega)) MT.self) rfl fun a w G S=>?_
  replace S:=S.d4
  refine S.m rfl (S.g 0 rfl) rfl fun a w G S=>?_
  refine wpList_nil ?_
  replace S:=S.d1
  replace S:=S.also (t:=4) (τ:=MT.ex (nv .u64 ((1 - ((((4294967296 + (dig (l.take (nn)) k)) - (dig vs k)) - c) / 2 ^ 32))))) ((S.e 1 rfl).trans (nv_eq (by first | rfl | omega | (simp only [Nat.zero_add,Nat.add_zero];done) | (simp;done) | (push_cast;omega))))
  replace S:=S.castBox (τ':=MT.ex (Value.agg (ucells ((l.set (k) ((((4294967296 + (dig (l.take (nn)) k)) - (dig vs k)) - c) % 4294967296)))).toArray)) 0 rfl fun _ h _=>Eq.trans h (congrArg (fun l=>Value.agg (ucells l).toArray) (by simp))
  replace S:=S.n0
  exact ⟨nn - (k + 1),(by omega),k + 1,1 - ((((4294967296 + (dig (l.take (nn)) k)) - (dig vs k)) - c) / 2 ^ 32),l.set (k) ((((4294967296 + (dig (l.take (nn)) k)) - (dig vs k)) - c) % 4294967296),_,rfl,(by omega),(by omega),(by simpa using hl),(hw.set (Nat.mod_lt _ (by decide))),(by rw [drop_set_far (by omega)];exact drop_eq_succ hB),(takeO_step (by omega) ‹_› hdq hdv hc hB hv),S.keep [1,5,0,6,7,8]⟩
 ·
  have hp3:=of_decide_eq_false hc1
  refine wp_exit (then_exit (then_exit (exit_same ?_)))
  clear hK K
  exact ret_of_normal (S.retM0 rfl ⟨hw,c,hc,takeO_end ‹_› hk hv⟩ hl (S.g 4 rfl))
end Go.Proofs.YtjphllpnhjemjaaGreat
namespace Go.Proofs.YtjphllpnhjemjaaGreat
set_option maxHeartbeats 1000000
set_option maxRecDepth 100000
open Go.RowKit (Below)
private theorem c_87 : callable Tryz.prog 87 = true:=by kernel_rfl
private theorem c_88 : callable Tryz.prog 88 = true:=by kernel_rfl
private theorem c_89 : callable Tryz.prog 89 = true:=by kernel_rfl
private theorem c_91 : callable Tryz.prog 91 = true:=by kernel_rfl
theorem rgcd_ok {na nb x y : Nat} {v1 v2 : Value} {W0 : World} {G0 : Gh} (hok : Gok W0 G0) (h1 : (SN na x).t v1 G0) (h2 : (SN nb y).t v2 G0) (hna : na ≤ BIG) (hnb : nb ≤ BIG) : Calls Tryz.prog 63 #[v1,v2] W0 (Ret W0 G0 (SN (max na nb) (Nat.gcd x y))):=by
 have hx:=SN.lt h1
 have hy:=SN.lt h2
 have hxM : x < 2 ^ max na nb:=Nat.lt_of_lt_of_le hx (Nat.pow_le_pow_right (by decide) (by omega))
 have hyM : y < 2 ^ max na nb:=Nat.lt_of_lt_of_le hy (Nat.pow_le_pow_right (by decide) (by omega))
 have hMB : max na nb ≤ BIG:=by omega
 generalize max na nb = M at *
 have hMI:=hMB
 simp only [BIG] at hMI
 clear hna hnb
 refine St.enter (N:=72) (L:=[(1,SN nb y),(0,SN na x)]) (args:=[v1,v2]) Tryz.func63 rfl rfl rfl hok (enter2 h1 h2) fun a S=>?_
 refine wp_reg fun K hK=>?_
 refine S.s (τ:=MT.ex (Value.slice none 0 0)) (OpR.asn S.ok rfl rfl) rfl fun a w G S=>?_
 refine wn hK ?_;clear hK K
 refine wp_reg fun K hK=>?_
 refine S.m rfl (S.g 2 rfl) rfl fun a w G S=>?_
 refine S.stepO rfl rfl rfl c_86 (rtrimO_ok S.ok (SN.toSL (S.g 0 rfl))) rfl rfl fun b7 n7 c7 q7 a w G hqq7 hR S=>?_
 rw [val_words] at hR
 have hX : ROW n7 c7 q7 x M:=ROW.mk hqq7 hR.2.1 hR.1 hR.2.2 hMB hxM
 refine S.m rfl (S.g 3 rfl) rfl fun a w G S=>?_
 refine S.stepO rfl rfl rfl c_86 (rtrimO_ok S.ok (SN.toSL (S.g 0 rfl))) rfl rfl fun b9 n9 c9 q9 a w G hqq9 hR S=>?_
 rw [val_words] at hR
 have hY : ROW n9 c9 q9 y M:=ROW.mk hqq9 hR.2.1 hR.1 hR.2.2 hMB hyM
 replace S:=S.d6
 refine S.q rfl (S.g 2 rfl) rfl fun a w G S=>?_
 replace S:=S.d6
 refine S.q rfl (S.g 1 rfl) rfl fun a w G S=>?_
 refine wn hK ?_;clear hK K
 replace S:=S.d5.d4.d3.d2
 refine wp_seq_k fun K hK=>?_
 refine wp_reg fun K hK=>?_
 refine S.m rfl (S.g 1 rfl) rfl fun a w G S=>?_
 refine S.s (OpR.lenA S.ok rfl Tryz.underlying23 (S.e 0 rfl) MT.self) rfl fun a w G S=>?_
 refine S.s (OpR.neql S.ok rfl (S.e 0 rfl) (rfl : _ = nv .i64 0) MT.self) rfl fun a w G S=>?_
 refine wn hK ?_;clear hK K
 replace S:=S.d2.d1
 refine S.cond 0 rfl (fun hc1=>?_) (fun hc1=>?_)
 ·
  have hp2:=of_decide_eq_true hc1
  have hx0:=hX.zero hp2
  refine wp_reg fun K hK=>?_
  obtain ⟨vz3,Gz3,hz3,hs3,hg3,hle3,S⟩:=S.freeze 0 rfl
  have hsl3:=SL_prefix hz3 hg3 (by rw [hY.len];exact hY.le) hY.le hY.lim hY.wf (rfl : _ = Value.slice (some ⟨b9,0,none⟩) (n9) (c9))
  replace S:=S.also (t:=1) (τ:=SN M y) ((S.e 1 rfl).symm ▸ (SL.toSN hsl3 hY.eq hyM))
  replace S : St W0 G0 72 [(1,SN M y),(12,BT (decide (n7 = 0))),(0,MT.ex (Value.slice (some ⟨b7,0,none⟩) (n7) (c7))),(4,MT.ex (Value.slice none 0 0))] [⟨b7,94,some (c7),MT.ex (Value.agg (ucells (q7)).toArray)⟩] a _ _:=S.keep [0,1,3,4]
  refine S.m rfl (S.g 0 rfl) rfl fun a w G S=>?_
  replace S:=S.d4
  refine S.q rfl (S.g 0 rfl) rfl fun a w G S=>?_
  refine wn hK ?_;clear hK K
  replace S:=S.d1
  exact wp_ret (then_ret (S.retTmp rfl (SN.eq (SN.up (S.g 0 rfl) (by omega)) (by rw [hx0,Nat.gcd_zero_left]))))
 ·
  have hp4:=of_decide_eq_false hc1
  have hx0:=hX.nz hp4
  refine wp_skip ?_
  refine hK _ _ ?_;clear hK K
  refine wp_seq_k fun K hK=>?_
  refine wp_reg fun K hK=>?_
  refine S.m rfl (S.g 1 rfl) rfl fun a w G S=>?_
  refine S.s (OpR.lenA S.ok rfl Tryz.underlying23 (S.e 0 rfl) MT.self) rfl fun a w G S=>?_
  refine S.s (OpR.neql S.ok rfl (S.e 0 rfl) (rfl : _ = nv .i64 0) MT.self) rfl fun a w G S=>?_
  refine wn hK ?_;clear hK K
  replace S:=S.d2.d1
  refine S.cond 0 rfl (fun hc5=>?_) (fun hc5=>?_)
  ·
   have hp6:=of_decide_eq_true hc5
   have hy0:=hY.zero hp6
   refine wp_reg fun K hK=>?_
   obtain ⟨vz7,Gz7,hz7,hs7,hg7,hle7,S⟩:=S.freeze 1 rfl
   have hsl7:=SL_prefix hz7 hg7 (by rw [hX.len];exact hX.le) hX.le hX.lim hX.wf (rfl : _ = Value.slice (some ⟨b7,0,none⟩) (n7) (c7))
   replace S:=S.also (t:=0) (τ:=SN M x) ((S.e 3 rfl).symm ▸ (SL.toSN hsl7 hX.eq hxM))
   replace S : St W0 G0 72 [(0,SN M x),(16,BT (decide (n9 = 0))),(12,BT (decide (n7 = 0))),(1,MT.ex (Value.slice (some ⟨b9,0,none⟩) (n9) (c9))),(4,MT.ex (Value.slice none 0 0))] [⟨b9,94,some (c9),MT.ex (Value.agg (ucells (q9)).toArray)⟩] a _ _:=S.keep [0,1,2,3,5]
   refine S.m rfl (S.g 0 rfl) rfl fun a w G S=>?_
   replace S:=S.d5
   refine S.q rfl (S.g 0 rfl) rfl fun a w G S=>?_
   refine wn hK ?_;clear hK K
   replace S:=S.d1
   exact wp_ret (then_ret (S.retTmp rfl (SN.eq (SN.up (S.g 0 rfl) (by omega)) (by rw [hy0,Nat.gcd_zero_right]))))
  ·
   have hp8:=of_decide_eq_false hc5
   have hy0:=hY.nz hp8
   refine wp_skip ?_
   refine hK _ _ ?_;clear hK K
   refine wp_reg fun K hK=>?_
   refine S.s (τ:=NT 0) (OpR.asn S.ok rfl (rfl : _ = nv .i64 0)) rfl fun a w G S=>?_
   refine wn hK ?_;clear hK K
   refine wp_seq_k fun K hK=>?_
   refine wp_block ?_
   refine wp_loopJ (fun μ a w=>∃ (bxA : Nat) (nA : Nat) (cA : Nat) (qA : List Nat) (zA : Nat) (bxB : Nat) (nB : Nat) (cB : Nat) (qB : List Nat) (zB : Nat) (k : Nat) (G : Gh),μ = zA ∧ (ROW nA cA qA zA M) ∧ (ROW nB cB qB zB M) ∧ (zA ≠ 0) ∧ (zB ≠ 0) ∧ (zA * 2 ^ k = x) ∧ (zB * 2 ^ k = y) ∧  St W0 G0 72 [(5,NT k),(16,BT (decide (n9 = 0))),(12,BT (decide (n7 = 0))),(1,MT.ex (Value.slice (some ⟨bxB,0,none⟩) (nB) (cB))),(0,MT.ex (Value.slice (some ⟨bxA,0,none⟩) (nA) (cA))),(4,MT.ex (Value.slice none 0 0))] [⟨bxB,94,some (cB),MT.ex (Value.agg (ucells (qB)).toArray)⟩,⟨bxA,94,some (cA),MT.ex (Value.agg (ucells (qA)).toArray)⟩] a w G) (x) ⟨b7,n7,c7,q7,x,b9,n9,c9,q9,y,0,_,rfl,hX,hY,hx0,hy0,(by simp),(by simp),(S.keep [0,1,2,3,4,5]).keepB [0,1] (by decide)⟩ ?_
   clear S
   intro μ a w ⟨bxA,nA,cA,qA,zA,bxB,nB,cB,qB,zB,k,G,hm,hA,hB,hA0,hB0,hax,hby,S⟩
   refine wp_seq_k fun K hK=>?_
   refine wp_reg fun K hK=>?_
   have hpA:=hA.pos hA0
   have hpB:=hB.pos hB0
   have hdA:=hA.odd hpA
   have hdB:=hB.odd hpB
   have hkM:=pow_lt_of hA0 hax hxM
   have hdqA:=dig_lt hA.wf 0
   have hdqB:=dig_lt hB.wf 0
   have hlA:=hA.len
   have hlB:=hB.len
   have hcA:=hA.le
   have hcB:=hB.le
   refine S.m rfl (S.g 4 rfl) rfl fun a w G S=>?_
   refine S.s (τ:=PB bxA) (OpR.ixA (i:=0) S.ok rfl Tryz.underlying23 tS_94 (S.e 0 rfl) (rfl : _ = nv .i64 0) rfl (by first | omega | (simp;omega)) (ptr_eq (by simp only [Option.getD_none] <;> omega))) rfl fun a w G S=>?_
   refine S.s (OpR.ldElem S.ok rfl (S.e 0 rfl) (S.box 1 rfl) tS_94 (dig_get (by first | omega | (simp;omega)))) rfl fun a w G S=>?_
   refine S.s (OpR.nand1 S.ok rfl (S.e 0 rfl) (rfl : _ = nv .u32 1) (by omega) MT.self) rfl fun a w G S=>?_
   refine S.s (OpR.neql S.ok rfl (S.e 0 rfl) (rfl : _ = nv .u32 0) MT.self) rfl fun a w G S=>?_
   refine S.m rfl (S.g 0 rfl) rfl fun a w G S=>?_
   rcases Bool.eq_false_or_eq_true (decide (((dig (qA) (0)) % 2) = 0)) with hc9 | hc9
   ·
    have hp10:=of_decide_eq_true hc9
    replace S:=S.boolIs 0 rfl hc9
    refine S.stepG 0 (OpR.mv S.ok rfl (S.g 10 rfl)) rfl rfl rfl rfl rfl rfl fun a w G S=>?_
    refine S.stepG (τ:=PB bxB) 1 (OpR.ixA (i:=0) S.ok rfl Tryz.underlying23 tS_94 (S.e 0 rfl) (rfl : _ = nv .i64 0) rfl (by first | omega | (simp;omega)) (ptr_eq (by simp only [Option.getD_none] <;> omega))) rfl rfl rfl rfl rfl rfl fun a w G S=>?_
    refine S.stepG 2 (OpR.ldElem S.ok rfl (S.e 0 rfl) (S.box 0 rfl) tS_94 (dig_get (by first | omega | (simp;omega)))) rfl rfl rfl rfl rfl rfl fun a w G S=>?_
    refine S.stepG 3 (OpR.nand1 S.ok rfl (S.e 0 rfl) (rfl : _ = nv .u32 1) (by omega) MT.self) rfl rfl rfl rfl rfl rfl fun a w G S=>?_
    refine S.stepG 4 (OpR.neql S.ok rfl (S.e 0 rfl) (rfl : _ = nv .u32 0) MT.self) rfl rfl rfl rfl rfl rfl fun a w G S=>?_
    refine S.s (τ:=BT (decide (((dig (qB) (0)) % 2) = 0))) (OpR.pick S.ok rfl (S.e 5 rfl) (S.g 0 rfl)) rfl fun a w G S=>?_
    refine wn hK ?_;clear hK K
    replace S:=S.d12.d11.d10.d9.d8.d7.d6.d5.d4.d3.d2.d1
    refine S.cond 0 rfl (fun hc11=>?_) (fun hc11=>?_)
    ·
     have hp12:=of_decide_eq_true hc11
     refine wp_skip ?_
     refine hK _ _ ?_;clear hK K
     refine wp_block ?_
     refine wp_reg fun K hK=>?_
     refine S.m rfl (S.g 5 rfl) rfl fun a w G S=>?_
     replace S : St W0 G0 72 [(30,MT.ex (Value.slice (some ⟨bxA,0,none⟩) (nA) (cA))),(29,BT (decide (((dig (qB) (0)) % 2) = 0))),(5,NT k),(16,BT (decide (n9 = 0))),(12,BT (decide (n7 = 0))),(1,MT.ex (Value.slice (some ⟨bxB,0,none⟩) (nB) (cB))),(0,MT.ex (Value.slice (some ⟨bxA,0,none⟩) (nA) (cA))),(4,MT.ex (Value.slice none 0 0))] [⟨bxA,94,some (cA),MT.ex (Value.agg (ucells (qA)).toArray)⟩,⟨bxB,94,some (cB),MT.ex (Value.agg (ucells (qB)).toArray)⟩] a _ _:=S.keepB [1,0] (by decide)
     refine S.stepM1 0 rfl rfl rfl c_87 (rhalve_ok S.world (S.g 0 rfl) hA.len hA.wf hA.le hA.lim) rfl rfl fun vR lR a w G hR hlR S=>?_
     obtain ⟨hRw,j31,hRj,rfl,hRe⟩:=hR
     have hA2:=hA.half hlR hRw hRj hRe hMB
     generalize lR = q31 at *
     refine S.m rfl (S.g 6 rfl) rfl fun a w G S=>?_
     replace S : St W0 G0 72 [(32,MT.ex (Value.slice (some ⟨bxB,0,none⟩) (nB) (cB))),(31,MT.ex (Value.slice (some ⟨bxA,0,none⟩) (j31) (cA))),(30,MT.ex (Value.slice (some ⟨bxA,0,none⟩) (nA) (cA))),(29,BT (decide (((dig (qB) (0)) % 2) = 0))),(5,NT k),(16,BT (decide (n9 = 0))),(12,BT (decide (n7 = 0))),(1,MT.ex (Value.slice (some ⟨bxB,0,none⟩) (nB) (cB))),(0,MT.ex (Value.slice (some ⟨bxA,0,none⟩) (nA) (cA))),(4,MT.ex (Value.slice none 0 0))] [⟨bxB,94,some (cB),MT.ex (Value.agg (ucells (qB)).toArray)⟩,⟨bxA,94,some (cA),MT.ex (Value.agg (ucells (q31)).toArray)⟩] a _ _:=S.keepB [1,0] (by decide)
     refine S.stepM1 0 rfl rfl rfl c_87 (rhalve_ok S.world (S.g 0 rfl) hB.len hB.wf hB.le hB.lim) rfl rfl fun vR lR a w G hR hlR S=>?_
     obtain ⟨hRw,j33,hRj,rfl,hRe⟩:=hR
     have hB2:=hB.half hlR hRw hRj hRe hMB
     generalize lR = q33 at *
     have hgb:=gcd_both (by omega) (by omega) hax hby
     replace S:=S.d9
     refine S.q rfl (S.g 2 rfl) rfl fun a w G S=>?_
     replace S:=S.d9
     refine S.q rfl (S.g 1 rfl) rfl fun a w G S=>?_
     refine wn hK ?_;clear hK K
     replace S:=S.d5.d4.d3.d2
     refine wp_region_lit ?_
     refine S.m rfl (S.g 3 rfl) rfl fun a w G S=>?_
     refine S.s (OpR.nadd S.ok rfl (S.e 0 rfl) (rfl : _ = nv .i64 1) (wr_i64 (by omega)) MT.self) rfl fun a w G S=>?_
     replace S:=S.d5
     refine S.q rfl (S.g 0 rfl) rfl fun a w G S=>?_
     refine wpList_nil ?_
     replace S:=S.d2.d1
     exact ⟨(zA / 2),(by omega),bxA,j31,cA,q31,(zA / 2),bxB,j33,cB,q33,(zB / 2),k + 1,_,rfl,hA2,hB2,(by omega),(by omega),hgb.1,hgb.2,(S.keep [0,4,5,1,2,6]).keepB [0,1] (by decide)⟩
    ·
     have hp13:=of_decide_eq_false hc11
     refine wp_exit (then_exit (then_exit (exit_same ?_)))
     clear hK K
     refine hK _ _ ?_;clear hK K
     refine wp_seq_k fun K hK=>?_
     refine wp_block ?_
     have hgo : Nat.gcd zA zB % 2 = 1:=gcd_odd (by omega)
     refine wp_loopJ (fun μ a w=>∃ (bxP : Nat) (nP : Nat) (cP : Nat) (qP : List Nat) (zP : Nat) (bxR : Nat) (nR : Nat) (cR : Nat) (qR : List Nat) (zR : Nat) (G : Gh),μ = zP + zR ∧ (ROW nP cP qP zP M) ∧ (ROW nR cR qR zR M) ∧ (zR ≠ 0) ∧ (Nat.gcd zP zR = Nat.gcd zA zB) ∧  St W0 G0 72 [(29,BT (decide (((dig (qB) (0)) % 2) = 0))),(5,NT k),(16,BT (decide (n9 = 0))),(12,BT (decide (n7 = 0))),(1,MT.ex (Value.slice (some ⟨bxR,0,none⟩) (nR) (cR))),(0,MT.ex (Value.slice (some ⟨bxP,0,none⟩) (nP) (cP))),(4,MT.ex (Value.slice none 0 0))] [⟨bxR,94,some (cR),MT.ex (Value.agg (ucells (qR)).toArray)⟩,⟨bxP,94,some (cP),MT.ex (Value.agg (ucells (qP)).toArray)⟩] a w G) (zA + zB) ⟨bxA,nA,cA,qA,zA,bxB,nB,cB,qB,zB,_,rfl,hA,hB,hB0,rfl,(S.keep [0,1,2,3,4,5,6]).keepB [0,1] (by decide)⟩ ?_
     clear S
     intro μ a w ⟨bxP,nP,cP,qP,zP,bxR,nR,cR,qR,zR,G,hm,hP_,hR_,hR0,hg,S⟩
     refine wp_seq_k fun K hK=>?_
     refine wp_reg fun K hK=>?_
     refine S.m rfl (S.g 5 rfl) rfl fun a w G S=>?_
     refine S.s (OpR.lenA S.ok rfl Tryz.underlying23 (S.e 0 rfl) MT.self) rfl fun a w G S=>?_
     refine S.s (OpR.ngtr S.ok rfl (S.e 0 rfl) (rfl : _ = nv .i64 0) MT.self) rfl fun a w G S=>?_
     refine wn hK ?_;clear hK K
     replace S:=S.d2.d1
     refine S.cond 0 rfl (fun hc14=>?_) (fun hc14=>?_)
     ·
      have hp15:=of_decide_eq_true hc14
      have hP0:=hP_.nz (by omega)
      refine wp_skip ?_
      refine hK _ _ ?_;clear hK K
      refine wp_block ?_
      refine wp_seq_k fun K hK=>?_
      refine wp_block ?_
      refine wp_loopJ (fun μ a w=>∃ (nE : Nat) (qE : List Nat) (zE : Nat) (G : Gh),μ = zE ∧ (ROW nE cP qE zE M) ∧ (zE ≠ 0) ∧ (Nat.gcd zE zR = Nat.gcd zA zB) ∧ (zE ≤ zP) ∧  St W0 G0 72 [(38,BT (decide (0 < nP))),(29,BT (decide (((dig (qB) (0)) % 2) = 0))),(5,NT k),(16,BT (decide (n9 = 0))),(12,BT (decide (n7 = 0))),(1,MT.ex (Value.slice (some ⟨bxR,0,none⟩) (nR) (cR))),(0,MT.ex (Value.slice (some ⟨bxP,0,none⟩) (nE) (cP))),(4,MT.ex (Value.slice none 0 0))] [⟨bxR,94,some (cR),MT.ex (Value.agg (ucells (qR)).toArray)⟩,⟨bxP,94,some (cP),MT.ex (Value.agg (ucells (qE)).toArray)⟩] a w G) (zP) ⟨nP,qP,zP,_,rfl,hP_,hP0,hg,(by omega),(S.keep [0,1,2,3,4,5,6,7]).keepB [0,1] (by decide)⟩ ?_
      clear S
      intro μ a w ⟨nE,qE,zE,G,hm,hE,hE0,hgE,hEP,S⟩
      refine wp_seq_k fun K hK=>?_
      refine wp_reg fun K hK=>?_
      have hpE:=hE.pos hE0
      have hdE:=hE.odd hpE
      have hdqE:=dig_lt hE.wf 0
      have hlE:=hE.len
      have hcE:=hE.le
      refine S.m rfl (S.g 6 rfl) rfl fun a w G S=>?_
      refine S.s (τ:=PB bxP) (OpR.ixA (i:=0) S.ok rfl Tryz.underlying23 tS_94 (S.e 0 rfl) (rfl : _ = nv .i64 0) rfl (by first | omega | (simp;omega)) (ptr_eq (by simp only [Option.getD_none] <;> omega))) rfl fun a w G S=>?_
      refine S.s (OpR.ldElem S.ok rfl (S.e 0 rfl) (S.box 1 rfl) tS_94 (dig_get (by first | omega | (simp;omega)))) rfl fun a w G S=>?_
      refine S.s (OpR.nand1 S.ok rfl (S.e 0 rfl) (rfl : _ = nv .u32 1) (by omega) MT.self) rfl fun a w G S=>?_
      refine S.s (OpR.neql S.ok rfl (S.e 0 rfl) (rfl : _ = nv .u32 0) MT.self) rfl fun a w G S=>?_
      refine wn hK ?_;clear hK K
      replace S:=S.d4.d3.d2.d1
      refine S.cond 0 rfl (fun hc16=>?_) (fun hc16=>?_)
      ·
       have hp17:=of_decide_eq_true hc16
       refine wp_skip ?_
       refine hK _ _ ?_;clear hK K
       refine wp_block ?_
       refine wp_region_lit ?_
       refine S.m rfl (S.g 7 rfl) rfl fun a w G S=>?_
       replace S : St W0 G0 72 [(44,MT.ex (Value.slice (some ⟨bxP,0,none⟩) (nE) (cP))),(43,BT (decide (((dig (qE) (0)) % 2) = 0))),(38,BT (decide (0 < nP))),(29,BT (decide (((dig (qB) (0)) % 2) = 0))),(5,NT k),(16,BT (decide (n9 = 0))),(12,BT (decide (n7 = 0))),(1,MT.ex (Value.slice (some ⟨bxR,0,none⟩) (nR) (cR))),(0,MT.ex (Value.slice (some ⟨bxP,0,none⟩) (nE) (cP))),(4,MT.ex (Value.slice none 0 0))] [⟨bxP,94,some (cP),MT.ex (Value.agg (ucells (qE)).toArray)⟩,⟨bxR,94,some (cR),MT.ex (Value.agg (ucells (qR)).toArray)⟩] a _ _:=S.keepB [1,0] (by decide)
       refine S.stepM1 0 rfl rfl rfl c_87 (rhalve_ok S.world (S.g 0 rfl) hE.len hE.wf hE.le hE.lim) rfl rfl fun vR lR a w G hR hlR S=>?_
       obtain ⟨hRw,j45,hRj,rfl,hRe⟩:=hR
       have hE2:=hE.half hlR hRw hRj hRe hMB
       generalize lR = q45 at *
       replace S:=S.d9
       refine S.q rfl (S.g 0 rfl) rfl fun a w G S=>?_
       refine wpList_nil ?_
       replace S:=S.d2.d1
       exact ⟨(zE / 2),(by omega),j45,q45,(zE / 2),_,rfl,hE2,(by omega),(gcd_half (by omega) hgE hgo),(by omega),(S.keep [2,3,4,5,6,7,0,8]).keepB [1,0] (by decide)⟩
      ·
       have hp18:=of_decide_eq_false hc16
       refine wp_exit (then_exit (then_exit (exit_same ?_)))
       clear hK K
       refine hK _ _ ?_;clear hK K
       refine wp_seq_k fun K hK=>?_
       refine wp_block ?_
       refine wp_loopJ (fun μ a w=>∃ (nF : Nat) (qF : List Nat) (zF : Nat) (G : Gh),μ = zF ∧ (ROW nF cR qF zF M) ∧ (zF ≠ 0) ∧ (Nat.gcd zE zF = Nat.gcd zA zB) ∧ (zF ≤ zR) ∧  St W0 G0 72 [(43,BT (decide (((dig (qE) (0)) % 2) = 0))),(38,BT (decide (0 < nP))),(29,BT (decide (((dig (qB) (0)) % 2) = 0))),(5,NT k),(16,BT (decide (n9 = 0))),(12,BT (decide (n7 = 0))),(1,MT.ex (Value.slice (some ⟨bxR,0,none⟩) (nF) (cR))),(0,MT.ex (Value.slice (some ⟨bxP,0,none⟩) (nE) (cP))),(4,MT.ex (Value.slice none 0 0))] [⟨bxR,94,some (cR),MT.ex (Value.agg (ucells (qF)).toArray)⟩,⟨bxP,94,some (cP),MT.ex (Value.agg (ucells (qE)).toArray)⟩] a w G) (zR) ⟨nR,qR,zR,_,rfl,hR_,hR0,hgE,(by omega),(S.keep [0,1,2,3,4,5,6,7,8]).keepB [0,1] (by decide)⟩ ?_
       clear S
       intro μ a w ⟨nF,qF,zF,G,hm,hF,hF0,hgF,hFR,S⟩
       refine wp_seq_k fun K hK=>?_
       refine wp_reg fun K hK=>?_
       have hpF:=hF.pos hF0
       have hdF:=hF.odd hpF
       have hdqF:=dig_lt hF.wf 0
       have hlF:=hF.len
       have hcF:=hF.le
       refine S.m rfl (S.g 6 rfl) rfl fun a w G S=>?_
       refine S.s (τ:=PB bxR) (OpR.ixA (i:=0) S.ok rfl Tryz.underlying23 tS_94 (S.e 0 rfl) (rfl : _ = nv .i64 0) rfl (by first | omega | (simp;omega)) (ptr_eq (by simp only [Option.getD_none] <;> omega))) rfl fun a w G S=>?_
       refine S.s (OpR.ldElem S.ok rfl (S.e 0 rfl) (S.box 0 rfl) tS_94 (dig_get (by first | omega | (simp;omega)))) rfl fun a w G S=>?_
       refine S.s (OpR.nand1 S.ok rfl (S.e 0 rfl) (rfl : _ = nv .u32 1) (by omega) MT.self) rfl fun a w G S=>?_
       refine S.s (OpR.neql S.ok rfl (S.e 0 rfl) (rfl : _ = nv .u32 0) MT.self) rfl fun a w G S=>?_
       refine wn hK ?_;clear hK K
       replace S:=S.d4.d3.d2.d1
       refine S.cond 0 rfl (fun hc19=>?_) (fun hc19=>?_)
       ·
        have hp20:=of_decide_eq_true hc19
        refine wp_skip ?_
        refine hK _ _ ?_;clear hK K
        refine wp_block ?_
        refine wp_region_lit ?_
        refine S.m rfl (S.g 7 rfl) rfl fun a w G S=>?_
        refine S.stepM1 0 rfl rfl rfl c_87 (rhalve_ok S.world (S.g 0 rfl) hF.len hF.wf hF.le hF.lim) rfl rfl fun vR lR a w G hR hlR S=>?_
        obtain ⟨hRw,j52,hRj,rfl,hRe⟩:=hR
        have hF2:=hF.half hlR hRw hRj hRe hMB
        generalize lR = q52 at *
        replace S:=S.d9
        refine S.q rfl (S.g 0 rfl) rfl fun a w G S=>?_
        refine wpList_nil ?_
        replace S:=S.d2.d1
        exact ⟨(zF / 2),(by omega),j52,q52,(zF / 2),_,rfl,hF2,(by omega),(gcd_half' (by omega) hgF hgo),(by omega),(S.keep [2,3,4,5,6,7,0,8,9]).keepB [0,1] (by decide)⟩
       ·
        have hp21:=of_decide_eq_false hc19
        refine wp_exit (then_exit (then_exit (exit_same ?_)))
        clear hK K
        refine hK _ _ ?_;clear hK K
        refine wp_seq_k fun K hK=>?_
        refine wp_reg fun K hK=>?_
        have hE1:=hE.len
        have hE2:=hE.le
        have hE3:=hE.lim
        have hE4:=hE.wf
        have hF1:=hF.len
        have hF2:=hF.le
        have hF3:=hF.lim
        have hF4:=hF.wf
        simp only [LIM] at hE3 hF3
        refine S.m rfl (S.g 8 rfl) rfl fun a w G S=>?_
        refine S.m rfl (S.g 8 rfl) rfl fun a w G S=>?_
        refine S.s (τ:=IT (cmpN (val (qE.take (nE))) (val (qF.take (nF))))) (OpR.lendPP S rfl c_88 (i:=1) (j:=0) rfl rfl (by decide) (S.e 1 rfl) (S.e 0 rfl) (by omega) (by omega) (by simp only [LIM];omega) (by assumption) (by omega) (by omega) (by simp only [LIM];omega) (by assumption) fun G1 hok1 hsl1 hsl2=>(rcompareL_ok hok1 hsl1 hsl2 )) rfl fun a w G S=>?_
        refine S.s (OpR.ilss S.ok rfl (S.e 0 rfl) (rfl : _ = nv .i64 0) MT.self) rfl fun a w G S=>?_
        refine wn hK ?_;clear hK K
        replace S:=S.d3.d2.d1
        refine S.cond 0 rfl (fun hc22=>?_) (fun hc22=>?_)
        ·
         have hp23:=of_decide_eq_true hc22
         rw [hE.val,hF.val] at hp23
         have hlt : zE < zF:=cmpN_neg.1 hp23
         refine wp_region_lit ?_
         refine S.m rfl (S.g 8 rfl) rfl fun a w G S=>?_
         refine S.m rfl (S.g 10 rfl) rfl fun a w G S=>?_
         replace S:=S.d11
         refine S.q rfl (S.g 1 rfl) rfl fun a w G S=>?_
         replace S:=S.d11
         refine S.q rfl (S.g 1 rfl) rfl fun a w G S=>?_
         refine wpList_nil ?_
         replace S:=S.d3.d2
         refine hK _ _ ?_;clear hK K
         refine wp_reg fun K hK=>?_
         refine S.m rfl (S.g 1 rfl) rfl fun a w G S=>?_
         refine S.m rfl (S.g 1 rfl) rfl fun a w G S=>?_
         refine S.stepML rfl rfl rfl c_89 (S.e 0 rfl) (by rw [hE.len];exact hE.le) hE.le hE.lim hE.wf (fun G1 hleG SW hsl=>rtakeO_ok SW ((MT.ex (Value.slice (some ⟨bxR,0,none⟩) (nF) (cR))).mono hleG (S.g 1 rfl)) hsl hF.len hF.wf hF.le hF.lim) rfl rfl fun vR lR a w G hR hlR S=>?_
         obtain ⟨hTw,cT,hcT,hTv⟩:=hR
         have hT:=take_ge (by rw [List.length_take];omega) hTw hF.val (take_take_words hE.eq (by rw [hE.cnt,hF.cnt];exact words_len_mono (Nat.le_of_lt_succ (by omega)))) (by omega) hcT hTv
         refine wn hK ?_;clear hK K
         replace S:=S.d2.d1.d0
         refine wp_region_lit ?_
         refine S.m rfl (S.g 1 rfl) rfl fun a w G S=>?_
         refine S.stepM1 0 rfl rfl rfl c_90 (rcutO_ok S.world (S.g 0 rfl) hlR hTw hF.le hF.lim) rfl rfl fun vC lC a w G hR hlC S=>?_
         obtain ⟨rfl,jC,hjC,rfl,hjv⟩:=hR
         rw [hT] at hjv
         have hN : ROW jC cR lC (zF - zE) M:=ROW.mk hlC (by have:=hF.le;omega) hTw hjv hMB (by have:=hF.lt;omega)
         replace S:=S.d3
         refine S.q rfl (S.g 0 rfl) rfl fun a w G S=>?_
         refine wpList_nil ?_
         replace S:=S.d2.d1
         exact ⟨(zF - zE) + zE,(by omega),bxR,jC,cR,lC,(zF - zE),bxP,nE,cP,qE,zE,_,rfl,hN,(by first | exact hF | exact hE),(by omega),(by first | exact gcd_minus hgF (by omega) | exact gcd_minus (by rw [Nat.gcd_comm];exact hgF) (by omega)),(S.keep [6,7,8,9,1,0,10]).keepB [1,0] (by decide)⟩
        ·
         have hp24:=of_decide_eq_false hc22
         rw [hE.val,hF.val] at hp24
         have hge : zF ≤ zE:=Nat.not_lt.1 fun h=>hp24 (cmpN_neg.2 h)
         refine wp_skip ?_
         refine hK _ _ ?_;clear hK K
         refine wp_reg fun K hK=>?_
         refine S.m rfl (S.g 9 rfl) rfl fun a w G S=>?_
         refine S.m rfl (S.g 9 rfl) rfl fun a w G S=>?_
         replace S : St W0 G0 72 [(60,MT.ex (Value.slice (some ⟨bxR,0,none⟩) (nF) (cR))),(59,MT.ex (Value.slice (some ⟨bxP,0,none⟩) (nE) (cP))),(56,BT (decide ((cmpN (val (qE.take (nE))) (val (qF.take (nF)))) < 0))),(50,BT (decide (((dig (qF) (0)) % 2) = 0))),(43,BT (decide (((dig (qE) (0)) % 2) = 0))),(38,BT (decide (0 < nP))),(29,BT (decide (((dig (qB) (0)) % 2) = 0))),(5,NT k),(16,BT (decide (n9 = 0))),(12,BT (decide (n7 = 0))),(1,MT.ex (Value.slice (some ⟨bxR,0,none⟩) (nF) (cR))),(0,MT.ex (Value.slice (some ⟨bxP,0,none⟩) (nE) (cP))),(4,MT.ex (Value.slice none 0 0))] [⟨bxP,94,some (cP),MT.ex (Value.agg (ucells (qE)).toArray)⟩,⟨bxR,94,some (cR),MT.ex (Value.agg (ucells (qF)).toArray)⟩] a _ _:=S.keepB [1,0] (by decide)
         refine S.stepML rfl rfl rfl c_89 (S.e 0 rfl) (by rw [hF.len];exact hF.le) hF.le hF.lim hF.wf (fun G1 hleG SW hsl=>rtakeO_ok SW ((MT.ex (Value.slice (some ⟨bxP,0,none⟩) (nE) (cP))).mono hleG (S.g 1 rfl)) hsl hE.len hE.wf hE.le hE.lim) rfl rfl fun vR lR a w G hR hlR S=>?_
         obtain ⟨hTw,cT,hcT,hTv⟩:=hR
         have hT:=take_ge (by rw [List.length_take];omega) hTw hE.val (take_take_words hF.eq (by rw [hF.cnt,hE.cnt];exact words_len_mono (Nat.le_of_lt_succ (by omega)))) (by omega) hcT hTv
         refine wn hK ?_;clear hK K
         replace S:=S.d2.d1.d0
         refine wp_region_lit ?_
         refine S.m rfl (S.g 9 rfl) rfl fun a w G S=>?_
         refine S.stepM1 0 rfl rfl rfl c_90 (rcutO_ok S.world (S.g 0 rfl) hlR hTw hE.le hE.lim) rfl rfl fun vC lC a w G hR hlC S=>?_
         obtain ⟨rfl,jC,hjC,rfl,hjv⟩:=hR
         rw [hT] at hjv
         have hN : ROW jC cP lC (zE - zF) M:=ROW.mk hlC (by have:=hE.le;omega) hTw hjv hMB (by have:=hE.lt;omega)
         replace S:=S.d11
         refine S.q rfl (S.g 0 rfl) rfl fun a w G S=>?_
         refine wpList_nil ?_
         replace S:=S.d2.d1
         exact ⟨(zE - zF) + zF,(by omega),bxP,jC,cP,lC,(zE - zF),bxR,nF,cR,qF,zF,_,rfl,hN,(by first | exact hF | exact hE),(by omega),(by first | exact gcd_minus hgF (by omega) | exact gcd_minus (by rw [Nat.gcd_comm];exact hgF) (by omega)),(S.keep [5,6,7,8,9,0,10]).keepB [1,0] (by decide)⟩
     ·
      have hp25:=of_decide_eq_false hc14
      have hP0:=hP_.zero (by omega)
      refine wp_exit (then_exit (then_exit (exit_same ?_)))
      clear hK K
      refine hK _ _ ?_;clear hK K
      refine wp_seq_k fun K hK=>?_
      refine wp_reg fun K hK=>?_
      obtain ⟨vz26,Gz26,hz26,hs26,hg26,hle26,S⟩:=S.freeze 0 rfl
      have hsl26:=SL_prefix hz26 hg26 (by rw [hR_.len];exact hR_.le) hR_.le hR_.lim hR_.wf (rfl : _ = Value.slice (some ⟨bxR,0,none⟩) (nR) (cR))
      replace S:=S.also (t:=1) (τ:=SN M zR) ((S.e 5 rfl).symm ▸ (SL.toSN hsl26 hR_.eq hR_.lt))
      replace S : St W0 G0 72 [(1,SN M zR),(38,BT (decide (0 < nP))),(29,BT (decide (((dig (qB) (0)) % 2) = 0))),(5,NT k),(16,BT (decide (n9 = 0))),(12,BT (decide (n7 = 0))),(0,MT.ex (Value.slice (some ⟨bxP,0,none⟩) (nP) (cP))),(4,MT.ex (Value.slice none 0 0))] [⟨bxP,94,some (cP),MT.ex (Value.agg (ucells (qP)).toArray)⟩] a _ _:=S.keep [0,1,2,3,4,5,7,8]
      have hkM:=pow_lt_of hA0 hax hxM
      have hsc : zR * 2 ^ k = Nat.gcd x y:=by rw [← gcd_scale hax hby,← hg,hP0,Nat.gcd_zero_left]
      have hgl : Nat.gcd x y < 2 ^ M:=gcd_lt_pow hx0 hxM
      refine S.m rfl (S.g 3 rfl) rfl fun a w G S=>?_
      refine S.s (τ:=NT 0) (OpR.mv S.ok rfl (rfl : _ = nv .i64 0)) rfl fun a w G S=>?_
      refine wn hK ?_;clear hK K
      refine wp_block ?_
      refine wp_loopJ (fun μ a w=>∃ (i : Nat) (zz : Nat) (G : Gh),μ = k - i ∧ (i ≤ k) ∧ (zz = zR * 2 ^ i) ∧  St W0 G0 72 [(65,NT i),(64,NT k),(1,SN M zz),(38,BT (decide (0 < nP))),(29,BT (decide (((dig (qB) (0)) % 2) = 0))),(5,NT k),(16,BT (decide (n9 = 0))),(12,BT (decide (n7 = 0))),(0,MT.ex (Value.slice (some ⟨bxP,0,none⟩) (nP) (cP))),(4,MT.ex (Value.slice none 0 0))] [] a w G) (k - 0) ⟨0,zR,_,rfl,(by omega),(by simp),(S.keep [0,1,2,3,4,5,6,7,8,9]).keepB [] (by decide)⟩ ?_
      clear S
      intro μ a w ⟨i,zz,G,hm,hi,hzz,S⟩
      refine wp_reg fun K hK=>?_
      refine S.s (OpR.nlss S.ok rfl (S.e 0 rfl) (S.e 1 rfl) MT.self) rfl fun a w G S=>?_
      refine wn hK ?_;clear hK K
      refine wp_seq_k fun K hK=>?_
      refine S.cond 0 rfl (fun hc27=>?_) (fun hc27=>?_)
      ·
       have hp28:=of_decide_eq_true hc27
       refine wp_skip ?_
       refine hK _ _ ?_;clear hK K
       refine wp_seq_k fun K hK=>?_
       refine wp_block ?_
       refine wp_region_lit ?_
       have htw:=twos_lt hsc ‹i < k› hgl
       rw [← hzz] at htw
       refine S.m rfl (S.g 3 rfl) rfl fun a w G S=>?_
       refine S.m rfl (S.g 4 rfl) rfl fun a w G S=>?_
       refine S.s (τ:=SN M (zz + zz)) (OpR.conv' (OpR.call2 rfl c_91 (rplus_ok S.ok (S.g 1 rfl) (S.g 0 rfl) (by omega) (by omega))) fun _ _ h=>(SN.cast h rfl htw.2)) rfl fun a w G S=>?_
       replace S:=S.d6
       refine S.q rfl (S.g 0 rfl) rfl fun a w G S=>?_
       refine wpList_nil ?_
       replace S:=S.d3.d2.d1
       refine hK _ _ ?_;clear hK K
       refine wp_region_lit ?_
       refine S.s (OpR.nadd S.ok rfl (S.e 2 rfl) (rfl : _ = nv .i64 1) (wr_i64 (by omega)) MT.self) rfl fun a w G S=>?_
       replace S:=S.d3
       refine S.m rfl (S.g 0 rfl) rfl fun a w G S=>?_
       refine wpList_nil ?_
       replace S:=S.d1
       exact ⟨k - (i + 1),(by omega),i + 1,zz + zz,_,rfl,(by omega),htw.1,(S.keep [0,3,1,4,5,6,7,8,9,10]).keepB [] (by decide)⟩
      ·
       have hp29:=of_decide_eq_false hc27
       refine wp_exit (then_exit (then_exit (exit_same ?_)))
       clear hK K
       refine hK _ _ ?_;clear hK K
       refine wp_reg fun K hK=>?_
       refine S.m rfl (S.g 3 rfl) rfl fun a w G S=>?_
       replace S:=S.d11
       refine S.q rfl (S.g 0 rfl) rfl fun a w G S=>?_
       refine wn hK ?_;clear hK K
       replace S:=S.d1
       exact wp_ret (S.retTmp rfl (SN.eq (SN.up (S.g 0 rfl) (by omega)) (by rw [hzz,show i = k from by omega];exact hsc)))
   ·
    have hp30:=of_decide_eq_false hc9
    replace S:=S.boolIs 0 rfl hc9
    refine S.skipG 0 rfl rfl rfl rfl rfl rfl fun a w G S=>?_
    refine S.skipG 1 rfl rfl rfl rfl rfl rfl fun a w G S=>?_
    refine S.skipG 2 rfl rfl rfl rfl rfl rfl fun a w G S=>?_
    refine S.skipG 3 rfl rfl rfl rfl rfl rfl fun a w G S=>?_
    refine S.skipG 4 rfl rfl rfl rfl rfl rfl fun a w G S=>?_
    refine S.s (τ:=BT false) (OpR.pick S.ok rfl (S.e 5 rfl) rfl) rfl fun a w G S=>?_
    refine wn hK ?_;clear hK K
    replace S:=S.d12.d11.d10.d9.d8.d7.d6.d5.d4.d3.d2.d1
    refine wp_cond_false (S.e 0 rfl) ?_
    refine wp_exit (then_exit (then_exit (exit_same ?_)))
    clear hK K
    refine hK _ _ ?_;clear hK K
    refine wp_seq_k fun K hK=>?_
    refine wp_block ?_
    have hgo : Nat.gcd zA zB % 2 = 1:=gcd_odd (by omega)
    refine wp_loopJ (fun μ a w=>∃ (bxP : Nat) (nP : Nat) (cP : Nat) (qP : List Nat) (zP : Nat) (bxR : Nat) (nR : Nat) (cR : Nat) (qR : List Nat) (zR : Nat) (G : Gh),μ = zP + zR ∧ (ROW nP cP qP zP M) ∧ (ROW nR cR qR zR M) ∧ (zR ≠ 0) ∧ (Nat.gcd zP zR = Nat.gcd zA zB) ∧  St W0 G0 72 [(29,BT false),(5,NT k),(16,BT (decide (n9 = 0))),(12,BT (decide (n7 = 0))),(1,MT.ex (Value.slice (some ⟨bxR,0,none⟩) (nR) (cR))),(0,MT.ex (Value.slice (some ⟨bxP,0,none⟩) (nP) (cP))),(4,MT.ex (Value.slice none 0 0))] [⟨bxR,94,some (cR),MT.ex (Value.agg (ucells (qR)).toArray)⟩,⟨bxP,94,some (cP),MT.ex (Value.agg (ucells (qP)).toArray)⟩] a w G) (zA + zB) ⟨bxA,nA,cA,qA,zA,bxB,nB,cB,qB,zB,_,rfl,hA,hB,hB0,rfl,(S.keep [0,1,2,3,4,5,6]).keepB [0,1] (by decide)⟩ ?_
    clear S
    intro μ a w ⟨bxP,nP,cP,qP,zP,bxR,nR,cR,qR,zR,G,hm,hP_,hR_,hR0,hg,S⟩
    refine wp_seq_k fun K hK=>?_
    refine wp_reg fun K hK=>?_
    refine S.m rfl (S.g 5 rfl) rfl fun a w G S=>?_
    refine S.s (OpR.lenA S.ok rfl Tryz.underlying23 (S.e 0 rfl) MT.self) rfl fun a w G S=>?_
    refine S.s (OpR.ngtr S.ok rfl (S.e 0 rfl) (rfl : _ = nv .i64 0) MT.self) rfl fun a w G S=>?_
    refine wn hK ?_;clear hK K
    replace S:=S.d2.d1
    refine S.cond 0 rfl (fun hc31=>?_) (fun hc31=>?_)
    ·
     have hp32:=of_decide_eq_true hc31
     have hP0:=hP_.nz (by omega)
     refine wp_skip ?_
     refine hK _ _ ?_;clear hK K
     refine wp_block ?_
     refine wp_seq_k fun K hK=>?_
     refine wp_block ?_
     refine wp_loopJ (fun μ a w=>∃ (nE : Nat) (qE : List Nat) (zE : Nat) (G : Gh),μ = zE ∧ (ROW nE cP qE zE M) ∧ (zE ≠ 0) ∧ (Nat.gcd zE zR = Nat.gcd zA zB) ∧ (zE ≤ zP) ∧  St W0 G0 72 [(38,BT (decide (0 < nP))),(29,BT false),(5,NT k),(16,BT (decide (n9 = 0))),(12,BT (decide (n7 = 0))),(1,MT.ex (Value.slice (some ⟨bxR,0,none⟩) (nR) (cR))),(0,MT.ex (Value.slice (some ⟨bxP,0,none⟩) (nE) (cP))),(4,MT.ex (Value.slice none 0 0))] [⟨bxR,94,some (cR),MT.ex (Value.agg (ucells (qR)).toArray)⟩,⟨bxP,94,some (cP),MT.ex (Value.agg (ucells (qE)).toArray)⟩] a w G) (zP) ⟨nP,qP,zP,_,rfl,hP_,hP0,hg,(by omega),(S.keep [0,1,2,3,4,5,6,7]).keepB [0,1] (by decide)⟩ ?_
     clear S
     intro μ a w ⟨nE,qE,zE,G,hm,hE,hE0,hgE,hEP,S⟩
     refine wp_seq_k fun K hK=>?_
     refine wp_reg fun K hK=>?_
     have hpE:=hE.pos hE0
     have hdE:=hE.odd hpE
     have hdqE:=dig_lt hE.wf 0
     have hlE:=hE.len
     have hcE:=hE.le
     refine S.m rfl (S.g 6 rfl) rfl fun a w G S=>?_
     refine S.s (τ:=PB bxP) (OpR.ixA (i:=0) S.ok rfl Tryz.underlying23 tS_94 (S.e 0 rfl) (rfl : _ = nv .i64 0) rfl (by first | omega | (simp;omega)) (ptr_eq (by simp only [Option.getD_none] <;> omega))) rfl fun a w G S=>?_
     refine S.s (OpR.ldElem S.ok rfl (S.e 0 rfl) (S.box 1 rfl) tS_94 (dig_get (by first | omega | (simp;omega)))) rfl fun a w G S=>?_
     refine S.s (OpR.nand1 S.ok rfl (S.e 0 rfl) (rfl : _ = nv .u32 1) (by omega) MT.self) rfl fun a w G S=>?_
     refine S.s (OpR.neql S.ok rfl (S.e 0 rfl) (rfl : _ = nv .u32 0) MT.self) rfl fun a w G S=>?_
     refine wn hK ?_;clear hK K
     replace S:=S.d4.d3.d2.d1
     refine S.cond 0 rfl (fun hc33=>?_) (fun hc33=>?_)
     ·
      have hp34:=of_decide_eq_true hc33
      refine wp_skip ?_
      refine hK _ _ ?_;clear hK K
      refine wp_block ?_
      refine wp_region_lit ?_
      refine S.m rfl (S.g 7 rfl) rfl fun a w G S=>?_
      replace S : St W0 G0 72 [(44,MT.ex (Value.slice (some ⟨bxP,0,none⟩) (nE) (cP))),(43,BT (decide (((dig (qE) (0)) % 2) = 0))),(38,BT (decide (0 < nP))),(29,BT false),(5,NT k),(16,BT (decide (n9 = 0))),(12,BT (decide (n7 = 0))),(1,MT.ex (Value.slice (some ⟨bxR,0,none⟩) (nR) (cR))),(0,MT.ex (Value.slice (some ⟨bxP,0,none⟩) (nE) (cP))),(4,MT.ex (Value.slice none 0 0))] [⟨bxP,94,some (cP),MT.ex (Value.agg (ucells (qE)).toArray)⟩,⟨bxR,94,some (cR),MT.ex (Value.agg (ucells (qR)).toArray)⟩] a _ _:=S.keepB [1,0] (by decide)
      refine S.stepM1 0 rfl rfl rfl c_87 (rhalve_ok S.world (S.g 0 rfl) hE.len hE.wf hE.le hE.lim) rfl rfl fun vR lR a w G hR hlR S=>?_
      obtain ⟨hRw,j45,hRj,rfl,hRe⟩:=hR
      have hE2:=hE.half hlR hRw hRj hRe hMB
      generalize lR = q45 at *
      replace S:=S.d9
      refine S.q rfl (S.g 0 rfl) rfl fun a w G S=>?_
      refine wpList_nil ?_
      replace S:=S.d2.d1
      exact ⟨(zE / 2),(by omega),j45,q45,(zE / 2),_,rfl,hE2,(by omega),(gcd_half (by omega) hgE hgo),(by omega),(S.keep [2,3,4,5,6,7,0,8]).keepB [1,0] (by decide)⟩
     ·
      have hp35:=of_decide_eq_false hc33
      refine wp_exit (then_exit (then_exit (exit_same ?_)))
      clear hK K
      refine hK _ _ ?_;clear hK K
      refine wp_seq_k fun K hK=>?_
      refine wp_block ?_
      refine wp_loopJ (fun μ a w=>∃ (nF : Nat) (qF : List Nat) (zF : Nat) (G : Gh),μ = zF ∧ (ROW nF cR qF zF M) ∧ (zF ≠ 0) ∧ (Nat.gcd zE zF = Nat.gcd zA zB) ∧ (zF ≤ zR) ∧  St W0 G0 72 [(43,BT (decide (((dig (qE) (0)) % 2) = 0))),(38,BT (decide (0 < nP))),(29,BT false),(5,NT k),(16,BT (decide (n9 = 0))),(12,BT (decide (n7 = 0))),(1,MT.ex (Value.slice (some ⟨bxR,0,none⟩) (nF) (cR))),(0,MT.ex (Value.slice (some ⟨bxP,0,none⟩) (nE) (cP))),(4,MT.ex (Value.slice none 0 0))] [⟨bxR,94,some (cR),MT.ex (Value.agg (ucells (qF)).toArray)⟩,⟨bxP,94,some (cP),MT.ex (Value.agg (ucells (qE)).toArray)⟩] a w G) (zR) ⟨nR,qR,zR,_,rfl,hR_,hR0,hgE,(by omega),(S.keep [0,1,2,3,4,5,6,7,8]).keepB [0,1] (by decide)⟩ ?_
      clear S
      intro μ a w ⟨nF,qF,zF,G,hm,hF,hF0,hgF,hFR,S⟩
      refine wp_seq_k fun K hK=>?_
      refine wp_reg fun K hK=>?_
      have hpF:=hF.pos hF0
      have hdF:=hF.odd hpF
      have hdqF:=dig_lt hF.wf 0
      have hlF:=hF.len
      have hcF:=hF.le
      refine S.m rfl (S.g 6 rfl) rfl fun a w G S=>?_
      refine S.s (τ:=PB bxR) (OpR.ixA (i:=0) S.ok rfl Tryz.underlying23 tS_94 (S.e 0 rfl) (rfl : _ = nv .i64 0) rfl (by first | omega | (simp;omega)) (ptr_eq (by simp only [Option.getD_none] <;> omega))) rfl fun a w G S=>?_
      refine S.s (OpR.ldElem S.ok rfl (S.e 0 rfl) (S.box 0 rfl) tS_94 (dig_get (by first | omega | (simp;omega)))) rfl fun a w G S=>?_
      refine S.s (OpR.nand1 S.ok rfl (S.e 0 rfl) (rfl : _ = nv .u32 1) (by omega) MT.self) rfl fun a w G S=>?_
      refine S.s (OpR.neql S.ok rfl (S.e 0 rfl) (rfl : _ = nv .u32 0) MT.self) rfl fun a w G S=>?_
      refine wn hK ?_;clear hK K
      replace S:=S.d4.d3.d2.d1
      refine S.cond 0 rfl (fun hc36=>?_) (fun hc36=>?_)
      ·
       have hp37:=of_decide_eq_true hc36
       refine wp_skip ?_
       refine hK _ _ ?_;clear hK K
       refine wp_block ?_
       refine wp_region_lit ?_
       refine S.m rfl (S.g 7 rfl) rfl fun a w G S=>?_
       refine S.stepM1 0 rfl rfl rfl c_87 (rhalve_ok S.world (S.g 0 rfl) hF.len hF.wf hF.le hF.lim) rfl rfl fun vR lR a w G hR hlR S=>?_
       obtain ⟨hRw,j52,hRj,rfl,hRe⟩:=hR
       have hF2:=hF.half hlR hRw hRj hRe hMB
       generalize lR = q52 at *
       replace S:=S.d9
       refine S.q rfl (S.g 0 rfl) rfl fun a w G S=>?_
       refine wpList_nil ?_
       replace S:=S.d2.d1
       exact ⟨(zF / 2),(by omega),j52,q52,(zF / 2),_,rfl,hF2,(by omega),(gcd_half' (by omega) hgF hgo),(by omega),(S.keep [2,3,4,5,6,7,0,8,9]).keepB [0,1] (by decide)⟩
      ·
       have hp38:=of_decide_eq_false hc36
       refine wp_exit (then_exit (then_exit (exit_same ?_)))
       clear hK K
       refine hK _ _ ?_;clear hK K
       refine wp_seq_k fun K hK=>?_
       refine wp_reg fun K hK=>?_
       have hE1:=hE.len
       have hE2:=hE.le
       have hE3:=hE.lim
       have hE4:=hE.wf
       have hF1:=hF.len
       have hF2:=hF.le
       have hF3:=hF.lim
       have hF4:=hF.wf
       simp only [LIM] at hE3 hF3
       refine S.m rfl (S.g 8 rfl) rfl fun a w G S=>?_
       refine S.m rfl (S.g 8 rfl) rfl fun a w G S=>?_
       refine S.s (τ:=IT (cmpN (val (qE.take (nE))) (val (qF.take (nF))))) (OpR.lendPP S rfl c_88 (i:=1) (j:=0) rfl rfl (by decide) (S.e 1 rfl) (S.e 0 rfl) (by omega) (by omega) (by simp only [LIM];omega) (by assumption) (by omega) (by omega) (by simp only [LIM];omega) (by assumption) fun G1 hok1 hsl1 hsl2=>(rcompareL_ok hok1 hsl1 hsl2 )) rfl fun a w G S=>?_
       refine S.s (OpR.ilss S.ok rfl (S.e 0 rfl) (rfl : _ = nv .i64 0) MT.self) rfl fun a w G S=>?_
       refine wn hK ?_;clear hK K
       replace S:=S.d3.d2.d1
       refine S.cond 0 rfl (fun hc39=>?_) (fun hc39=>?_)
       ·
        have hp40:=of_decide_eq_true hc39
        rw [hE.val,hF.val] at hp40
        have hlt : zE < zF:=cmpN_neg.1 hp40
        refine wp_region_lit ?_
        refine S.m rfl (S.g 8 rfl) rfl fun a w G S=>?_
        refine S.m rfl (S.g 10 rfl) rfl fun a w G S=>?_
        replace S:=S.d11
        refine S.q rfl (S.g 1 rfl) rfl fun a w G S=>?_
        replace S:=S.d11
        refine S.q rfl (S.g 1 rfl) rfl fun a w G S=>?_
        refine wpList_nil ?_
        replace S:=S.d3.d2
        refine hK _ _ ?_;clear hK K
        refine wp_reg fun K hK=>?_
        refine S.m rfl (S.g 1 rfl) rfl fun a w G S=>?_
        refine S.m rfl (S.g 1 rfl) rfl fun a w G S=>?_
        refine S.stepML rfl rfl rfl c_89 (S.e 0 rfl) (by rw [hE.len];exact hE.le) hE.le hE.lim hE.wf (fun G1 hleG SW hsl=>rtakeO_ok SW ((MT.ex (Value.slice (some ⟨bxR,0,none⟩) (nF) (cR))).mono hleG (S.g 1 rfl)) hsl hF.len hF.wf hF.le hF.lim) rfl rfl fun vR lR a w G hR hlR S=>?_
        obtain ⟨hTw,cT,hcT,hTv⟩:=hR
        have hT:=take_ge (by rw [List.length_take];omega) hTw hF.val (take_take_words hE.eq (by rw [hE.cnt,hF.cnt];exact words_len_mono (Nat.le_of_lt_succ (by omega)))) (by omega) hcT hTv
        refine wn hK ?_;clear hK K
        replace S:=S.d2.d1.d0
        refine wp_region_lit ?_
        refine S.m rfl (S.g 1 rfl) rfl fun a w G S=>?_
        refine S.stepM1 0 rfl rfl rfl c_90 (rcutO_ok S.world (S.g 0 rfl) hlR hTw hF.le hF.lim) rfl rfl fun vC lC a w G hR hlC S=>?_
        obtain ⟨rfl,jC,hjC,rfl,hjv⟩:=hR
        rw [hT] at hjv
        have hN : ROW jC cR lC (zF - zE) M:=ROW.mk hlC (by have:=hF.le;omega) hTw hjv hMB (by have:=hF.lt;omega)
        replace S:=S.d3
        refine S.q rfl (S.g 0 rfl) rfl fun a w G S=>?_
        refine wpList_nil ?_
        replace S:=S.d2.d1
        exact ⟨(zF - zE) + zE,(by omega),bxR,jC,cR,lC,(zF - zE),bxP,nE,cP,qE,zE,_,rfl,hN,(by first | exact hF | exact hE),(by omega),(by first | exact gcd_minus hgF (by omega) | exact gcd_minus (by rw [Nat.gcd_comm];exact hgF) (by omega)),(S.keep [6,7,8,9,1,0,10]).keepB [1,0] (by decide)⟩
       ·
        have hp41:=of_decide_eq_false hc39
        rw [hE.val,hF.val] at hp41
        have hge : zF ≤ zE:=Nat.not_lt.1 fun h=>hp41 (cmpN_neg.2 h)
        refine wp_skip ?_
        refine hK _ _ ?_;clear hK K
        refine wp_reg fun K hK=>?_
        refine S.m rfl (S.g 9 rfl) rfl fun a w G S=>?_
        refine S.m rfl (S.g 9 rfl) rfl fun a w G S=>?_
        replace S : St W0 G0 72 [(60,MT.ex (Value.slice (some ⟨bxR,0,none⟩) (nF) (cR))),(59,MT.ex (Value.slice (some ⟨bxP,0,none⟩) (nE) (cP))),(56,BT (decide ((cmpN (val (qE.take (nE))) (val (qF.take (nF)))) < 0))),(50,BT (decide (((dig (qF) (0)) % 2) = 0))),(43,BT (decide (((dig (qE) (0)) % 2) = 0))),(38,BT (decide (0 < nP))),(29,BT false),(5,NT k),(16,BT (decide (n9 = 0))),(12,BT (decide (n7 = 0))),(1,MT.ex (Value.slice (some ⟨bxR,0,none⟩) (nF) (cR))),(0,MT.ex (Value.slice (some ⟨bxP,0,none⟩) (nE) (cP))),(4,MT.ex (Value.slice none 0 0))] [⟨bxP,94,some (cP),MT.ex (Value.agg (ucells (qE)).toArray)⟩,⟨bxR,94,some (cR),MT.ex (Value.agg (ucells (qF)).toArray)⟩] a _ _:=S.keepB [1,0] (by decide)
        refine S.stepML rfl rfl rfl c_89 (S.e 0 rfl) (by rw [hF.len];exact hF.le) hF.le hF.lim hF.wf (fun G1 hleG SW hsl=>rtakeO_ok SW ((MT.ex (Value.slice (some ⟨bxP,0,none⟩) (nE) (cP))).mono hleG (S.g 1 rfl)) hsl hE.len hE.wf hE.le hE.lim) rfl rfl fun vR lR a w G hR hlR S=>?_
        obtain ⟨hTw,cT,hcT,hTv⟩:=hR
        have hT:=take_ge (by rw [List.length_take];omega) hTw hE.val (take_take_words hF.eq (by rw [hF.cnt,hE.cnt];exact words_len_mono (Nat.le_of_lt_succ (by omega)))) (by omega) hcT hTv
        refine wn hK ?_;clear hK K
        replace S:=S.d2.d1.d0
        refine wp_region_lit ?_
        refine S.m rfl (S.g 9 rfl) rfl fun a w G S=>?_
        refine S.stepM1 0 rfl rfl rfl c_90 (rcutO_ok S.world (S.g 0 rfl) hlR hTw hE.le hE.lim) rfl rfl fun vC lC a w G hR hlC S=>?_
        obtain ⟨rfl,jC,hjC,rfl,hjv⟩:=hR
        rw [hT] at hjv
        have hN : ROW jC cP lC (zE - zF) M:=ROW.mk hlC (by have:=hE.le;omega) hTw hjv hMB (by have:=hE.lt;omega)
        replace S:=S.d11
        refine S.q rfl (S.g 0 rfl) rfl fun a w G S=>?_
        refine wpList_nil ?_
        replace S:=S.d2.d1
        exact ⟨(zE - zF) + zF,(by omega),bxP,jC,cP,lC,(zE - zF),bxR,nF,cR,qF,zF,_,rfl,hN,(by first | exact hF | exact hE),(by omega),(by first | exact gcd_minus hgF (by omega) | exact gcd_minus (by rw [Nat.gcd_comm];exact hgF) (by omega)),(S.keep [5,6,7,8,9,0,10]).keepB [1,0] (by decide)⟩
    ·
     have hp42:=of_decide_eq_false hc31
     have hP0:=hP_.zero (by omega)
     refine wp_exit (then_exit (then_exit (exit_same ?_)))
     clear hK K
     refine hK _ _ ?_;clear hK K
     refine wp_seq_k fun K hK=>?_
     refine wp_reg fun K hK=>?_
     obtain ⟨vz43,Gz43,hz43,hs43,hg43,hle43,S⟩:=S.freeze 0 rfl
     have hsl43:=SL_prefix hz43 hg43 (by rw [hR_.len];exact hR_.le) hR_.le hR_.lim hR_.wf (rfl : _ = Value.slice (some ⟨bxR,0,none⟩) (nR) (cR))
     replace S:=S.also (t:=1) (τ:=SN M zR) ((S.e 5 rfl).symm ▸ (SL.toSN hsl43 hR_.eq hR_.lt))
     replace S : St W0 G0 72 [(1,SN M zR),(38,BT (decide (0 < nP))),(29,BT false),(5,NT k),(16,BT (decide (n9 = 0))),(12,BT (decide (n7 = 0))),(0,MT.ex (Value.slice (some ⟨bxP,0,none⟩) (nP) (cP))),(4,MT.ex (Value.slice none 0 0))] [⟨bxP,94,some (cP),MT.ex (Value.agg (ucells (qP)).toArray)⟩] a _ _:=S.keep [0,1,2,3,4,5,7,8]
     have hkM:=pow_lt_of hA0 hax hxM
     have hsc : zR * 2 ^ k = Nat.gcd x y:=by rw [← gcd_scale hax hby,← hg,hP0,Nat.gcd_zero_left]
     have hgl : Nat.gcd x y < 2 ^ M:=gcd_lt_pow hx0 hxM
     refine S.m rfl (S.g 3 rfl) rfl fun a w G S=>?_
     refine S.s (τ:=NT 0) (OpR.mv S.ok rfl (rfl : _ = nv .i64 0)) rfl fun a w G S=>?_
     refine wn hK ?_;clear hK K
     refine wp_block ?_
     refine wp_loopJ (fun μ a w=>∃ (i : Nat) (zz : Nat) (G : Gh),μ = k - i ∧ (i ≤ k) ∧ (zz = zR * 2 ^ i) ∧  St W0 G0 72 [(65,NT i),(64,NT k),(1,SN M zz),(38,BT (decide (0 < nP))),(29,BT false),(5,NT k),(16,BT (decide (n9 = 0))),(12,BT (decide (n7 = 0))),(0,MT.ex (Value.slice (some ⟨bxP,0,none⟩) (nP) (cP))),(4,MT.ex (Value.slice none 0 0))] [] a w G) (k - 0) ⟨0,zR,_,rfl,(by omega),(by simp),(S.keep [0,1,2,3,4,5,6,7,8,9]).keepB [] (by decide)⟩ ?_
     clear S
     intro μ a w ⟨i,zz,G,hm,hi,hzz,S⟩
     refine wp_reg fun K hK=>?_
     refine S.s (OpR.nlss S.ok rfl (S.e 0 rfl) (S.e 1 rfl) MT.self) rfl fun a w G S=>?_
     refine wn hK ?_;clear hK K
     refine wp_seq_k fun K hK=>?_
     refine S.cond 0 rfl (fun hc44=>?_) (fun hc44=>?_)
     ·
      have hp45:=of_decide_eq_true hc44
      refine wp_skip ?_
      refine hK _ _ ?_;clear hK K
      refine wp_seq_k fun K hK=>?_
      refine wp_block ?_
      refine wp_region_lit ?_
      have htw:=twos_lt hsc ‹i < k› hgl
      rw [← hzz] at htw
      refine S.m rfl (S.g 3 rfl) rfl fun a w G S=>?_
      refine S.m rfl (S.g 4 rfl) rfl fun a w G S=>?_
      refine S.s (τ:=SN M (zz + zz)) (OpR.conv' (OpR.call2 rfl c_91 (rplus_ok S.ok (S.g 1 rfl) (S.g 0 rfl) (by omega) (by omega))) fun _ _ h=>(SN.cast h rfl htw.2)) rfl fun a w G S=>?_
      replace S:=S.d6
      refine S.q rfl (S.g 0 rfl) rfl fun a w G S=>?_
      refine wpList_nil ?_
      replace S:=S.d3.d2.d1
      refine hK _ _ ?_;clear hK K
      refine wp_region_lit ?_
      refine S.s (OpR.nadd S.ok rfl (S.e 2 rfl) (rfl : _ = nv .i64 1) (wr_i64 (by omega)) MT.self) rfl fun a w G S=>?_
      replace S:=S.d3
      refine S.m rfl (S.g 0 rfl) rfl fun a w G S=>?_
      refine wpList_nil ?_
      replace S:=S.d1
      exact ⟨k - (i + 1),(by omega),i + 1,zz + zz,_,rfl,(by omega),htw.1,(S.keep [0,3,1,4,5,6,7,8,9,10]).keepB [] (by decide)⟩
     ·
      have hp46:=of_decide_eq_false hc44
      refine wp_exit (then_exit (then_exit (exit_same ?_)))
      clear hK K
      refine hK _ _ ?_;clear hK K
      refine wp_reg fun K hK=>?_
      refine S.m rfl (S.g 3 rfl) rfl fun a w G S=>?_
      replace S:=S.d11
      refine S.q rfl (S.g 0 rfl) rfl fun a w G S=>?_
      refine wn hK ?_;clear hK K
      replace S:=S.d1
      exact wp_ret (S.retTmp rfl (SN.eq (SN.up (S.g 0 rfl) (by omega)) (by rw [hzz,show i = k from by omega];exact hsc)))
end Go.Proofs.YtjphllpnhjemjaaGreat
namespace Go.Proofs.YtjphllpnhjemjaaGreat
open Go.RowKit (Below)
theorem blen_len (x : Nat) : blen x ≤ 32 * (words x).length:=by
  rcases Nat.eq_zero_or_pos x with h | h
  · subst h;simp [words_zero];rfl
  · have h1:=blen_words (x:=x) (by omega)
    have h2:=blen_le (n:=dig (words x) ((words x).length - 1)) (k:=32) (dig_lt (wfl_words x) _)
    have h3:=len_pos_iff.2 (show x ≠ 0 by omega)
    omega
theorem lt_two_blen (x : Nat) : x / 2 ^ blen x = 0:=Nat.div_eq_of_lt (lt_blen x)
theorem dig_val (l : List Nat) (i : Nat) (h : wfl l) : dig l i = val l / 4294967296 ^ i % 4294967296:=by
  induction l generalizing i with
  | nil=>simp [dig,val]
  | cons x r ih =>
    have hx:=h x (by simp)
    have hr : wfl r:=fun y hy=>h y (by simp [hy])
    cases i with
    | zero=>simp only [dig,val,Nat.pow_zero,Nat.div_one];simp;omega
    | succ i =>
      have e : dig (x :: r) (i + 1) = dig r i:=by simp [dig]
      rw [e,ih i hr]
      show _ = (x + 4294967296 * val r) / 4294967296 ^ (i + 1) % _
      rw [Nat.pow_succ,Nat.mul_comm (4294967296 ^ i),← Nat.div_div_eq_div_mul,Nat.add_mul_div_left _ _ (by decide),Nat.div_eq_of_lt hx,Nat.zero_add]
theorem pow32 (i : Nat) : 4294967296 ^ i = 2 ^ (32 * i):=by rw [Nat.pow_mul]
theorem bit_of (x i : Nat) : dig (words x) (i / 32) / 2 ^ (i % 32) % 2 = x / 2 ^ i % 2:=by
  rw [dig_val _ _ (wfl_words x),val_words,pow32]
  have e : i = 32 * (i / 32) + i % 32:=by omega
  generalize hq : i / 32 = q at *
  generalize hs : i % 32 = s at *
  have hs32 : s < 32:=by omega
  rw [e,Nat.pow_add,← Nat.div_div_eq_div_mul]
  generalize x / 2 ^ (32 * q) = z
  rw [show 4294967296 = 2 ^ s * 2 ^ (32 - s) from by rw [← Nat.pow_add,show s + (32 - s) = 32 from by omega],Nat.mod_mul_right_div_self,show 32 - s = (31 - s) + 1 from by omega,Nat.pow_succ,Nat.mul_comm (2 ^ (31 - s)) 2,Nat.mod_mul_right_mod]
theorem dbl_step {l r : List Nat} {j c bit : Nat} (h1 : j < l.length) (hd : l.drop j = r.drop j) (hc : c ≤ 1) (hw : wfl l) (h : val (l.take j) + 4294967296 ^ j * c = 2 * val (r.take j) + bit) :
    val ((l.set j (dig l j * 2 % 4294967296 + c)).take (j + 1)) + 4294967296 ^ (j + 1) * (dig l j / 2 ^ 31) = 2 * val (r.take (j + 1)) + bit:=by
  have e1:=val_take_dig (l.set j (dig l j * 2 % 4294967296 + c)) j
  have e2:=val_take_dig r j
  have e3 : (l.set j (dig l j * 2 % 4294967296 + c)).take j = l.take j:=by rw [List.take_set_of_le (Nat.le_refl _)]
  have e4 : dig (l.set j (dig l j * 2 % 4294967296 + c)) j = dig l j * 2 % 4294967296 + c:=by rw [dig_set h1,if_pos rfl]
  have e5 : dig r j = dig l j:=by
    have k1 : (l.drop j)[0]? = (r.drop j)[0]?:=by rw [hd]
    rw [List.getElem?_drop,List.getElem?_drop,Nat.add_zero] at k1
    unfold dig;rw [List.getD_eq_getElem?_getD,List.getD_eq_getElem?_getD,k1]
  rw [e1,e3,e4,e2,e5,Nat.pow_succ]
  have hl:=dig_lt hw j
  generalize dig l j = d at *
  generalize 4294967296 ^ j = B at *
  have e6 : d * 2 = d * 2 % 4294967296 + 4294967296 * (d / 2 ^ 31):=by omega
  generalize d * 2 % 4294967296 = p at *
  generalize d / 2 ^ 31 = s at *
  have e7 : 2 * (B * d) = B * p + B * 4294967296 * s:=by
    have : 2 * (B * d) = B * (d * 2):=by grind
    rw [this,e6];grind
  have e8 : B * (p + c) = B * p + B * c:=Nat.mul_add ..
  omega
theorem dbl_or {d c : Nat} (hc : c ≤ 1) : (d * 2 ^ 1 % 4294967296 ||| c) = d * 2 % 4294967296 + c:=by
  have e : d * 2 ^ 1 % 4294967296 = d % 2147483648 * 2 ^ 1:=by omega
  rw [e]
  generalize d % 2147483648 = m
  exact or_shift (by omega)
theorem dbl_aux {D E v r y c bit : Nat} (hE : D ≤ E) (hy : y < D) (hr : r < y) (hb : bit ≤ 1) (h : v + E * c = 2 * r + bit) (h2 : 2 * D ≤ E) : v = 2 * r + bit:=by
  rcases Nat.eq_zero_or_pos c with h0 | h0
  · rw [h0,Nat.mul_zero] at h;omega
  · have h1 : E ≤ E * c:=Nat.le_mul_of_pos_right _ h0
    generalize E * c = T at *
    omega
theorem dbl_aux2 (D : Nat) : 2 * D ≤ D * 4294967296:=by omega
theorem dbl_fin {l r : List Nat} {j c bit y n : Nat} (hl : l.length = n + 1) (hr : r.length = n + 1) (hj : j = n + 1) (hy : y < 4294967296 ^ n) (hry : val r < y) (hb : bit ≤ 1) (h : val (l.take j) + 4294967296 ^ j * c = 2 * val (r.take j) + bit) : val l = 2 * val r + bit:=by
  rw [hj,List.take_of_length_le (Nat.le_of_eq hl),List.take_of_length_le (Nat.le_of_eq hr),Nat.pow_succ] at h
  generalize 4294967296 ^ n = D at *
  have e:=dbl_aux2 D
  generalize D * 4294967296 = E at *
  exact dbl_aux (by omega) hy hry hb h e
theorem or_bit {d s : Nat} (h : d % 2 ^ (s + 1) = 0) : (d ||| 1 * 2 ^ s) = d + 2 ^ s:=by
  have e : d = 2 ^ (s + 1) * (d / 2 ^ (s + 1)):=by have:=Nat.div_add_mod d (2 ^ (s + 1));omega
  rw [Nat.one_mul,e,← Nat.two_pow_add_eq_or_of_lt (Nat.pow_lt_pow_right (by decide) (Nat.lt_succ_self s))]
theorem q_low {q : List Nat} {i z : Nat} (hw : wfl q) (h : val q = z * 2 ^ (i + 1)) : dig q (i / 32) % 2 ^ (i % 32 + 1) = 0 ∧ dig q (i / 32) + 2 ^ (i % 32) < 4294967296:=by
  have h1 : dig q (i / 32) % 2 ^ (i % 32 + 1) = 0:=by
    rw [dig_val _ _ hw,h,pow32]
    have e : i + 1 = 32 * (i / 32) + (i % 32 + 1):=by omega
    have hs32 : i % 32 < 32:=Nat.mod_lt _ (by decide)
    rw [e,Nat.pow_add,← Nat.mul_assoc,Nat.mul_comm z,Nat.mul_assoc,Nat.mul_div_cancel_left _ (Nat.pow_pos (by decide))]
    have e2 : 4294967296 = 2 ^ (i % 32 + 1) * 2 ^ (31 - i % 32):=by rw [← Nat.pow_add,show i % 32 + 1 + (31 - i % 32) = 32 from by omega]
    conv=>lhs;lhs;rw [e2]
    rw [Nat.mod_mul_right_mod,Nat.mul_mod_left]
  refine ⟨h1,?_⟩
  have h2:=dig_lt hw (i / 32)
  generalize dig q (i / 32) = d at *
  have hs32 : i % 32 < 32:=Nat.mod_lt _ (by decide)
  generalize i % 32 = s at *
  have e2 : 4294967296 = 2 ^ (s + 1) * 2 ^ (31 - s):=by rw [← Nat.pow_add,show s + 1 + (31 - s) = 32 from by omega]
  have e3 : d = 2 ^ (s + 1) * (d / 2 ^ (s + 1)):=by have:=Nat.div_add_mod d (2 ^ (s + 1));omega
  generalize d / 2 ^ (s + 1) = m at *
  rw [e3,e2] at h2
  have h3 : m < 2 ^ (31 - s):=Nat.lt_of_mul_lt_mul_left h2
  have h4 : 2 ^ (s + 1) * (m + 1) ≤ 2 ^ (s + 1) * 2 ^ (31 - s):=Nat.mul_le_mul_left _ h3
  rw [← e2,Nat.mul_add] at h4
  have h5 : 2 ^ s < 2 ^ (s + 1):=Nat.pow_lt_pow_right (by decide) (Nat.lt_succ_self s)
  omega
theorem val_setadd {l : List Nat} {i z : Nat} (h : i < l.length) : val (l.set i (dig l i + z)) = val l + 4294967296 ^ i * z:=by
  induction l generalizing i with
  | nil=>simp at h
  | cons x r ih =>
    cases i with
    | zero=>simp [dig,val];omega
    | succ i =>
      have e : dig (x :: r) (i + 1) = dig r i:=by simp [dig]
      rw [e]
      show x + 4294967296 * val (r.set i (dig r i + z)) = x + 4294967296 * val r + _
      rw [ih (by simpa using h),Nat.pow_succ];grind
theorem q_set {q : List Nat} {i Z : Nat} (h : i / 32 < q.length) (hv : val q = Z) : val (q.set (i / 32) (dig q (i / 32) + 2 ^ (i % 32))) = Z + 2 ^ i:=by
  rw [val_setadd h,hv,pow32,← Nat.pow_add,show 32 * (i / 32) + i % 32 = i from by omega]
theorem pow_next {x k : Nat} (hk : 1 ≤ k) : x / 2 ^ (k - 1) = 2 * (x / 2 ^ k) + x / 2 ^ (k - 1) % 2:=by
  have e : x / 2 ^ k = x / 2 ^ (k - 1) / 2:=by
    rw [Nat.div_div_eq_div_mul,← Nat.pow_succ,show (k - 1).succ = k from by omega]
  rw [e];omega
theorem dv_lt {x y k : Nat} (hk : 1 ≤ k) (h : 2 * (x / 2 ^ k % y) + x / 2 ^ (k - 1) % 2 < y) : x / 2 ^ (k - 1) % y = 2 * (x / 2 ^ k % y) + x / 2 ^ (k - 1) % 2 ∧ x / 2 ^ (k - 1) / y * 2 ^ (k - 1) = x / 2 ^ k / y * 2 ^ k:=by
  have e:=pow_next (x:=x) hk
  have e2:=Nat.div_add_mod (x / 2 ^ k) y
  have e3 : 2 ^ k = 2 * 2 ^ (k - 1):=by rw [Nat.mul_comm,← Nat.pow_succ,show (k - 1).succ = k from by omega]
  generalize x / 2 ^ (k - 1) % 2 = b at *
  generalize x / 2 ^ k % y = r at *
  generalize x / 2 ^ k / y = Q at *
  generalize x / 2 ^ k = X at *
  have e4 : x / 2 ^ (k - 1) = y * (2 * Q) + (2 * r + b):=by rw [e,← e2];grind
  rw [e4]
  refine ⟨by rw [Nat.mul_add_mod,Nat.mod_eq_of_lt h],?_⟩
  rw [Nat.mul_add_div (by omega),Nat.div_eq_of_lt h,e3];grind
theorem dv_ge {x y k : Nat} (hy : 0 < y) (hk : 1 ≤ k) (h : y ≤ 2 * (x / 2 ^ k % y) + x / 2 ^ (k - 1) % 2) : x / 2 ^ (k - 1) % y = 2 * (x / 2 ^ k % y) + x / 2 ^ (k - 1) % 2 - y ∧ x / 2 ^ (k - 1) / y * 2 ^ (k - 1) = x / 2 ^ k / y * 2 ^ k + 2 ^ (k - 1):=by
  have e:=pow_next (x:=x) hk
  have e2:=Nat.div_add_mod (x / 2 ^ k) y
  have hr:=Nat.mod_lt (x / 2 ^ k) hy
  have hb:=Nat.mod_lt (x / 2 ^ (k - 1)) (show 0 < 2 by decide)
  have e3 : 2 ^ k = 2 * 2 ^ (k - 1):=by rw [Nat.mul_comm,← Nat.pow_succ,show (k - 1).succ = k from by omega]
  generalize x / 2 ^ (k - 1) % 2 = b at *
  generalize x / 2 ^ k % y = r at *
  generalize x / 2 ^ k / y = Q at *
  generalize x / 2 ^ k = X at *
  have e4 : x / 2 ^ (k - 1) = y * (2 * Q + 1) + (2 * r + b - y):=by
    have h5 : y * (2 * Q + 1) = 2 * (y * Q) + y:=by grind
    rw [e,← e2,h5];omega
  have h2 : 2 * r + b - y < y:=by omega
  rw [e4]
  refine ⟨by rw [Nat.mul_add_mod,Nat.mod_eq_of_lt h2],?_⟩
  rw [Nat.mul_add_div (by omega),Nat.div_eq_of_lt h2,e3];grind
theorem pow32_lt {s : Nat} (h : s < 32) : 1 * 2 ^ s < 4294967296:=by
  rw [Nat.one_mul];exact Nat.lt_of_lt_of_le (Nat.pow_lt_pow_right (by decide) h) (by decide)
theorem sg_false {g : Nat} : sg false g = (g : Int):=rfl
theorem val_take_all {l : List Nat} {n : Nat} (h : l.length = n) : val (l.take n) = val l:=by rw [List.take_of_length_le (by omega)]
theorem take_words_all {y n : Nat} (h : (words y).length ≤ n) : val ((words y).take n) = y:=by rw [List.take_of_length_le h,val_words]
end Go.Proofs.YtjphllpnhjemjaaGreat
namespace Go.Proofs.YtjphllpnhjemjaaGreat
set_option maxHeartbeats 1000000
set_option maxRecDepth 100000
open Go.RowKit (Below)
private theorem c_115 : callable Tryz.prog 115 = true:=by kernel_rfl
theorem rdivide_ok {na nb x y : Nat} {v1 v2 : Value} {W0 : World} {G0 : Gh} (hok : Gok W0 G0) (h1 : (SN na x).t v1 G0) (h2 : (SN nb y).t v2 G0) (hy : y ≠ 0) (hna : na ≤ BIG) (hnb : nb ≤ BIG) : Calls Tryz.prog 102 #[v1,v2] W0 (Ret W0 G0 (MT.tup2 (SN na (x / y)) (SN nb (x % y)))):=by
 have hla:=words_length_bits (SN.lt h1)
 have hlb:=words_length_bits (SN.lt h2)
 simp only [BIG] at hna hnb
 have hdb : x / y < 2 ^ na:=div_lt_pow (SN.lt h1)
 have hmb : x % y < 2 ^ nb:=Nat.lt_trans (Nat.mod_lt _ (Nat.pos_of_ne_zero hy)) (SN.lt h2)
 have hbl:=blen_len x
 have hyL : y < 4294967296 ^ (words y).length:=by have:=val_lt (wfl_words y);rwa [val_words] at this
 have hyv:=val_words y
 refine St.enter (N:=76) (L:=[(1,SN nb y),(0,SN na x)]) (args:=[v1,v2]) Tryz.func102 rfl rfl rfl hok (enter2 h1 h2) fun a S=>?_
 refine wp_reg fun K hK=>?_
 refine S.s (τ:=MT.ex (Value.slice none 0 0)) (OpR.asn S.ok rfl rfl) rfl fun a w G S=>?_
 refine S.s (τ:=MT.ex (Value.slice none 0 0)) (OpR.asn S.ok rfl rfl) rfl fun a w G S=>?_
 refine wn hK ?_;clear hK K
 refine wp_reg fun K hK=>?_
 refine S.m rfl (S.g 3 rfl) rfl fun a w G S=>?_
 refine S.s (OpR.lenL S.ok rfl Tryz.underlying23 (SN.toSL (S.g 0 rfl)) MT.self) rfl fun a w G S=>?_
 refine S.mkSlice (n:=(words (x)).length) rfl rfl rfl Tryz.underlying23 el_94 (S.e 0 rfl) (S.e 0 rfl) rfl rfl (by omega) (by omega) rfl rfl fun b13 a w G S=>?_
 refine S.q rfl (S.g 0 rfl) rfl fun a w G S=>?_
 refine wn hK ?_;clear hK K
 replace S:=S.d3.d2.d1
 refine wp_reg fun K hK=>?_
 refine S.m rfl (S.g 3 rfl) rfl fun a w G S=>?_
 refine S.s (OpR.lenL S.ok rfl Tryz.underlying23 (SN.toSL (S.g 0 rfl)) MT.self) rfl fun a w G S=>?_
 refine S.s (OpR.nadd S.ok rfl (S.e 0 rfl) (rfl : _ = nv .i64 1) (wr_i64 (by omega)) MT.self) rfl fun a w G S=>?_
 refine S.mkSlice (n:=((words (y)).length) + 1) rfl rfl rfl Tryz.underlying23 el_94 (S.e 0 rfl) (S.e 0 rfl) rfl rfl (by omega) (by omega) rfl rfl fun b17 a w G S=>?_
 refine S.q rfl (S.g 0 rfl) rfl fun a w G S=>?_
 refine wn hK ?_;clear hK K
 replace S:=S.d4.d3.d2.d1
 refine wp_seq_k fun K hK=>?_
 refine wp_reg fun K hK=>?_
 refine S.m rfl (S.g 5 rfl) rfl fun a w G S=>?_
 refine S.s (τ:=NT (blen x)) (OpR.call1 rfl c_115 (rbits_ok S.ok (S.g 0 rfl))) rfl fun a w G S=>?_
 refine S.s (τ:=IT (((blen x : Nat) : Int) - ((1 : Nat) : Int))) (OpR.isub S.ok rfl (S.e 0 rfl) (rfl : _ = nv .i64 1) (iw_i64 (by omega) (by omega))) rfl fun a w G S=>?_
 refine S.q rfl (S.g 0 rfl) rfl fun a w G S=>?_
 refine wn hK ?_;clear hK K
 replace S:=S.d3.d2.d1
 refine wp_block ?_
 replace S:=S.also (t:=8) (τ:=IT ((((blen x) : Nat) : Int) - ((1 : Nat) : Int))) ((S.e 0 rfl).trans (iv_eq (by first | rfl | omega | (simp only [Nat.zero_add,Nat.add_zero];done) | (simp;done) | (push_cast;omega))))
 replace S:=S.castBox (τ':=MT.ex (Value.agg (ucells ((List.replicate (((words (y)).length) + 1) 0))).toArray)) 0 rfl fun _ h _=>Eq.trans h (congrArg (fun l=>Value.agg (ucells l).toArray) (by simp))
 replace S:=S.n0
 replace S:=S.castBox (τ':=MT.ex (Value.agg (ucells ((List.replicate ((words (x)).length) 0))).toArray)) 1 rfl fun _ h _=>Eq.trans h (congrArg (fun l=>Value.agg (ucells l).toArray) (by simp))
 replace S:=S.n1
 refine wp_loopJ (fun μ a w=>∃ (k : Nat) (q : List Nat) (r : List Nat) (G : Gh),μ = k ∧ (k ≤ blen x) ∧ (q.length = (words x).length) ∧ (wfl q) ∧ (r.length = (words y).length + 1) ∧ (wfl r) ∧ (val q = x / 2 ^ k / y * 2 ^ k) ∧ (val r = x / 2 ^ k % y) ∧  St W0 G0 76 [(8,IT (((k : Nat) : Int) - ((1 : Nat) : Int))),(7,MT.ex (Value.slice (some ⟨b17,0,none⟩) (((words (y)).length) + 1) (((words (y)).length) + 1))),(6,MT.ex (Value.slice (some ⟨b13,0,none⟩) ((words (x)).length) ((words (x)).length))),(5,MT.ex (Value.slice none 0 0)),(4,MT.ex (Value.slice none 0 0)),(1,SN nb y),(0,SN na x)] [⟨b17,94,some (((words (y)).length) + 1),MT.ex (Value.agg (ucells (r)).toArray)⟩,⟨b13,94,some ((words (x)).length),MT.ex (Value.agg (ucells (q)).toArray)⟩] a w G) ((blen x)) ⟨(blen x),List.replicate ((words (x)).length) 0,List.replicate (((words (y)).length) + 1) 0,_,rfl,(Nat.le_refl _),(by simp),(wfl_replicate _),(by simp),(wfl_replicate _),(by rw [lt_two_blen];simp [val_replicate_zero]),(by rw [lt_two_blen];simp [val_replicate_zero]),(S.keep [0,2,3,4,5,6,7]).keepB [0,1] (by decide)⟩ ?_
 clear S
 intro μ a w ⟨k,q,r,G,hm,hk,hqq,hqw,hrl,hrw,hq,hr,S⟩
 refine wp_seq_k fun K hK=>?_
 refine wp_reg fun K hK=>?_
 refine S.m rfl (S.g 0 rfl) rfl fun a w G S=>?_
 refine S.s (OpR.igeq S.ok rfl (S.e 0 rfl) (rfl : _ = nv .i64 0) MT.self) rfl fun a w G S=>?_
 refine wn hK ?_;clear hK K
 replace S:=S.d1
 refine S.cond 0 rfl (fun hc1=>?_) (fun hc1=>?_)
 ·
  have hp2:=of_decide_eq_true hc1
  have hk1 : 1 ≤ k:=by omega
  refine wp_skip ?_
  refine hK _ _ ?_;clear hK K
  refine wp_seq_k fun K hK=>?_
  refine wp_block ?_
  refine wp_reg fun K hK=>?_
  have hdx:=dig_lt (wfl_words x) ((k - 1) / 32)
  have hbb : x / 2 ^ (k - 1) % 2 ≤ 1:=by omega
  have hkx : (k - 1) / 32 < (words x).length:=by omega
  have hrY : val r < y:=by rw [hr];exact Nat.mod_lt _ (Nat.pos_of_ne_zero hy)
  refine S.m rfl (S.g 7 rfl) rfl fun a w G S=>?_
  refine S.s (τ:=NT (k - 1)) (OpR.mv S.ok rfl ((S.e 2 rfl).trans (iv_eq (by omega)))) rfl fun a w G S=>?_
  refine S.s (OpR.nquo S.ok rfl (S.e 0 rfl) (rfl : _ = nv .i64 32) (by omega) (wr_i64 (by omega)) MT.self) rfl fun a w G S=>?_
  refine S.s (τ:=PE (none) (MT.ex (nv .u32 (dig (words (x)) ((k - 1) / 32))))) (OpR.ixL (i:=(k - 1) / 32) S.ok rfl Tryz.underlying23 tS_94 (SN.toSL (S.g 2 rfl)) (S.e 0 rfl) rfl (dig_get (by first | omega | (simp;omega)))) rfl fun a w G S=>?_
  refine S.s (OpR.ldE S.ok rfl tS_94 (S.g 0 rfl)) rfl fun a w G S=>?_
  refine S.s (τ:=NT (k - 1)) (OpR.mv S.ok rfl ((S.e 6 rfl).trans (iv_eq (by omega)))) rfl fun a w G S=>?_
  refine S.s (OpR.nrem S.ok rfl (S.e 0 rfl) (rfl : _ = nv .i64 32) (by omega) MT.self) rfl fun a w G S=>?_
  refine S.s (OpR.nshr S.ok rfl (S.e 2 rfl) (S.e 0 rfl) (by show _ ≤ 32;omega) MT.self) rfl fun a w G S=>?_
  refine S.s (OpR.nand1 S.ok rfl (S.e 0 rfl) (rfl : _ = nv .u32 1) (Nat.lt_of_le_of_lt (Nat.div_le_self _ _) hdx) MT.self) rfl fun a w G S=>?_
  refine S.s (τ:=MT.ex (nv .u32 (x / 2 ^ (k - 1) % 2))) (OpR.asn S.ok rfl ((S.e 0 rfl).trans (nv_eq (bit_of x (k - 1))))) rfl fun a w G S=>?_
  refine wn hK ?_;clear hK K
  replace S:=S.d9.d8.d7.d6.d5.d4.d3.d2.d1
  refine wp_seq_k fun K hK=>?_
  refine wp_reg fun K hK=>?_
  refine S.m rfl (S.g 3 rfl) rfl fun a w G S=>?_
  refine S.s (OpR.lenA S.ok rfl Tryz.underlying23 (S.e 0 rfl) MT.self) rfl fun a w G S=>?_
  refine S.s (τ:=NT 0) (OpR.mv S.ok rfl (rfl : _ = nv .i64 0)) rfl fun a w G S=>?_
  refine wn hK ?_;clear hK K
  replace S:=S.d2
  refine wp_block ?_
  replace S:=S.also (t:=9) (τ:=MT.ex (nv .u32 ((x / 2 ^ (k - 1) % 2)))) ((S.e 2 rfl).trans (nv_eq (by first | rfl | omega | (simp only [Nat.zero_add,Nat.add_zero];done) | (simp;done) | (push_cast;omega))))
  refine wp_loopJ (fun μ a w=>∃ (j : Nat) (c : Nat) (l : List Nat) (G : Gh),μ = (words y).length + 1 - j ∧ (j ≤ (words y).length + 1) ∧ (c ≤ 1) ∧ (l.length = (words y).length + 1) ∧ (wfl l) ∧ (l.drop j = r.drop j) ∧ (val (l.take j) + 4294967296 ^ j * c = 2 * val (r.take j) + x / 2 ^ (k - 1) % 2) ∧  St W0 G0 76 [(36,NT j),(35,NT (((words (y)).length) + 1)),(9,MT.ex (nv .u32 (c))),(22,BT (decide ((((k : Nat) : Int) - ((1 : Nat) : Int)) ≥ 0))),(8,IT (((k : Nat) : Int) - ((1 : Nat) : Int))),(7,MT.ex (Value.slice (some ⟨b17,0,none⟩) (((words (y)).length) + 1) (((words (y)).length) + 1))),(6,MT.ex (Value.slice (some ⟨b13,0,none⟩) ((words (x)).length) ((words (x)).length))),(5,MT.ex (Value.slice none 0 0)),(4,MT.ex (Value.slice none 0 0)),(1,SN nb y),(0,SN na x)] [⟨b17,94,some (((words (y)).length) + 1),MT.ex (Value.agg (ucells (l)).toArray)⟩,⟨b13,94,some ((words (x)).length),MT.ex (Value.agg (ucells (q)).toArray)⟩] a w G) ((words y).length + 1 - 0) ⟨0,x / 2 ^ (k - 1) % 2,r,_,rfl,(by omega),hbb,hrl,hrw,rfl,(by simp [val]),(S.keep [1,2,0,4,5,6,7,8,9,10,11]).keepB [0,1] (by decide)⟩ ?_
  clear S
  intro μ a w ⟨j,c,l,G,hm,hj,hc,hl,hw,hB,hv,S⟩
  have hdl:=dig_lt hw j
  refine wp_reg fun K hK=>?_
  refine S.s (OpR.nlss S.ok rfl (S.e 0 rfl) (S.e 1 rfl) MT.self) rfl fun a w G S=>?_
  refine wn hK ?_;clear hK K
  refine wp_seq_k fun K hK=>?_
  refine S.cond 0 rfl (fun hc3=>?_) (fun hc3=>?_)
  ·
   have hp4:=of_decide_eq_true hc3
   refine wp_skip ?_
   refine hK _ _ ?_;clear hK K
   refine wp_seq_k fun K hK=>?_
   refine wp_block ?_
   refine wp_reg fun K hK=>?_
   refine S.m rfl (S.g 1 rfl) rfl fun a w G S=>?_
   refine S.q rfl (S.g 0 rfl) rfl fun a w G S=>?_
   refine wn hK ?_;clear hK K
   replace S:=S.d1
   refine S.drawnS [⟨39,.g (MT.ex (Value.slice (some ⟨b17,0,none⟩) (((words (y)).length) + 1) (((words (y)).length) + 1))),[]⟩,⟨40,.g (NT j),[]⟩,⟨41,.g (MT.ex (Value.slice (some ⟨b17,0,none⟩) (((words (y)).length) + 1) (((words (y)).length) + 1))),[]⟩,⟨42,.g (NT j),[]⟩,⟨43,.g (MT.ex (Value.pointer (some ⟨b17,j,none⟩))),[2,3]⟩,⟨44,.g (MT.ex (nv .u32 (dig (l) (j)))),[4]⟩,⟨45,.g (MT.ex (nv .u32 ((dig (l) (j)) * 2 ^ 1 % 4294967296))),[5]⟩,⟨46,.g (MT.ex (nv .u32 (c))),[]⟩,⟨47,.g (MT.ex (nv .u32 (dig l j * 2 % 4294967296 + c))),[6,7]⟩,⟨48,.g (MT.ex (Value.slice (some ⟨b17,0,none⟩) (((words (y)).length) + 1) (((words (y)).length) + 1))),[]⟩,⟨49,.g (NT j),[]⟩,⟨50,.g (MT.ex (Value.pointer (some ⟨b17,j,none⟩))),[9,10]⟩,⟨51,.g (MT.ex (nv .u32 (dig (l) (j)))),[11]⟩,⟨52,.g (MT.ex (nv .u32 ((dig (l) (j)) / 2 ^ 31))),[12]⟩,⟨53,.g (MT.ex (Value.pointer (some ⟨b17,j,none⟩))),[0,1]⟩,⟨9998,.st 0 (MT.ex (Value.agg (ucells (l.set (j) (dig l j * 2 % 4294967296 + c))).toArray)),[14,8]⟩] mixedOrders (by kernel_rfl)
    ⟨⟨rfl,fun a w G S=>.of rfl (OpR.mv S.ok rfl (S.g 7 rfl))⟩,
     ⟨rfl,fun a w G S=>.of rfl (OpR.mv S.ok rfl (S.g 0 rfl))⟩,
     ⟨rfl,fun a w G S=>.of rfl (OpR.mv S.ok rfl (S.g 7 rfl))⟩,
     ⟨rfl,fun a w G S=>.of rfl (OpR.mv S.ok rfl (S.g 0 rfl))⟩,
     ⟨rfl,fun a w G S=>.of rfl (OpR.ixA (i:=j) S.ok rfl Tryz.underlying23 tS_94 (S.e 0 rfl) (S.e 1 rfl) rfl (by first | omega | (simp;omega)) (ptr_eq (by simp only [Option.getD_none] <;> omega)))⟩,
     ⟨rfl,fun a w G S=>have S:=S.boxes (B':=[⟨b17,94,some (((words (y)).length) + 1),MT.ex (Value.agg (ucells (l)).toArray)⟩,⟨b13,94,some ((words (x)).length),MT.ex (Value.agg (ucells (q)).toArray)⟩]) (by kernel_rfl);OpG.of rfl (OpR.ldElem S.ok rfl (S.e 0 rfl) (S.box 0 rfl) tS_94 (dig_get (by first | omega | (simp;omega))))⟩,
     ⟨rfl,fun a w G S=>.of rfl (OpR.nshlw S.ok rfl (S.e 0 rfl) (rfl : _ = nv .u64 1) (by decide) MT.self)⟩,
     ⟨rfl,fun a w G S=>.of rfl (OpR.mv S.ok rfl (S.g 4 rfl))⟩,
     ⟨rfl,fun a w G S=>.of rfl (OpR.nor32 S.ok rfl (S.e 0 rfl) (S.e 1 rfl) (by omega) (by omega) (nv_eq (dbl_or hc)))⟩,
     ⟨rfl,fun a w G S=>.of rfl (OpR.mv S.ok rfl (S.g 7 rfl))⟩,
     ⟨rfl,fun a w G S=>.of rfl (OpR.mv S.ok rfl (S.g 0 rfl))⟩,
     ⟨rfl,fun a w G S=>.of rfl (OpR.ixA (i:=j) S.ok rfl Tryz.underlying23 tS_94 (S.e 0 rfl) (S.e 1 rfl) rfl (by first | omega | (simp;omega)) (ptr_eq (by simp only [Option.getD_none] <;> omega)))⟩,
     ⟨rfl,fun a w G S=>have S:=S.boxes (B':=[⟨b17,94,some (((words (y)).length) + 1),MT.ex (Value.agg (ucells (l)).toArray)⟩,⟨b13,94,some ((words (x)).length),MT.ex (Value.agg (ucells (q)).toArray)⟩]) (by kernel_rfl);OpG.of rfl (OpR.ldElem S.ok rfl (S.e 0 rfl) (S.box 0 rfl) tS_94 (dig_get (by first | omega | (simp;omega))))⟩,
     ⟨rfl,fun a w G S=>.of rfl (OpR.nshr S.ok rfl (S.e 0 rfl) (rfl : _ = nv .u64 31) (by decide) MT.self)⟩,
     ⟨rfl,fun a w G S=>.of rfl (OpR.ixA (i:=j) S.ok rfl Tryz.underlying23 tS_94 (S.e 0 rfl) (S.e 1 rfl) rfl (by first | omega | (simp;omega)) (ptr_eq (by simp only [Option.getD_none] <;> omega)))⟩,
     ⟨rfl,rfl,rfl,.inr ⟨by simp only [List.length_cons,List.length_nil];omega,_,rfl,fun a w G v0 S hv hs h0=>elem_store (z:=dig l j * 2 % 4294967296 + c) rfl rfl (S.e 0 rfl) tS_94 (S.e 1 rfl) rfl (by first | omega | (simp;omega)) hv hs h0⟩⟩,trivial⟩ fun β a w G S=>?_
   replace S : St W0 G0 76 [(52,MT.ex (nv .u32 ((dig (l) (j)) / 2 ^ 31))),(37,BT (decide (j < (((words (y)).length) + 1)))),(36,NT j),(35,NT (((words (y)).length) + 1)),(9,MT.ex (nv .u32 (c))),(22,BT (decide ((((k : Nat) : Int) - ((1 : Nat) : Int)) ≥ 0))),(8,IT (((k : Nat) : Int) - ((1 : Nat) : Int))),(7,MT.ex (Value.slice (some ⟨b17,0,none⟩) (((words (y)).length) + 1) (((words (y)).length) + 1))),(6,MT.ex (Value.slice (some ⟨b13,0,none⟩) ((words (x)).length) ((words (x)).length))),(5,MT.ex (Value.slice none 0 0)),(4,MT.ex (Value.slice none 0 0)),(1,SN nb y),(0,SN na x)] [⟨b17,94,some (((words (y)).length) + 1),MT.ex (Value.agg (ucells (l.set (j) (dig l j * 2 % 4294967296 + c))).toArray)⟩,⟨b13,94,some ((words (x)).length),MT.ex (Value.agg (ucells (q)).toArray)⟩] a _ _:=S.keep [1,16,17,18,19,20,21,22,23,24,25,26,27]
   replace S:=S.d4
   refine S.q rfl (S.g 0 rfl) rfl fun a w G S=>?_
   refine wpList_nil ?_
   replace S:=S.d1
   refine hK _ _ ?_;clear hK K
   refine wp_region_lit ?_
   refine S.s (OpR.nadd S.ok rfl (S.e 2 rfl) (rfl : _ = nv .i64 1) (wr_i64 (by omega)) MT.self) rfl fun a w G S=>?_
   replace S:=S.d3
   refine S.m rfl (S.g 0 rfl) rfl fun a w G S=>?_
   refine wpList_nil ?_
   replace S:=S.d1
   replace S:=S.also (t:=9) (τ:=MT.ex (nv .u32 (((dig (l) (j)) / 2 ^ 31)))) ((S.e 1 rfl).trans (nv_eq (by first | rfl | omega | (simp only [Nat.zero_add,Nat.add_zero];done) | (simp;done) | (push_cast;omega))))
   replace S:=S.castBox (τ':=MT.ex (Value.agg (ucells ((l.set (j) (dig l j * 2 % 4294967296 + c)))).toArray)) 0 rfl fun _ h _=>Eq.trans h (congrArg (fun l=>Value.agg (ucells l).toArray) (by simp))
   replace S:=S.n0
   exact ⟨(words y).length + 1 - (j + 1),(by omega),j + 1,(dig (l) (j)) / 2 ^ 31,l.set (j) (dig l j * 2 % 4294967296 + c),_,rfl,(by omega),(by omega),(by simpa using hl),(hw.set (by omega)),(by rw [drop_set_far (by omega)];exact drop_eq_succ hB),(dbl_step (by omega) hB hc hw hv),(S.keep [1,4,0,5,6,7,8,9,10,11,12]).keepB [0,1] (by decide)⟩
  ·
   have hp5:=of_decide_eq_false hc3
   refine wp_exit (then_exit (then_exit (exit_same ?_)))
   clear hK K
   refine hK _ _ ?_;clear hK K
   refine wp_reg fun K hK=>?_
   have hval0:=dbl_fin hl hrl (show j = (words y).length + 1 by omega) hyL hrY hbb hv
   have hval : val l = 2 * (x / 2 ^ k % y) + x / 2 ^ (k - 1) % 2:=by rw [hval0,hr]
   refine S.m rfl (S.g 6 rfl) rfl fun a w G S=>?_
   refine S.m rfl (S.g 11 rfl) rfl fun a w G S=>?_
   refine S.s (τ:=IT (cmpN (val l) (val (words y)))) (OpR.lend2 (n:=((words (y)).length) + 1) (l:=l) S.ok rfl c_88 (S.box 0 rfl) hl.symm (by simp only [LIM];omega) hw fun G1 hle hok1 hsl=>(rcompareL_ok hok1 (of_val (S.e 1 rfl) hsl) ((SL (words y)).mono hle (SN.toSL (S.g 0 rfl))))) rfl fun a w G S=>?_
   refine S.s (OpR.igeq S.ok rfl (S.e 0 rfl) (rfl : _ = nv .i64 0) MT.self) rfl fun a w G S=>?_
   refine wn hK ?_;clear hK K
   replace S:=S.d3.d2.d1
   refine S.cond 0 rfl (fun hc6=>?_) (fun hc6=>?_)
   ·
    have hp7:=of_decide_eq_true hc6
    have hge : y ≤ val l:=by have:=cmpN_ge.1 hp7;omega
    refine wp_reg fun K hK=>?_
    refine S.m rfl (S.g 7 rfl) rfl fun a w G S=>?_
    refine S.m rfl (S.g 12 rfl) rfl fun a w G S=>?_
    refine S.stepM2 0 rfl rfl rfl c_89 (rtakeO_ok S.world (S.g 1 rfl) (SN.toSL (S.g 0 rfl)) hl hw (Nat.le_refl _) (by simp only [LIM];omega)) rfl rfl fun vR lR a w G hR hlR S=>?_
    obtain ⟨hTw,cT,hcT,hTv⟩:=hR
    have hlo:=hlR
    have hwo:=hTw
    have hT:=take_ge (by rw [List.length_take];omega) hTw (val_take_all hl) (take_words_all (by omega)) (by omega) hcT hTv
    rw [val_take_all hlR] at hT
    have hro : val lR = x / 2 ^ (k - 1) % y:=by rw [hT,hval];exact (dv_ge (by omega) (by omega) (by omega)).1.symm
    refine wn hK ?_;clear hK K
    replace S:=S.d2.d1.d0
    have hql:=q_low (i:=k - 1) hqw (by rw [hq,show k - 1 + 1 = k from by omega])
    have hqs:=q_set (i:=k - 1) (by omega) hq
    have hdq:=dig_lt hqw ((k - 1) / 32)
    have hqo : val (q.set ((k - 1) / 32) (dig q ((k - 1) / 32) + 2 ^ ((k - 1) % 32))) = x / 2 ^ (k - 1) / y * 2 ^ (k - 1):=by rw [hqs];exact (dv_ge (by omega) (by omega) (by omega)).2.symm
    refine S.drawn [⟨62,.g (MT.ex (Value.slice (some ⟨b13,0,none⟩) ((words (x)).length) ((words (x)).length))),[]⟩,⟨63,.g (NT (k - 1)),[]⟩,⟨64,.g (NT ((k - 1) / 32)),[1]⟩,⟨65,.g (MT.ex (Value.pointer (some ⟨b13,(k - 1) / 32,none⟩))),[0,2]⟩,⟨66,.g (MT.ex (nv .u32 (dig (q) ((k - 1) / 32)))),[3]⟩,⟨67,.g (NT (k - 1)),[]⟩,⟨68,.g (NT ((k - 1) % 32)),[5]⟩,⟨69,.g (MT.ex (nv .u32 (1 * 2 ^ ((k - 1) % 32)))),[6]⟩,⟨70,.g (MT.ex (nv .u32 (dig q ((k - 1) / 32) + 2 ^ ((k - 1) % 32)))),[4,7]⟩,⟨71,.g (MT.ex (Value.pointer (some ⟨b13,(k - 1) / 32,none⟩))),[0,2]⟩] mixedOrders (by kernel_rfl)
     ⟨fun a w G S=>.of rfl (OpR.mv S.ok rfl (S.g 8 rfl)),
      fun a w G S=>.of rfl (OpR.mv S.ok rfl ((S.e 6 rfl).trans (iv_eq (by omega)))),
      fun a w G S=>.of rfl (OpR.nquo S.ok rfl (S.e 0 rfl) (rfl : _ = nv .i64 32) (by omega) (wr_i64 (by omega)) MT.self),
      fun a w G S=>.of rfl (OpR.ixA (i:=(k - 1) / 32) S.ok rfl Tryz.underlying23 tS_94 (S.e 0 rfl) (S.e 1 rfl) rfl (by first | omega | (simp;omega)) (ptr_eq (by simp only [Option.getD_none] <;> omega))),
      fun a w G S=>.of rfl (OpR.ldElem S.ok rfl (S.e 0 rfl) (S.box 1 rfl) tS_94 (dig_get (by first | omega | (simp;omega)))),
      fun a w G S=>.of rfl (OpR.mv S.ok rfl ((S.e 6 rfl).trans (iv_eq (by omega)))),
      fun a w G S=>.of rfl (OpR.nrem S.ok rfl (S.e 0 rfl) (rfl : _ = nv .i64 32) (by omega) MT.self),
      fun a w G S=>.of rfl (OpR.nshl S.ok rfl (rfl : _ = nv .u32 1) (S.e 0 rfl) (by show _ ≤ 32;omega) (wr_u32 (pow32_lt (by omega))) MT.self),
      fun a w G S=>.of rfl (OpR.nor32 S.ok rfl (S.e 0 rfl) (S.e 1 rfl) (by omega) (pow32_lt (by omega)) (nv_eq (or_bit hql.1))),
      fun a w G S=>.of rfl (OpR.ixA (i:=(k - 1) / 32) S.ok rfl Tryz.underlying23 tS_94 (S.e 0 rfl) (S.e 1 rfl) rfl (by first | omega | (simp;omega)) (ptr_eq (by simp only [Option.getD_none] <;> omega))),trivial⟩ fun β a w G S=>?_
    replace S : St W0 G0 76 [(71,MT.ex (Value.pointer (some ⟨b13,(k - 1) / 32,none⟩))),(70,MT.ex (nv .u32 (dig q ((k - 1) / 32) + 2 ^ ((k - 1) % 32)))),(58,BT (decide ((cmpN (val l) (val (words y))) ≥ 0))),(37,BT (decide (j < (((words (y)).length) + 1)))),(36,NT j),(35,NT (((words (y)).length) + 1)),(9,MT.ex (nv .u32 (c))),(22,BT (decide ((((k : Nat) : Int) - ((1 : Nat) : Int)) ≥ 0))),(8,IT (((k : Nat) : Int) - ((1 : Nat) : Int))),(7,MT.ex (Value.slice (some ⟨b17,0,none⟩) (((words (y)).length) + 1) (((words (y)).length) + 1))),(6,MT.ex (Value.slice (some ⟨b13,0,none⟩) ((words (x)).length) ((words (x)).length))),(5,MT.ex (Value.slice none 0 0)),(4,MT.ex (Value.slice none 0 0)),(1,SN nb y),(0,SN na x)] [⟨b17,94,some (((words (y)).length) + 1),MT.ex (Value.agg (ucells (lR)).toArray)⟩,⟨b13,94,some ((words (x)).length),MT.ex (Value.agg (ucells (q)).toArray)⟩] a _ _:=S.keep [0,1,10,11,12,13,14,15,16,17,18,19,20,21,22]
    refine S.setElem 1 (z:=dig q ((k - 1) / 32) + 2 ^ ((k - 1) % 32)) rfl rfl rfl rfl (S.e 0 rfl) tS_94 (S.e 1 rfl) rfl (by first | omega | (simp;omega)) fun w S=>?_
    replace S:=S.n1
    refine wpList_nil ?_
    replace S:=S.d1.d0
    refine hK _ _ ?_;clear hK K
    refine wp_region_lit ?_
    refine S.m rfl (S.g 6 rfl) rfl fun a w G S=>?_
    refine S.s (τ:=IT ((((k : Nat) : Int) - ((1 : Nat) : Int)) - 1)) (OpR.isub S.ok rfl (S.e 0 rfl) (rfl : _ = nv .i64 1) (iw_i64 (by omega) (by omega))) rfl fun a w G S=>?_
    replace S:=S.d8
    refine S.q rfl (S.g 0 rfl) rfl fun a w G S=>?_
    refine wpList_nil ?_
    replace S:=S.d2.d1
    replace S:=S.also (t:=8) (τ:=IT ((((k - 1) : Nat) : Int) - ((1 : Nat) : Int))) ((S.e 0 rfl).trans (iv_eq (by first | rfl | omega | (simp only [Nat.zero_add,Nat.add_zero];done) | (simp;done) | (push_cast;omega))))
    replace S:=S.castBox (τ':=MT.ex (Value.agg (ucells ((q.set ((k - 1) / 32) (dig q ((k - 1) / 32) + 2 ^ ((k - 1) % 32))))).toArray)) 1 rfl fun _ h _=>Eq.trans h (congrArg (fun l=>Value.agg (ucells l).toArray) (by simp))
    replace S:=S.n1
    exact ⟨(k - 1),(by omega),(k - 1),q.set ((k - 1) / 32) (dig q ((k - 1) / 32) + 2 ^ ((k - 1) % 32)),lR,_,rfl,(by omega),(by simpa using hqq),(by first | exact hqw.set hql.2 | exact hqw),hlo,hwo,hqo,hro,(S.keep [0,8,9,10,11,12,13]).keepB [0,1] (by decide)⟩
   ·
    have hp8:=of_decide_eq_false hc6
    have hlt : val l < y:=Nat.not_le.1 fun h=>hp8 (cmpN_ge.2 (by omega))
    have hlo:=hl
    have hwo:=hw
    have hro : val l = x / 2 ^ (k - 1) % y:=by rw [hval];exact (dv_lt hk1 (by omega)).1.symm
    have hqo : val q = x / 2 ^ (k - 1) / y * 2 ^ (k - 1):=by rw [hq];exact (dv_lt hk1 (by omega)).2.symm
    refine wp_skip ?_
    refine hK _ _ ?_;clear hK K
    refine wp_region_lit ?_
    refine S.m rfl (S.g 6 rfl) rfl fun a w G S=>?_
    refine S.s (τ:=IT ((((k : Nat) : Int) - ((1 : Nat) : Int)) - 1)) (OpR.isub S.ok rfl (S.e 0 rfl) (rfl : _ = nv .i64 1) (iw_i64 (by omega) (by omega))) rfl fun a w G S=>?_
    replace S:=S.d8
    refine S.q rfl (S.g 0 rfl) rfl fun a w G S=>?_
    refine wpList_nil ?_
    replace S:=S.d2.d1
    replace S:=S.also (t:=8) (τ:=IT ((((k - 1) : Nat) : Int) - ((1 : Nat) : Int))) ((S.e 0 rfl).trans (iv_eq (by first | rfl | omega | (simp only [Nat.zero_add,Nat.add_zero];done) | (simp;done) | (push_cast;omega))))
    exact ⟨(k - 1),(by omega),(k - 1),q,l,_,rfl,(by omega),(by simpa using hqq),(by first | exact hqw.set hql.2 | exact hqw),hlo,hwo,hqo,hro,(S.keep [0,8,9,10,11,12,13]).keepB [0,1] (by decide)⟩
 ·
  have hp9:=of_decide_eq_false hc1
  refine wp_exit (then_exit (then_exit (exit_same ?_)))
  clear hK K
  refine hK _ _ ?_;clear hK K
  refine wp_reg fun K hK=>?_
  have hk0 : k = 0:=by omega
  have hqf : val q = x / y:=by rw [hq,hk0];simp
  have hrf : val r = x % y:=by rw [hr,hk0];simp
  obtain ⟨vz10,Gz10,hz10,hs10,hg10,hle10,S⟩:=S.freeze 1 rfl
  have hsl10 : (SL (q)).t (Value.slice (some ⟨b13,0,none⟩) ((words (x)).length) ((words (x)).length)) Gz10:=SL_frozen hz10 hg10 ⟨hqq.symm,Nat.le_refl _⟩ (by simp only [LIM];omega) hqw
  replace S:=S.also (t:=6) (τ:=SL (q)) ((S.e 3 rfl).symm ▸ hsl10)
  replace S : St W0 G0 76 [(6,SL q),(22,BT (decide ((((k : Nat) : Int) - ((1 : Nat) : Int)) ≥ 0))),(8,IT (((k : Nat) : Int) - ((1 : Nat) : Int))),(7,MT.ex (Value.slice (some ⟨b17,0,none⟩) (((words (y)).length) + 1) (((words (y)).length) + 1))),(5,MT.ex (Value.slice none 0 0)),(4,MT.ex (Value.slice none 0 0)),(1,SN nb y),(0,SN na x)] [⟨b17,94,some (((words (y)).length) + 1),MT.ex (Value.agg (ucells (r)).toArray)⟩] a _ _:=S.keep [0,1,2,3,5,6,7,8]
  refine S.m rfl (S.g 0 rfl) rfl fun a w G S=>?_
  refine S.s (τ:=SN na (x / y)) (OpR.call1 rfl c_86 (rtrim_ok S.ok (SL.asSV (S.g 0 rfl) ⟨hqf,hdb⟩))) rfl fun a w G S=>?_
  obtain ⟨vz11,Gz11,hz11,hs11,hg11,hle11,S⟩:=S.freeze 0 rfl
  have hsl11 : (SL (r)).t (Value.slice (some ⟨b17,0,none⟩) (((words (y)).length) + 1) (((words (y)).length) + 1)) Gz11:=SL_frozen hz11 hg11 ⟨hrl.symm,Nat.le_refl _⟩ (by simp only [LIM];omega) hrw
  replace S:=S.also (t:=7) (τ:=SL (r)) ((S.e 5 rfl).symm ▸ hsl11)
  replace S : St W0 G0 76 [(7,SL r),(73,SN na (x / y)),(72,SL q),(6,SL q),(22,BT (decide ((((k : Nat) : Int) - ((1 : Nat) : Int)) ≥ 0))),(8,IT (((k : Nat) : Int) - ((1 : Nat) : Int))),(5,MT.ex (Value.slice none 0 0)),(4,MT.ex (Value.slice none 0 0)),(1,SN nb y),(0,SN na x)] [] a _ _:=S.keep [0,1,2,3,4,5,7,8,9,10]
  refine S.m rfl (S.g 0 rfl) rfl fun a w G S=>?_
  refine S.s (τ:=SN nb (x % y)) (OpR.call1 rfl c_86 (rtrim_ok S.ok (SL.asSV (S.g 0 rfl) ⟨hrf,hmb⟩))) rfl fun a w G S=>?_
  replace S:=S.d9
  refine S.q rfl (S.g 3 rfl) rfl fun a w G S=>?_
  replace S:=S.d9
  refine S.q rfl (S.g 1 rfl) rfl fun a w G S=>?_
  refine wn hK ?_;clear hK K
  replace S:=S.d6.d5.d3.d2
  exact wp_ret (S.retTmp2 rfl (S.g 1 rfl) (S.g 0 rfl))
end Go.Proofs.YtjphllpnhjemjaaGreat
set_option linter.unusedVariables false
set_option linter.unusedSimpArgs false
set_option maxHeartbeats 4000000
set_option maxRecDepth 100000
set_option synthInstance.maxSize 100000
set_option synthInstance.maxHeartbeats 400000
namespace Go.Proofs.YtjphllpnhjemjaaGreat
open Go.RowKit (Below)
attribute [local irreducible] Go.Code.wp Go.wpList Go.bodyPost
private theorem gS_ {W0 : World} {G0 : Gh} {N : Nat} {L : List (Nat × MT)} {B : List BX} {a : Act} {w : World} {G : Gh} {q : Prop} (h : St W0 G0 N L B a w G → q) : St W0 G0 N L B a w G → q:=h
private theorem gL_ {p : Prop} {P : Program} {arr : Array Oper} {Q : Exit → Act → World → Prop} {l : List Oper} {a : Act} {w : World} (h : p → wpList P arr Q l a w) : p → wpList P arr Q l a w:=h
private theorem gC_ {p : Prop} {P : Program} {c : Code} {Q : Exit → Act → World → Prop} {a : Act} {w : World} (h : p → c.wp P Q a w) : p → c.wp P Q a w:=h
instance {n m : Nat} {τ1 : MT} [j1 : NV τ1 (SV n m)] : Con Tryz.prog 86 [τ1] (True) (SN n m):=.o1 fun hok h1 hp=>rtrim_ok hok (j1.h h1)
instance {n m x y : Nat} : Con Tryz.prog 88 [SN n x,SN m y] (True) (IT (cmpN x y)):=.o2 fun hok h1 h2 hp=>rcompare_ok hok h1 h2
instance {n m x y : Nat} {τ2 : MT} [j2 : NK τ2 (SN m y)] : Con Tryz.prog 91 [SN n x,τ2] (n ≤ BIG ∧ m ≤ BIG) (SN (max n m + 1) (x + y)):=.o2 fun hok h1 h2 hp=>rplus_ok hok h1 (j2.h h2) hp.1 hp.2
instance {n m x y : Nat} : Con Tryz.prog 93 [SN n x,SN m y] (y ≤ x) (SN n (x - y)):=.o2 fun hok h1 h2 hp=>rminus_ok hok h1 h2 hp
instance {n m x y : Nat} : Con Tryz.prog 94 [SN n x,SN m y] (n + m ≤ BIG) (SN (n + m) (x * y)):=.o2 fun hok h1 h2 hp=>rtimes_ok hok h1 h2 hp
instance {n m x y : Nat} : Con Tryz.prog 102 [SN n x,SN m y] (n ≤ BIG ∧ m ≤ BIG ∧ y ≠ 0) (MT.tup2 (SN n (x / y)) (SN m (x % y))):=.o2 fun hok h1 h2 hp=>rdivide_ok hok h1 h2 hp.2.2 hp.1 hp.2.1
instance {n m x y : Nat} : Con Tryz.prog 63 [SN n x,SN m y] (n ≤ BIG ∧ m ≤ BIG) (SN (max n m) (Nat.gcd x y)):=.o2 fun hok h1 h2 hp=>rgcd_ok hok h1 h2 hp.1 hp.2
theorem w92 {s : Bool} {l : List Nat} : Con Tryz.prog 92 [WR s l] (True) (BT (wok s l)):=.o1 fun hok h1 hp=>by
  refine St.enter (N:=19) Tryz.func92 rfl rfl rfl hok (enter1 h1) fun a=>?_
  have hlim:=WR.lim h1
  simp only [LIM] at hlim
  repeat' (first|((with_reducible refine gS_ ?_);first|((with_reducible refine gL_ ?_);first|refine W.run ?_ fun a w G=>?_|refine W.mv fun a w G=>?_|refine W.asg fun a w G=>?_|refine W.bx fun b a w G=>?_|(refine W.nn hK ?_;clear hK K)|refine W.nl ?_|refine W.al fun b a w G=>?_|refine W.st fun w=>?_|refine W.stp fun w=>?_|refine W.ste ?_ fun w=>?_)|((with_reducible refine gC_ ?_);first|refine W.reg fun K hK=>?_|refine W.reg1 ?_|refine W.sq fun K hK=>?_|refine W.ds ?_ (fun β a w G hu=>W.fin ?_ hu) mixedOrders (by kernel_rfl)|refine W.sk ?_|refine W.cd (fun hc=>?_) (fun hc=>?_)|refine W.cb (fun hc=>?_) (fun hc=>?_)|refine W.bl ?_|refine W.ex ?_|refine W.rt ?_)|((with_reducible refine W.kn hK ?_);clear hK K)|(with_reducible first|refine W.bn ?_|refine W.xt ?_|refine W.xb ?_|refine W.xo ?_|refine W.tr ?_|refine W.br ?_)|refine W.rt1 rfl ?_|refine W.rt2 rfl ?_ ?_|refine W.rt3 rfl ?_ ?_ ?_)|clear hK K|clear hu|exact True.intro|exact Nat.le_trans (by clear hp;omega) hp|exact Nat.le_trans (by clear hp;omega) hp.1|exact Nat.le_trans (by clear hp;omega) hp.2|(clear hp;omega)|apply And.intro|refine GI.i fun _=>?_|with_reducible rfl|decide|(simp only [List.length_cons,List.length_nil];omega))
  all_goals first | exact wok_nil (by omega) | (rw [show ((l.length : Int) - 1).toNat = l.length - 1 by omega];exact wok_last (by omega))
instance {s : Bool} {l : List Nat} {τ1 : MT} [j1 : NV τ1 (WR s l)] : Con Tryz.prog 92 [τ1] (True) (BT (wok s l)):=.o1 fun hok h1 hp=>w92.c1 hok (j1.h h1) hp
theorem w64 {n : Nat} {x : Int} : Con Tryz.prog 64 [W n x] (True) (SN n x.natAbs):=.o1 fun hok h1 hp=>by
  obtain ⟨hlt,s,l,hv,h1⟩:=h1
  have hwf:=WR.wf h1
  refine St.enter (N:=8) Tryz.func64 rfl rfl rfl hok (enter1 h1) fun a=>?_
  repeat' (first|((with_reducible refine gS_ ?_);first|((with_reducible refine gL_ ?_);first|refine W.run ?_ fun a w G=>?_|refine W.mv fun a w G=>?_|refine W.asg fun a w G=>?_|refine W.bx fun b a w G=>?_|(refine W.nn hK ?_;clear hK K)|refine W.nl ?_|refine W.al fun b a w G=>?_|refine W.st fun w=>?_|refine W.stp fun w=>?_|refine W.ste ?_ fun w=>?_)|((with_reducible refine gC_ ?_);first|refine W.reg fun K hK=>?_|refine W.reg1 ?_|refine W.sq fun K hK=>?_|refine W.ds ?_ (fun β a w G hu=>W.fin ?_ hu) mixedOrders (by kernel_rfl)|refine W.sk ?_|refine W.cd (fun hc=>?_) (fun hc=>?_)|refine W.cb (fun hc=>?_) (fun hc=>?_)|refine W.bl ?_|refine W.ex ?_|refine W.rt ?_)|((with_reducible refine W.kn hK ?_);clear hK K)|(with_reducible first|refine W.bn ?_|refine W.xt ?_|refine W.xb ?_|refine W.xo ?_|refine W.tr ?_|refine W.br ?_)|refine W.rt1 rfl ?_|refine W.rt2 rfl ?_ ?_|refine W.rt3 rfl ?_ ?_ ?_)|clear hK K|clear hu|exact True.intro|exact Nat.le_trans (by clear hp;omega) hp|exact Nat.le_trans (by clear hp;omega) hp.1|exact Nat.le_trans (by clear hp;omega) hp.2|(clear hp;omega)|apply And.intro|refine GI.i fun _=>?_|with_reducible rfl|decide|(simp only [List.length_cons,List.length_nil];omega))
  all_goals first | (rw [not_wok hv (not_true_of hc)];rfl) | exact mag_of hwf hv (not_false_of hc) | exact hlt
instance {n : Nat} {x : Int} {τ1 : MT} [j1 : NW τ1 (W n x)] : Con Tryz.prog 64 [τ1] (True) (SN n x.natAbs):=.o1 fun hok h1 hp=>w64.c1 hok (j1.h h1) hp
theorem w65 {n : Nat} {x : Int} : Con Tryz.prog 65 [W n x] (True) (BT (decide (x < 0))):=.o1 fun hok h1 hp=>by
  obtain ⟨hlt,s,l,hv,h1⟩:=h1
  have hwf:=WR.wf h1
  refine St.enter (N:=9) Tryz.func65 rfl rfl rfl hok (enter1 h1) fun a=>?_
  repeat' (first|((with_reducible refine gS_ ?_);first|((with_reducible refine gL_ ?_);first|refine W.run ?_ fun a w G=>?_|refine W.mv fun a w G=>?_|refine W.asg fun a w G=>?_|refine W.bx fun b a w G=>?_|(refine W.nn hK ?_;clear hK K)|refine W.nl ?_|refine W.al fun b a w G=>?_|refine W.st fun w=>?_|refine W.stp fun w=>?_|refine W.ste ?_ fun w=>?_)|((with_reducible refine gC_ ?_);first|refine W.reg fun K hK=>?_|refine W.reg1 ?_|refine W.sq fun K hK=>?_|refine W.ds ?_ (fun β a w G hu=>W.fin ?_ hu) mixedOrders (by kernel_rfl)|refine W.sk ?_|refine W.cd (fun hc=>?_) (fun hc=>?_)|refine W.cb (fun hc=>?_) (fun hc=>?_)|refine W.bl ?_|refine W.ex ?_|refine W.rt ?_)|((with_reducible refine W.kn hK ?_);clear hK K)|(with_reducible first|refine W.bn ?_|refine W.xt ?_|refine W.xb ?_|refine W.xo ?_|refine W.tr ?_|refine W.br ?_)|refine W.rt1 rfl ?_|refine W.rt2 rfl ?_ ?_|refine W.rt3 rfl ?_ ?_ ?_)|clear hK K|clear hu|exact True.intro|exact Nat.le_trans (by clear hp;omega) hp|exact Nat.le_trans (by clear hp;omega) hp.1|exact Nat.le_trans (by clear hp;omega) hp.2|(clear hp;omega)|apply And.intro|refine GI.i fun _=>?_|with_reducible rfl|decide|(simp only [List.length_cons,List.length_nil];omega))
  all_goals (cases hok : wok s l with | true=>simp [neg_of hwf hv hok] | false=>simp [not_wok hv hok])
instance {n : Nat} {x : Int} {τ1 : MT} [j1 : NW τ1 (W n x)] : Con Tryz.prog 65 [τ1] (True) (BT (decide (x < 0))):=.o1 fun hok h1 hp=>w65.c1 hok (j1.h h1) hp
theorem w62 {s : Bool} {n m : Nat} : Con Tryz.prog 62 [BT s,SV n m] (True) (WC n (sg s m)):=.o2 fun hok h1 h2 hp=>by
  refine St.enter (N:=14) Tryz.func62 rfl rfl rfl hok (enter2 h1 h2) fun a=>?_
  repeat' (first|((with_reducible refine gS_ ?_);first|((with_reducible refine gL_ ?_);first|refine W.run ?_ fun a w G=>?_|refine W.mv fun a w G=>?_|refine W.asg fun a w G=>?_|refine W.bx fun b a w G=>?_|(refine W.nn hK ?_;clear hK K)|refine W.nl ?_|refine W.al fun b a w G=>?_|refine W.st fun w=>?_|refine W.stp fun w=>?_|refine W.ste ?_ fun w=>?_)|((with_reducible refine gC_ ?_);first|refine W.reg fun K hK=>?_|refine W.reg1 ?_|refine W.sq fun K hK=>?_|refine W.ds ?_ (fun β a w G hu=>W.fin ?_ hu) mixedOrders (by kernel_rfl)|refine W.sk ?_|refine W.cd (fun hc=>?_) (fun hc=>?_)|refine W.cb (fun hc=>?_) (fun hc=>?_)|refine W.bl ?_|refine W.ex ?_|refine W.rt ?_)|((with_reducible refine W.kn hK ?_);clear hK K)|(with_reducible first|refine W.bn ?_|refine W.xt ?_|refine W.xb ?_|refine W.xo ?_|refine W.tr ?_|refine W.br ?_)|refine W.rt1 rfl ?_|refine W.rt2 rfl ?_ ?_|refine W.rt3 rfl ?_ ?_ ?_)|clear hK K|clear hu|exact True.intro|exact Nat.le_trans (by clear hp;omega) hp|exact Nat.le_trans (by clear hp;omega) hp.1|exact Nat.le_trans (by clear hp;omega) hp.2|(clear hp;omega)|apply And.intro|refine GI.i fun _=>?_|with_reducible rfl|decide|(simp only [List.length_cons,List.length_nil];omega))
  all_goals first | (have h0:=len_zero (m:=m) (by omega);subst h0;cases s <;> rfl) | exact sg_abs.symm | (have:=@len_pos_iff m;cases s <;> simp [sg] <;> omega)
instance {s : Bool} {n m : Nat} {τ2 : MT} [j2 : NV τ2 (SV n m)] : Con Tryz.prog 62 [BT s,τ2] (True) (WC n (sg s m)):=.o2 fun hok h1 h2 hp=>w62.c2 hok h1 (j2.h h2) hp
theorem w36 {n : Nat} {x : Int} : Con Tryz.prog 36 [W n x] (True) (IT x.sign):=.o1 fun hok h1 hp=>by
  refine St.enter (N:=9) Tryz.func36 rfl rfl rfl hok (enter1 h1) fun a=>?_
  repeat' (first|((with_reducible refine gS_ ?_);first|((with_reducible refine gL_ ?_);first|refine W.run ?_ fun a w G=>?_|refine W.mv fun a w G=>?_|refine W.asg fun a w G=>?_|refine W.bx fun b a w G=>?_|(refine W.nn hK ?_;clear hK K)|refine W.nl ?_|refine W.al fun b a w G=>?_|refine W.st fun w=>?_|refine W.stp fun w=>?_|refine W.ste ?_ fun w=>?_)|((with_reducible refine gC_ ?_);first|refine W.reg fun K hK=>?_|refine W.reg1 ?_|refine W.sq fun K hK=>?_|refine W.ds ?_ (fun β a w G hu=>W.fin ?_ hu) mixedOrders (by kernel_rfl)|refine W.sk ?_|refine W.cd (fun hc=>?_) (fun hc=>?_)|refine W.cb (fun hc=>?_) (fun hc=>?_)|refine W.bl ?_|refine W.ex ?_|refine W.rt ?_)|((with_reducible refine W.kn hK ?_);clear hK K)|(with_reducible first|refine W.bn ?_|refine W.xt ?_|refine W.xb ?_|refine W.xo ?_|refine W.tr ?_|refine W.br ?_)|refine W.rt1 rfl ?_|refine W.rt2 rfl ?_ ?_|refine W.rt3 rfl ?_ ?_ ?_)|clear hK K|clear hu|exact True.intro|exact Nat.le_trans (by clear hp;omega) hp|exact Nat.le_trans (by clear hp;omega) hp.1|exact Nat.le_trans (by clear hp;omega) hp.2|(clear hp;omega)|apply And.intro|refine GI.i fun _=>?_|with_reducible rfl|decide|(simp only [List.length_cons,List.length_nil];omega))
  all_goals (have h1:=@len_zero_iff x.natAbs;have h2:=sgn_cases x;omega)
instance {n : Nat} {x : Int} {τ1 : MT} [j1 : NW τ1 (W n x)] : Con Tryz.prog 36 [τ1] (True) (IT x.sign):=.o1 fun hok h1 hp=>w36.c1 hok (j1.h h1) hp
theorem w80 {n : Nat} {x : Int} : Con Tryz.prog 80 [W n x] (True) (WC n (-x)):=.o1 fun hok h1 hp=>by
  refine St.enter (N:=9) Tryz.func80 rfl rfl rfl hok (enter1 h1) fun a=>?_
  repeat' (first|((with_reducible refine gS_ ?_);first|((with_reducible refine gL_ ?_);first|refine W.run ?_ fun a w G=>?_|refine W.mv fun a w G=>?_|refine W.asg fun a w G=>?_|refine W.bx fun b a w G=>?_|(refine W.nn hK ?_;clear hK K)|refine W.nl ?_|refine W.al fun b a w G=>?_|refine W.st fun w=>?_|refine W.stp fun w=>?_|refine W.ste ?_ fun w=>?_)|((with_reducible refine gC_ ?_);first|refine W.reg fun K hK=>?_|refine W.reg1 ?_|refine W.sq fun K hK=>?_|refine W.ds ?_ (fun β a w G hu=>W.fin ?_ hu) mixedOrders (by kernel_rfl)|refine W.sk ?_|refine W.cd (fun hc=>?_) (fun hc=>?_)|refine W.cb (fun hc=>?_) (fun hc=>?_)|refine W.bl ?_|refine W.ex ?_|refine W.rt ?_)|((with_reducible refine W.kn hK ?_);clear hK K)|(with_reducible first|refine W.bn ?_|refine W.xt ?_|refine W.xb ?_|refine W.xo ?_|refine W.tr ?_|refine W.br ?_)|refine W.rt1 rfl ?_|refine W.rt2 rfl ?_ ?_|refine W.rt3 rfl ?_ ?_ ?_)|clear hK K|clear hu|exact True.intro|exact Nat.le_trans (by clear hp;omega) hp|exact Nat.le_trans (by clear hp;omega) hp.1|exact Nat.le_trans (by clear hp;omega) hp.2|(clear hp;omega)|apply And.intro|refine GI.i fun _=>?_|with_reducible rfl|decide|(simp only [List.length_cons,List.length_nil];omega))
  all_goals exact neg_sg
instance {n : Nat} {x : Int} {τ1 : MT} [j1 : NW τ1 (W n x)] : Con Tryz.prog 80 [τ1] (True) (WC n (-x)):=.o1 fun hok h1 hp=>w80.c1 hok (j1.h h1) hp
theorem w66 {n m : Nat} {x y : Int} : Con Tryz.prog 66 [W n x,W m y] (n ≤ BIG ∧ m ≤ BIG) (WC (max n m + 1) (x + y)):=.o2 fun hok h1 h2 hp=>by
  refine St.enter (N:=38) Tryz.func66 rfl rfl rfl hok (enter2 h1 h2) fun a=>?_
  repeat' (first|((with_reducible refine gS_ ?_);first|((with_reducible refine gL_ ?_);first|refine W.run ?_ fun a w G=>?_|refine W.mv fun a w G=>?_|refine W.asg fun a w G=>?_|refine W.bx fun b a w G=>?_|(refine W.nn hK ?_;clear hK K)|refine W.nl ?_|refine W.al fun b a w G=>?_|refine W.st fun w=>?_|refine W.stp fun w=>?_|refine W.ste ?_ fun w=>?_)|((with_reducible refine gC_ ?_);first|refine W.reg fun K hK=>?_|refine W.reg1 ?_|refine W.sq fun K hK=>?_|refine W.ds ?_ (fun β a w G hu=>W.fin ?_ hu) mixedOrders (by kernel_rfl)|refine W.sk ?_|refine W.cd (fun hc=>?_) (fun hc=>?_)|refine W.cb (fun hc=>?_) (fun hc=>?_)|refine W.bl ?_|refine W.ex ?_|refine W.rt ?_)|((with_reducible refine W.kn hK ?_);clear hK K)|(with_reducible first|refine W.bn ?_|refine W.xt ?_|refine W.xb ?_|refine W.xo ?_|refine W.tr ?_|refine W.br ?_)|refine W.rt1 rfl ?_|refine W.rt2 rfl ?_ ?_|refine W.rt3 rfl ?_ ?_ ?_)|clear hK K|clear hu|exact True.intro|exact Nat.le_trans (by clear hp;omega) hp|exact Nat.le_trans (by clear hp;omega) hp.1|exact Nat.le_trans (by clear hp;omega) hp.2|(clear hp;omega)|apply And.intro|refine GI.i fun _=>?_|with_reducible rfl|decide|(simp only [List.length_cons,List.length_nil];omega))
  all_goals first | exact add_same (by simpa using hc) | exact cmpN_ge.1 hc | exact add_diff (add_d (by assumption)) (cmpN_ge.1 hc) | exact cmpN_lt hc | exact add_diff2 (add_d (by assumption)) (cmpN_lt hc)
instance {n m : Nat} {x y : Int} {τ1 : MT} [j1 : NW τ1 (W n x)] {τ2 : MT} [j2 : NW τ2 (W m y)] : Con Tryz.prog 66 [τ1,τ2] (n ≤ BIG ∧ m ≤ BIG) (WC (max n m + 1) (x + y)):=.o2 fun hok h1 h2 hp=>w66.c2 hok (j1.h h1) (j2.h h2) hp
theorem w61 {n m : Nat} {x y : Int} : Con Tryz.prog 61 [W n x,W m y] (n ≤ BIG ∧ m ≤ BIG) (WC (max n m + 1) (x - y)):=.o2 fun hok h1 h2 hp=>by
  refine St.enter (N:=9) Tryz.func61 rfl rfl rfl hok (enter2 h1 h2) fun a=>?_
  repeat' (first|((with_reducible refine gS_ ?_);first|((with_reducible refine gL_ ?_);first|refine W.run ?_ fun a w G=>?_|refine W.mv fun a w G=>?_|refine W.asg fun a w G=>?_|refine W.bx fun b a w G=>?_|(refine W.nn hK ?_;clear hK K)|refine W.nl ?_|refine W.al fun b a w G=>?_|refine W.st fun w=>?_|refine W.stp fun w=>?_|refine W.ste ?_ fun w=>?_)|((with_reducible refine gC_ ?_);first|refine W.reg fun K hK=>?_|refine W.reg1 ?_|refine W.sq fun K hK=>?_|refine W.ds ?_ (fun β a w G hu=>W.fin ?_ hu) mixedOrders (by kernel_rfl)|refine W.sk ?_|refine W.cd (fun hc=>?_) (fun hc=>?_)|refine W.cb (fun hc=>?_) (fun hc=>?_)|refine W.bl ?_|refine W.ex ?_|refine W.rt ?_)|((with_reducible refine W.kn hK ?_);clear hK K)|(with_reducible first|refine W.bn ?_|refine W.xt ?_|refine W.xb ?_|refine W.xo ?_|refine W.tr ?_|refine W.br ?_)|refine W.rt1 rfl ?_|refine W.rt2 rfl ?_ ?_|refine W.rt3 rfl ?_ ?_ ?_)|clear hK K|clear hu|exact True.intro|exact Nat.le_trans (by clear hp;omega) hp|exact Nat.le_trans (by clear hp;omega) hp.1|exact Nat.le_trans (by clear hp;omega) hp.2|(clear hp;omega)|apply And.intro|refine GI.i fun _=>?_|with_reducible rfl|decide|(simp only [List.length_cons,List.length_nil];omega))
  all_goals exact Int.sub_eq_add_neg.symm
instance {n m : Nat} {x y : Int} {τ1 : MT} [j1 : NW τ1 (W n x)] {τ2 : MT} [j2 : NW τ2 (W m y)] : Con Tryz.prog 61 [τ1,τ2] (n ≤ BIG ∧ m ≤ BIG) (WC (max n m + 1) (x - y)):=.o2 fun hok h1 h2 hp=>w61.c2 hok (j1.h h1) (j2.h h2) hp
theorem w32 {n m : Nat} {x y : Int} : Con Tryz.prog 32 [W n x,W m y] (n ≤ BIG ∧ m ≤ BIG) (IT (cmpZ x y)):=.o2 fun hok h1 h2 hp=>by
  refine St.enter (N:=9) Tryz.func32 rfl rfl rfl hok (enter2 h1 h2) fun a=>?_
  repeat' (first|((with_reducible refine gS_ ?_);first|((with_reducible refine gL_ ?_);first|refine W.run ?_ fun a w G=>?_|refine W.mv fun a w G=>?_|refine W.asg fun a w G=>?_|refine W.bx fun b a w G=>?_|(refine W.nn hK ?_;clear hK K)|refine W.nl ?_|refine W.al fun b a w G=>?_|refine W.st fun w=>?_|refine W.stp fun w=>?_|refine W.ste ?_ fun w=>?_)|((with_reducible refine gC_ ?_);first|refine W.reg fun K hK=>?_|refine W.reg1 ?_|refine W.sq fun K hK=>?_|refine W.ds ?_ (fun β a w G hu=>W.fin ?_ hu) mixedOrders (by kernel_rfl)|refine W.sk ?_|refine W.cd (fun hc=>?_) (fun hc=>?_)|refine W.cb (fun hc=>?_) (fun hc=>?_)|refine W.bl ?_|refine W.ex ?_|refine W.rt ?_)|((with_reducible refine W.kn hK ?_);clear hK K)|(with_reducible first|refine W.bn ?_|refine W.xt ?_|refine W.xb ?_|refine W.xo ?_|refine W.tr ?_|refine W.br ?_)|refine W.rt1 rfl ?_|refine W.rt2 rfl ?_ ?_|refine W.rt3 rfl ?_ ?_ ?_)|clear hK K|clear hu|exact True.intro|exact Nat.le_trans (by clear hp;omega) hp|exact Nat.le_trans (by clear hp;omega) hp.1|exact Nat.le_trans (by clear hp;omega) hp.2|(clear hp;omega)|apply And.intro|refine GI.i fun _=>?_|with_reducible rfl|decide|(simp only [List.length_cons,List.length_nil];omega))
  all_goals exact cmp_sub
instance {n m : Nat} {x y : Int} {τ1 : MT} [j1 : NW τ1 (W n x)] {τ2 : MT} [j2 : NW τ2 (W m y)] : Con Tryz.prog 32 [τ1,τ2] (n ≤ BIG ∧ m ≤ BIG) (IT (cmpZ x y)):=.o2 fun hok h1 h2 hp=>w32.c2 hok (j1.h h1) (j2.h h2) hp
theorem w67 {n m : Nat} {x y : Int} : Con Tryz.prog 67 [W n x,W m y] (n + m ≤ BIG) (WC (n + m) (x * y)):=.o2 fun hok h1 h2 hp=>by
  refine St.enter (N:=16) Tryz.func67 rfl rfl rfl hok (enter2 h1 h2) fun a=>?_
  repeat' (first|((with_reducible refine gS_ ?_);first|((with_reducible refine gL_ ?_);first|refine W.run ?_ fun a w G=>?_|refine W.mv fun a w G=>?_|refine W.asg fun a w G=>?_|refine W.bx fun b a w G=>?_|(refine W.nn hK ?_;clear hK K)|refine W.nl ?_|refine W.al fun b a w G=>?_|refine W.st fun w=>?_|refine W.stp fun w=>?_|refine W.ste ?_ fun w=>?_)|((with_reducible refine gC_ ?_);first|refine W.reg fun K hK=>?_|refine W.reg1 ?_|refine W.sq fun K hK=>?_|refine W.ds ?_ (fun β a w G hu=>W.fin ?_ hu) mixedOrders (by kernel_rfl)|refine W.sk ?_|refine W.cd (fun hc=>?_) (fun hc=>?_)|refine W.cb (fun hc=>?_) (fun hc=>?_)|refine W.bl ?_|refine W.ex ?_|refine W.rt ?_)|((with_reducible refine W.kn hK ?_);clear hK K)|(with_reducible first|refine W.bn ?_|refine W.xt ?_|refine W.xb ?_|refine W.xo ?_|refine W.tr ?_|refine W.br ?_)|refine W.rt1 rfl ?_|refine W.rt2 rfl ?_ ?_|refine W.rt3 rfl ?_ ?_ ?_)|clear hK K|clear hu|exact True.intro|exact Nat.le_trans (by clear hp;omega) hp|exact Nat.le_trans (by clear hp;omega) hp.1|exact Nat.le_trans (by clear hp;omega) hp.2|(clear hp;omega)|apply And.intro|refine GI.i fun _=>?_|with_reducible rfl|decide|(simp only [List.length_cons,List.length_nil];omega))
  all_goals exact mul_sg
instance {n m : Nat} {x y : Int} {τ1 : MT} [j1 : NW τ1 (W n x)] {τ2 : MT} [j2 : NW τ2 (W m y)] : Con Tryz.prog 67 [τ1,τ2] (n + m ≤ BIG) (WC (n + m) (x * y)):=.o2 fun hok h1 h2 hp=>w67.c2 hok (j1.h h1) (j2.h h2) hp
theorem w33 {n m : Nat} {x y : Int} : Con Tryz.prog 33 [W n x,W m y] (n ≤ BIG ∧ m ≤ BIG) (WC (max n m) ((Nat.gcd x.natAbs y.natAbs : Nat) : Int)):=.o2 fun hok h1 h2 hp=>by
  refine St.enter (N:=11) Tryz.func33 rfl rfl rfl hok (enter2 h1 h2) fun a=>?_
  repeat' (first|((with_reducible refine gS_ ?_);first|((with_reducible refine gL_ ?_);first|refine W.run ?_ fun a w G=>?_|refine W.mv fun a w G=>?_|refine W.asg fun a w G=>?_|refine W.bx fun b a w G=>?_|(refine W.nn hK ?_;clear hK K)|refine W.nl ?_|refine W.al fun b a w G=>?_|refine W.st fun w=>?_|refine W.stp fun w=>?_|refine W.ste ?_ fun w=>?_)|((with_reducible refine gC_ ?_);first|refine W.reg fun K hK=>?_|refine W.reg1 ?_|refine W.sq fun K hK=>?_|refine W.ds ?_ (fun β a w G hu=>W.fin ?_ hu) mixedOrders (by kernel_rfl)|refine W.sk ?_|refine W.cd (fun hc=>?_) (fun hc=>?_)|refine W.cb (fun hc=>?_) (fun hc=>?_)|refine W.bl ?_|refine W.ex ?_|refine W.rt ?_)|((with_reducible refine W.kn hK ?_);clear hK K)|(with_reducible first|refine W.bn ?_|refine W.xt ?_|refine W.xb ?_|refine W.xo ?_|refine W.tr ?_|refine W.br ?_)|refine W.rt1 rfl ?_|refine W.rt2 rfl ?_ ?_|refine W.rt3 rfl ?_ ?_ ?_)|clear hK K|clear hu|exact True.intro|exact Nat.le_trans (by clear hp;omega) hp|exact Nat.le_trans (by clear hp;omega) hp.1|exact Nat.le_trans (by clear hp;omega) hp.2|(clear hp;omega)|apply And.intro|refine GI.i fun _=>?_|with_reducible rfl|decide|(simp only [List.length_cons,List.length_nil];omega))
  all_goals exact sg_false
instance {n m : Nat} {x y : Int} {τ1 : MT} [j1 : NW τ1 (W n x)] {τ2 : MT} [j2 : NW τ2 (W m y)] : Con Tryz.prog 33 [τ1,τ2] (n ≤ BIG ∧ m ≤ BIG) (WC (max n m) ((Nat.gcd x.natAbs y.natAbs : Nat) : Int)):=.o2 fun hok h1 h2 hp=>w33.c2 hok (j1.h h1) (j2.h h2) hp
theorem rsgn_z {y : Int} (h : y.sign = 0) : y = 0:=by have:=sgn_cases y;omega
theorem rsgn_nz {y : Int} (h : ¬ y.sign = 0) : y ≠ 0:=fun e=>h (by rw [e];rfl)
theorem w81 {n m : Nat} {x y : Int} : Con Tryz.prog 81 [W n x,W m y] (n ≤ BIG ∧ m ≤ BIG) (MT.tup3 (WC n (x / y)) (WC m (if y = 0 then 0 else x % y)) (IT (if y = 0 then 8 else 0))):=.o2 fun hok h1 h2 hp=>by
  refine St.enter (N:=45) Tryz.func81 rfl rfl rfl hok (enter2 h1 h2) fun a=>?_
  have hxl:=W.lt h1
  have hyl:=W.lt h2
  have hB1 : 1 ≤ BIG:=by decide
  repeat' (first|refine W.cast (t:=31) (τ:=SN (max n 1 + 1) (x.natAbs / y.natAbs + 1)) (τ':=SN n (x.natAbs / y.natAbs + 1)) (fun h=>⟨qd_bound hxl (div_t hc).2 (rsgn_nz (by assumption)),h.2⟩) ?_|((with_reducible refine gS_ ?_);first|((with_reducible refine gL_ ?_);first|refine W.run ?_ fun a w G=>?_|refine W.mv fun a w G=>?_|refine W.asg fun a w G=>?_|refine W.bx fun b a w G=>?_|(refine W.nn hK ?_;clear hK K)|refine W.nl ?_|refine W.al fun b a w G=>?_|refine W.st fun w=>?_|refine W.stp fun w=>?_|refine W.ste ?_ fun w=>?_)|((with_reducible refine gC_ ?_);first|refine W.reg fun K hK=>?_|refine W.reg1 ?_|refine W.sq fun K hK=>?_|refine W.ds ?_ (fun β a w G hu=>W.fin ?_ hu) mixedOrders (by kernel_rfl)|refine W.sk ?_|refine W.cd (fun hc=>?_) (fun hc=>?_)|refine W.cb (fun hc=>?_) (fun hc=>?_)|refine W.bl ?_|refine W.ex ?_|refine W.rt ?_)|((with_reducible refine W.kn hK ?_);clear hK K)|(with_reducible first|refine W.bn ?_|refine W.xt ?_|refine W.xb ?_|refine W.xo ?_|refine W.tr ?_|refine W.br ?_)|refine W.rt1 rfl ?_|refine W.rt2 rfl ?_ ?_|refine W.rt3 rfl ?_ ?_ ?_)|clear hK K|clear hu|exact True.intro|exact Nat.le_trans (by clear hp;omega) hp|exact Nat.le_trans (by clear hp;omega) hp.1|exact Nat.le_trans (by clear hp;omega) hp.2|(clear hp;omega)|apply And.intro|refine GI.i fun _=>?_|with_reducible rfl|decide|(simp only [List.length_cons,List.length_nil];omega))
  all_goals first
    | (have hy0:=rsgn_z hc;subst hy0;simp;done)
    | (have hy0 := rsgn_nz (y := y) (by assumption)
       have hlt:=Nat.mod_lt x.natAbs (show 0 < y.natAbs by omega)
       (try rw [if_neg hy0]) <;> first | omega | exact (qd2 hy0 (div_f hc)).1 | exact (qd2 hy0 (div_f hc)).2 | exact (qd1 hy0 (div_t hc).1 (div_t hc).2).1 | exact (qd1 hy0 (div_t hc).1 (div_t hc).2).2)
instance {n m : Nat} {x y : Int} {τ1 : MT} [j1 : NW τ1 (W n x)] {τ2 : MT} [j2 : NW τ2 (W m y)] : Con Tryz.prog 81 [τ1,τ2] (n ≤ BIG ∧ m ≤ BIG) (MT.tup3 (WC n (x / y)) (WC m (if y = 0 then 0 else x % y)) (IT (if y = 0 then 8 else 0))):=.o2 fun hok h1 h2 hp=>w81.c2 hok (j1.h h1) (j2.h h2) hp
instance {z : Int} : Con Tryz.prog 56 [IT z] (I64 z) (WC 64 z):=.o1 fun hok h1 hp=>by
  refine St.enter (N:=19) Tryz.func56 rfl rfl rfl hok (enter1 h1) fun a=>?_
  repeat' (first|((with_reducible refine gS_ ?_);first|((with_reducible refine gL_ ?_);first|refine W.run ?_ fun a w G=>?_|refine W.mv fun a w G=>?_|refine W.asg fun a w G=>?_|refine W.bx fun b a w G=>?_|(refine W.nn hK ?_;clear hK K)|refine W.nl ?_|refine W.al fun b a w G=>?_|refine W.st fun w=>?_|refine W.stp fun w=>?_|refine W.ste ?_ fun w=>?_)|((with_reducible refine gC_ ?_);first|refine W.reg fun K hK=>?_|refine W.reg1 ?_|refine W.sq fun K hK=>?_|refine W.ds ?_ (fun β a w G hu=>W.fin ?_ hu) mixedOrders (by kernel_rfl)|refine W.sk ?_|refine W.cd (fun hc=>?_) (fun hc=>?_)|refine W.cb (fun hc=>?_) (fun hc=>?_)|refine W.bl ?_|refine W.ex ?_|refine W.rt ?_)|((with_reducible refine W.kn hK ?_);clear hK K)|(with_reducible first|refine W.bn ?_|refine W.xt ?_|refine W.xb ?_|refine W.xo ?_|refine W.tr ?_|refine W.br ?_)|refine W.rt1 rfl ?_|refine W.rt2 rfl ?_ ?_|refine W.rt3 rfl ?_ ?_ ?_)|refine W.cast (t:=17) (τ':=SV 64 z.natAbs) (of_sv (by first|exact of_n hp hc|exact of_p hp hc) hp) ?_|clear hK K|clear hu|exact True.intro|exact Nat.le_trans (by clear hp;omega) hp|exact Nat.le_trans (by clear hp;omega) hp.1|exact Nat.le_trans (by clear hp;omega) hp.2|(clear hp;omega)|apply And.intro|refine GI.i fun _=>?_|with_reducible rfl|decide|(simp only [List.length_cons,List.length_nil];omega))
  all_goals (unfold sg;simp [hc];omega)
end Go.Proofs.YtjphllpnhjemjaaGreat
set_option linter.unusedVariables false
set_option linter.unusedSimpArgs false
set_option maxHeartbeats 4000000
set_option maxRecDepth 100000
set_option synthInstance.maxSize 100000
set_option synthInstance.maxHeartbeats 400000
namespace Go.Proofs.YtjphllpnhjemjaaGreat
open Go.RowKit (Below)
attribute [local irreducible] Go.Code.wp Go.wpList Go.bodyPost
class NL (τ : MT) (τ' : outParam MT) : Prop where
  h : ∀ {v : Value} {G : Gh},τ.t v G → τ'.t v G
instance NL.l {τ : MT} {l : List Nat} [q : AsW τ l] : NL τ (SL l):=⟨q.h⟩
instance  : Con Tryz.prog 34 [] (True) (WC 1 1):=.o0 fun hok  hp=>by
  refine St.enter (N:=2) Tryz.func34 rfl rfl rfl hok enter0 fun a=>?_
  repeat' (first|((with_reducible refine gS_ ?_);first|((with_reducible refine gL_ ?_);first|refine W.run ?_ fun a w G=>?_|refine W.mv fun a w G=>?_|refine W.asg fun a w G=>?_|refine W.bx fun b a w G=>?_|(refine W.nn hK ?_;clear hK K)|refine W.nl ?_|refine W.al fun b a w G=>?_|refine W.st fun w=>?_|refine W.stp fun w=>?_|refine W.ste ?_ fun w=>?_)|((with_reducible refine gC_ ?_);first|refine W.reg fun K hK=>?_|refine W.reg1 ?_|refine W.sq fun K hK=>?_|refine W.ds ?_ (fun β a w G hu=>W.fin ?_ hu) mixedOrders (by kernel_rfl)|refine W.sk ?_|refine W.cd (fun hc=>?_) (fun hc=>?_)|refine W.cb (fun hc=>?_) (fun hc=>?_)|refine W.bl ?_|refine W.ex ?_|refine W.rt ?_)|((with_reducible refine W.kn hK ?_);clear hK K)|(with_reducible first|refine W.bn ?_|refine W.xt ?_|refine W.xb ?_|refine W.xo ?_|refine W.tr ?_|refine W.br ?_)|refine W.rt1 rfl ?_|refine W.rt2 rfl ?_ ?_|refine W.rt3 rfl ?_ ?_ ?_)|clear hK K|clear hu|exact True.intro|exact Nat.le_trans (by clear hp;omega) hp|exact Nat.le_trans (by clear hp;omega) hp.1|exact Nat.le_trans (by clear hp;omega) hp.2|(clear hp;omega)|apply And.intro|refine GI.i fun _=>?_|with_reducible rfl|decide|(simp only [List.length_cons,List.length_nil];omega))
theorem plain_e {l : List Nat} : (decide ((l.length : Int) > 0) && decide (dig l ((l.length : Int) - 1).toNat ≠ 0)) = plainl l:=by
  by_cases h : 0 < l.length
  · rw [show ((l.length : Int) - 1).toNat = l.length - 1 by omega,plainl_last h];simp only [show ((l.length : Int) > 0) from by omega,decide_true,Bool.true_and]
  · rw [← plainl_none h];simp only [Bool.and_eq_false_iff,decide_eq_false_iff_not];exact .inl (by omega)
theorem rok_e {r : FR} (h0 : (decide ((r.p.length : Int) = 0) && decide ((r.q.length : Int) = 0)) = false) : (plainl r.p && plainl r.q && decide (cmpZ ((Nat.gcd (wval false r.p).natAbs (wval false r.q).natAbs : Nat) : Int) 1 = 0)) = r.ok:=by
  simp only [Bool.and_eq_false_iff,decide_eq_false_iff_not] at h0
  have h0' : ¬ (r.p.length = 0 ∧ r.q.length = 0):=by omega
  cases h1 : plainl r.p with
  | false=>exact rqok_f1 h0' h1
  | true=>cases h2 : plainl r.q with
    | false=>exact rqok_f2 h0' h2
    | true=>exact rqok_t h1 h2
theorem f_sgd {x y X : Int} {g : Nat} (hy : y ≠ 0) (hx : ¬ x.sign = 0) (hX : X = if y < 0 then -x else x) (hg : g ∣ X.natAbs) : decide (X / (g : Int) < 0) = decide (Rat.divInt x y < 0):=by
  have hx0 : x ≠ 0:=fun e=>hx (by rw [e];rfl)
  refine decide_eq_decide.2 (Iff.trans ?_ (frac_neg hx0 hy).symm)
  rw [← hX]
  obtain ⟨k,hk⟩:=Int.ofNat_dvd_left.2 hg
  have hX0 : X ≠ 0:=by split at hX <;> omega
  have hg0 : 0 < (g : Int):=by
    rcases Nat.eq_zero_or_pos g with h | h
    · subst h;simp at hk;exact absurd hk hX0
    · omega
  rw [hk,Int.mul_ediv_cancel_left _ (by omega)]
  constructor
  · intro h;exact Int.mul_neg_of_pos_of_neg hg0 h
  · intro h
    rcases (show k < 0 ∨ 0 ≤ k by omega) with h1 | h1
    · exact h1
    · have:=Int.mul_nonneg (Int.le_of_lt hg0) h1;omega
theorem w31 {l : List Nat} : Con Tryz.prog 31 [SL l] (True) (BT (plainl l)):=.o1 fun hok h1 hp=>by
  refine St.enter (N:=15) Tryz.func31 rfl rfl rfl hok (enter1 h1) fun a=>?_
  have hlim:=SL.lim h1
  simp only [LIM] at hlim
  repeat' (first|((with_reducible refine gS_ ?_);first|((with_reducible refine gL_ ?_);first|refine W.run ?_ fun a w G=>?_|refine W.mv fun a w G=>?_|refine W.asg fun a w G=>?_|refine W.bx fun b a w G=>?_|(refine W.nn hK ?_;clear hK K)|refine W.nl ?_|refine W.al fun b a w G=>?_|refine W.st fun w=>?_|refine W.stp fun w=>?_|refine W.ste ?_ fun w=>?_)|((with_reducible refine gC_ ?_);first|refine W.reg fun K hK=>?_|refine W.reg1 ?_|refine W.sq fun K hK=>?_|refine W.ds ?_ (fun β a w G hu=>W.fin ?_ hu) mixedOrders (by kernel_rfl)|refine W.sk ?_|refine W.cd (fun hc=>?_) (fun hc=>?_)|refine W.cb (fun hc=>?_) (fun hc=>?_)|refine W.bl ?_|refine W.ex ?_|refine W.rt ?_)|((with_reducible refine W.kn hK ?_);clear hK K)|(with_reducible first|refine W.bn ?_|refine W.xt ?_|refine W.xb ?_|refine W.xo ?_|refine W.tr ?_|refine W.br ?_)|refine W.rt1 rfl ?_|refine W.rt2 rfl ?_ ?_|refine W.rt3 rfl ?_ ?_ ?_)|clear hK K|clear hu|exact True.intro|exact Nat.le_trans (by clear hp;omega) hp|exact Nat.le_trans (by clear hp;omega) hp.1|exact Nat.le_trans (by clear hp;omega) hp.2|(clear hp;omega)|apply And.intro|refine GI.i fun _=>?_|with_reducible rfl|decide|(simp only [List.length_cons,List.length_nil];omega))
  all_goals first | exact plain_e | (simp only [decide_eq_true_eq] at *;omega)
instance {l : List Nat} {τ1 : MT} [j1 : NL τ1 (SL l)] : Con Tryz.prog 31 [τ1] (True) (BT (plainl l)):=.o1 fun hok h1 hp=>w31.c1 hok (j1.h h1) hp
theorem w12 {n : Nat} {r : FR} : Con Tryz.prog 12 [FX n r] (n ≤ BIG) (BT r.ok):=.o1 fun hok h1 hp=>by
  refine St.enter (N:=36) Tryz.func12 rfl rfl rfl hok (enter1 h1) fun a=>?_
  have hlim:=QR.lim (FX.qr h1)
  simp only [LIM] at hlim
  repeat' (first|((with_reducible refine gS_ ?_);first|((with_reducible refine gL_ ?_);first|refine W.run ?_ fun a w G=>?_|refine W.mv fun a w G=>?_|refine W.asg fun a w G=>?_|refine W.bx fun b a w G=>?_|(refine W.nn hK ?_;clear hK K)|refine W.nl ?_|refine W.al fun b a w G=>?_|refine W.st fun w=>?_|refine W.stp fun w=>?_|refine W.ste ?_ fun w=>?_)|((with_reducible refine gC_ ?_);first|refine W.reg fun K hK=>?_|refine W.reg1 ?_|refine W.sq fun K hK=>?_|refine W.ds ?_ (fun β a w G hu=>W.fin ?_ hu) mixedOrders (by kernel_rfl)|refine W.sk ?_|refine W.cd (fun hc=>?_) (fun hc=>?_)|refine W.cb (fun hc=>?_) (fun hc=>?_)|refine W.bl ?_|refine W.ex ?_|refine W.rt ?_)|((with_reducible refine W.kn hK ?_);clear hK K)|(with_reducible first|refine W.bn ?_|refine W.xt ?_|refine W.xb ?_|refine W.xo ?_|refine W.tr ?_|refine W.br ?_)|refine W.rt1 rfl ?_|refine W.rt2 rfl ?_ ?_|refine W.rt3 rfl ?_ ?_ ?_)|clear hK K|clear hu|exact True.intro|exact Nat.le_trans (by clear hp;omega) hp|exact Nat.le_trans (by clear hp;omega) hp.1|exact Nat.le_trans (by clear hp;omega) hp.2|(clear hp;omega)|apply And.intro|refine GI.i fun _=>?_|with_reducible rfl|decide|(simp only [List.length_cons,List.length_nil];omega))
  all_goals first | exact fv_nil hc | exact rok_e hc
instance {n : Nat} {r : FR} {τ1 : MT} [j1 : NF τ1 (FX n r)] : Con Tryz.prog 12 [τ1] (n ≤ BIG) (BT r.ok):=.o1 fun hok h1 hp=>w12.c1 hok (j1.h h1) hp
theorem w35 {n : Nat} {x : Rat} : Con Tryz.prog 35 [QV n x] (n ≤ BIG) (MT.tup2 (WC n x.num) (WC n ((x.den : Nat) : Int))):=.o1 fun hok h1 hp=>by
  obtain ⟨r,rfl,hf⟩:=QV.fx h1
  replace h1:=hf
  have hqr:=FX.qr h1
  have hwf:=QR.wf hqr
  have hlim:=QR.lim hqr
  have hn1:=h1.1
  simp only [LIM] at hlim
  refine St.enter (N:=23) Tryz.func35 rfl rfl rfl hok (enter1 h1) fun a=>?_
  repeat' (first|((with_reducible refine gS_ ?_);first|((with_reducible refine gL_ ?_);first|refine W.run ?_ fun a w G=>?_|refine W.mv fun a w G=>?_|refine W.asg fun a w G=>?_|refine W.bx fun b a w G=>?_|(refine W.nn hK ?_;clear hK K)|refine W.nl ?_|refine W.al fun b a w G=>?_|refine W.st fun w=>?_|refine W.stp fun w=>?_|refine W.ste ?_ fun w=>?_)|((with_reducible refine gC_ ?_);first|refine W.reg fun K hK=>?_|refine W.reg1 ?_|refine W.sq fun K hK=>?_|refine W.ds ?_ (fun β a w G hu=>W.fin ?_ hu) mixedOrders (by kernel_rfl)|refine W.sk ?_|refine W.cd (fun hc=>?_) (fun hc=>?_)|refine W.cb (fun hc=>?_) (fun hc=>?_)|refine W.bl ?_|refine W.ex ?_|refine W.rt ?_)|((with_reducible refine W.kn hK ?_);clear hK K)|(with_reducible first|refine W.bn ?_|refine W.xt ?_|refine W.xb ?_|refine W.xo ?_|refine W.tr ?_|refine W.br ?_)|refine W.rt1 rfl ?_|refine W.rt2 rfl ?_ ?_|refine W.rt3 rfl ?_ ?_ ?_)|clear hK K|clear hu|exact True.intro|exact Nat.le_trans (by clear hp;omega) hp|exact Nat.le_trans (by clear hp;omega) hp.1|exact Nat.le_trans (by clear hp;omega) hp.2|(clear hp;omega)|apply And.intro|refine GI.i fun _=>?_|with_reducible rfl|decide|(simp only [List.length_cons,List.length_nil];omega))
  all_goals first
    | (rw [part_e hc];rfl)
    | exact part_s hwf (part_o hc).1 (part_o hc).2
    | exact part_p hwf (part_o hc).1 (part_o hc).2
    | exact part_q hwf (part_o hc).1 (part_o hc).2
    | exact (decide_eq_false (by omega)).symm
instance {n : Nat} {x : Rat} {τ1 : MT} [j1 : NQ τ1 (QV n x)] : Con Tryz.prog 35 [τ1] (n ≤ BIG) (MT.tup2 (WC n x.num) (WC n ((x.den : Nat) : Int))):=.o1 fun hok h1 hp=>w35.c1 hok (j1.h h1) hp
theorem w55 {n m : Nat} {x y : Int} : Con Tryz.prog 55 [W n x,W m y] (max n m ≤ BIG ∧ y ≠ 0) (QC (max n m) (Rat.divInt x y)):=.o2 fun hok h1 h2 hp=>by
  refine St.enter (N:=47) Tryz.func55 rfl rfl rfl hok (enter2 h1 h2) fun a=>?_
  repeat' (first|((with_reducible refine gS_ ?_);first|((with_reducible refine gL_ ?_);first|refine W.run ?_ fun a w G=>?_|refine W.mv fun a w G=>?_|refine W.asg fun a w G=>?_|refine W.bx fun b a w G=>?_|(refine W.nn hK ?_;clear hK K)|refine W.nl ?_|refine W.al fun b a w G=>?_|refine W.st fun w=>?_|refine W.stp fun w=>?_|refine W.ste ?_ fun w=>?_)|((with_reducible refine gC_ ?_);first|refine W.reg fun K hK=>?_|refine W.reg1 ?_|refine W.sq fun K hK=>?_|refine W.ds ?_ (fun β a w G hu=>W.fin ?_ hu) mixedOrders (by kernel_rfl)|refine W.sk ?_|refine W.cd (fun hc=>?_) (fun hc=>?_)|refine W.cb (fun hc=>?_) (fun hc=>?_)|refine W.bl ?_|refine W.ex ?_|refine W.rt ?_)|((with_reducible refine W.kn hK ?_);clear hK K)|(with_reducible first|refine W.bn ?_|refine W.xt ?_|refine W.xb ?_|refine W.xo ?_|refine W.tr ?_|refine W.br ?_)|refine W.rt1 rfl ?_|refine W.rt2 rfl ?_ ?_|refine W.rt3 rfl ?_ ?_ ?_)|clear hK K|clear hu|exact True.intro|exact Nat.le_trans (by clear hp;omega) hp|exact Nat.le_trans (by clear hp;omega) hp.1|exact Nat.le_trans (by clear hp;omega) hp.2|(clear hp;omega)|apply And.intro|refine GI.i fun _=>?_|with_reducible rfl|decide|(simp only [List.length_cons,List.length_nil];omega))
  all_goals first
    | exact Nat.le_trans (one_le_of_lt (show y.natAbs ≠ 0 by omega) (W.lt h2)) (Nat.le_max_right _ _)
    | exact frac_zero hc
    | exact (frac_zero hc).symm
    | exact f_num hp.2 (by omega) (by omega) (by omega)
    | exact f_den hp.2 (by omega) (by omega) (by omega)
    | exact f_ne hp.2 (by assumption)
    | exact f_sgd hp.2 (by assumption) (by first | exact (if_pos (sgn_lt (by assumption))).symm | exact (if_neg (sgn_nlt (by assumption))).symm) (Nat.gcd_dvd_left _ _)
instance {n m : Nat} {x y : Int} {τ1 : MT} [j1 : NW τ1 (W n x)] {τ2 : MT} [j2 : NW τ2 (W m y)] : Con Tryz.prog 55 [τ1,τ2] (max n m ≤ BIG ∧ y ≠ 0) (QC (max n m) (Rat.divInt x y)):=.o2 fun hok h1 h2 hp=>w55.c2 hok (j1.h h1) (j2.h h2) hp
theorem w54 {n m : Nat} {x y : Rat} : Con Tryz.prog 54 [QV n x,QV m y] (n + m ≤ BIG) (QC (n + m) (x * y)):=.o2 fun hok h1 h2 hp=>by
  refine St.enter (N:=26) Tryz.func54 rfl rfl rfl hok (enter2 h1 h2) fun a=>?_
  repeat' (first|((with_reducible refine gS_ ?_);first|((with_reducible refine gL_ ?_);first|refine W.run ?_ fun a w G=>?_|refine W.mv fun a w G=>?_|refine W.asg fun a w G=>?_|refine W.bx fun b a w G=>?_|(refine W.nn hK ?_;clear hK K)|refine W.nl ?_|refine W.al fun b a w G=>?_|refine W.st fun w=>?_|refine W.stp fun w=>?_|refine W.ste ?_ fun w=>?_)|((with_reducible refine gC_ ?_);first|refine W.reg fun K hK=>?_|refine W.reg1 ?_|refine W.sq fun K hK=>?_|refine W.ds ?_ (fun β a w G hu=>W.fin ?_ hu) mixedOrders (by kernel_rfl)|refine W.sk ?_|refine W.cd (fun hc=>?_) (fun hc=>?_)|refine W.cb (fun hc=>?_) (fun hc=>?_)|refine W.bl ?_|refine W.ex ?_|refine W.rt ?_)|((with_reducible refine W.kn hK ?_);clear hK K)|(with_reducible first|refine W.bn ?_|refine W.xt ?_|refine W.xb ?_|refine W.xo ?_|refine W.tr ?_|refine W.br ?_)|refine W.rt1 rfl ?_|refine W.rt2 rfl ?_ ?_|refine W.rt3 rfl ?_ ?_ ?_)|clear hK K|clear hu|exact True.intro|exact Nat.le_trans (by clear hp;omega) hp|exact Nat.le_trans (by clear hp;omega) hp.1|exact Nat.le_trans (by clear hp;omega) hp.2|(clear hp;omega)|apply And.intro|refine GI.i fun _=>?_|with_reducible rfl|decide|(simp only [List.length_cons,List.length_nil];omega))
  all_goals first | exact Int.mul_ne_zero (den_ne _) (den_ne _) | exact den_ne _ | exact frac_mul | exact frac_add | exact frac_neg' | exact (Rat.sub_eq_add_neg _ _).symm | exact rcmp_sub
instance {n m : Nat} {x y : Rat} {τ1 : MT} [j1 : NQ τ1 (QV n x)] {τ2 : MT} [j2 : NQ τ2 (QV m y)] : Con Tryz.prog 54 [τ1,τ2] (n + m ≤ BIG) (QC (n + m) (x * y)):=.o2 fun hok h1 h2 hp=>w54.c2 hok (j1.h h1) (j2.h h2) hp
theorem w37 {n m : Nat} {x y : Rat} : Con Tryz.prog 37 [QV n x,QV m y] (n + m + 1 ≤ BIG) (QC (n + m + 1) (x + y)):=.o2 fun hok h1 h2 hp=>by
  refine St.enter (N:=30) Tryz.func37 rfl rfl rfl hok (enter2 h1 h2) fun a=>?_
  repeat' (first|((with_reducible refine gS_ ?_);first|((with_reducible refine gL_ ?_);first|refine W.run ?_ fun a w G=>?_|refine W.mv fun a w G=>?_|refine W.asg fun a w G=>?_|refine W.bx fun b a w G=>?_|(refine W.nn hK ?_;clear hK K)|refine W.nl ?_|refine W.al fun b a w G=>?_|refine W.st fun w=>?_|refine W.stp fun w=>?_|refine W.ste ?_ fun w=>?_)|((with_reducible refine gC_ ?_);first|refine W.reg fun K hK=>?_|refine W.reg1 ?_|refine W.sq fun K hK=>?_|refine W.ds ?_ (fun β a w G hu=>W.fin ?_ hu) mixedOrders (by kernel_rfl)|refine W.sk ?_|refine W.cd (fun hc=>?_) (fun hc=>?_)|refine W.cb (fun hc=>?_) (fun hc=>?_)|refine W.bl ?_|refine W.ex ?_|refine W.rt ?_)|((with_reducible refine W.kn hK ?_);clear hK K)|(with_reducible first|refine W.bn ?_|refine W.xt ?_|refine W.xb ?_|refine W.xo ?_|refine W.tr ?_|refine W.br ?_)|refine W.rt1 rfl ?_|refine W.rt2 rfl ?_ ?_|refine W.rt3 rfl ?_ ?_ ?_)|clear hK K|clear hu|exact True.intro|exact Nat.le_trans (by clear hp;omega) hp|exact Nat.le_trans (by clear hp;omega) hp.1|exact Nat.le_trans (by clear hp;omega) hp.2|(clear hp;omega)|apply And.intro|refine GI.i fun _=>?_|with_reducible rfl|decide|(simp only [List.length_cons,List.length_nil];omega))
  all_goals first | exact Int.mul_ne_zero (den_ne _) (den_ne _) | exact den_ne _ | exact frac_mul | exact frac_add | exact frac_neg' | exact (Rat.sub_eq_add_neg _ _).symm | exact rcmp_sub
instance {n m : Nat} {x y : Rat} {τ1 : MT} [j1 : NQ τ1 (QV n x)] {τ2 : MT} [j2 : NQ τ2 (QV m y)] : Con Tryz.prog 37 [τ1,τ2] (n + m + 1 ≤ BIG) (QC (n + m + 1) (x + y)):=.o2 fun hok h1 h2 hp=>w37.c2 hok (j1.h h1) (j2.h h2) hp
theorem w68 {n : Nat} {x : Rat} : Con Tryz.prog 68 [QV n x] (n ≤ BIG) (QC n (-x)):=.o1 fun hok h1 hp=>by
  refine St.enter (N:=14) Tryz.func68 rfl rfl rfl hok (enter1 h1) fun a=>?_
  repeat' (first|((with_reducible refine gS_ ?_);first|((with_reducible refine gL_ ?_);first|refine W.run ?_ fun a w G=>?_|refine W.mv fun a w G=>?_|refine W.asg fun a w G=>?_|refine W.bx fun b a w G=>?_|(refine W.nn hK ?_;clear hK K)|refine W.nl ?_|refine W.al fun b a w G=>?_|refine W.st fun w=>?_|refine W.stp fun w=>?_|refine W.ste ?_ fun w=>?_)|((with_reducible refine gC_ ?_);first|refine W.reg fun K hK=>?_|refine W.reg1 ?_|refine W.sq fun K hK=>?_|refine W.ds ?_ (fun β a w G hu=>W.fin ?_ hu) mixedOrders (by kernel_rfl)|refine W.sk ?_|refine W.cd (fun hc=>?_) (fun hc=>?_)|refine W.cb (fun hc=>?_) (fun hc=>?_)|refine W.bl ?_|refine W.ex ?_|refine W.rt ?_)|((with_reducible refine W.kn hK ?_);clear hK K)|(with_reducible first|refine W.bn ?_|refine W.xt ?_|refine W.xb ?_|refine W.xo ?_|refine W.tr ?_|refine W.br ?_)|refine W.rt1 rfl ?_|refine W.rt2 rfl ?_ ?_|refine W.rt3 rfl ?_ ?_ ?_)|clear hK K|clear hu|exact True.intro|exact Nat.le_trans (by clear hp;omega) hp|exact Nat.le_trans (by clear hp;omega) hp.1|exact Nat.le_trans (by clear hp;omega) hp.2|(clear hp;omega)|apply And.intro|refine GI.i fun _=>?_|with_reducible rfl|decide|(simp only [List.length_cons,List.length_nil];omega))
  all_goals first | exact Int.mul_ne_zero (den_ne _) (den_ne _) | exact den_ne _ | exact frac_mul | exact frac_add | exact frac_neg' | exact (Rat.sub_eq_add_neg _ _).symm | exact rcmp_sub
instance {n : Nat} {x : Rat} {τ1 : MT} [j1 : NQ τ1 (QV n x)] : Con Tryz.prog 68 [τ1] (n ≤ BIG) (QC n (-x)):=.o1 fun hok h1 hp=>w68.c1 hok (j1.h h1) hp
theorem w40 {n m : Nat} {x y : Rat} : Con Tryz.prog 40 [QV n x,QV m y] (n + m + 1 ≤ BIG) (QC (n + m + 1) (x - y)):=.o2 fun hok h1 h2 hp=>by
  refine St.enter (N:=9) Tryz.func40 rfl rfl rfl hok (enter2 h1 h2) fun a=>?_
  repeat' (first|((with_reducible refine gS_ ?_);first|((with_reducible refine gL_ ?_);first|refine W.run ?_ fun a w G=>?_|refine W.mv fun a w G=>?_|refine W.asg fun a w G=>?_|refine W.bx fun b a w G=>?_|(refine W.nn hK ?_;clear hK K)|refine W.nl ?_|refine W.al fun b a w G=>?_|refine W.st fun w=>?_|refine W.stp fun w=>?_|refine W.ste ?_ fun w=>?_)|((with_reducible refine gC_ ?_);first|refine W.reg fun K hK=>?_|refine W.reg1 ?_|refine W.sq fun K hK=>?_|refine W.ds ?_ (fun β a w G hu=>W.fin ?_ hu) mixedOrders (by kernel_rfl)|refine W.sk ?_|refine W.cd (fun hc=>?_) (fun hc=>?_)|refine W.cb (fun hc=>?_) (fun hc=>?_)|refine W.bl ?_|refine W.ex ?_|refine W.rt ?_)|((with_reducible refine W.kn hK ?_);clear hK K)|(with_reducible first|refine W.bn ?_|refine W.xt ?_|refine W.xb ?_|refine W.xo ?_|refine W.tr ?_|refine W.br ?_)|refine W.rt1 rfl ?_|refine W.rt2 rfl ?_ ?_|refine W.rt3 rfl ?_ ?_ ?_)|clear hK K|clear hu|exact True.intro|exact Nat.le_trans (by clear hp;omega) hp|exact Nat.le_trans (by clear hp;omega) hp.1|exact Nat.le_trans (by clear hp;omega) hp.2|(clear hp;omega)|apply And.intro|refine GI.i fun _=>?_|with_reducible rfl|decide|(simp only [List.length_cons,List.length_nil];omega))
  all_goals first | exact Int.mul_ne_zero (den_ne _) (den_ne _) | exact den_ne _ | exact frac_mul | exact frac_add | exact frac_neg' | exact (Rat.sub_eq_add_neg _ _).symm | exact rcmp_sub
instance {n m : Nat} {x y : Rat} {τ1 : MT} [j1 : NQ τ1 (QV n x)] {τ2 : MT} [j2 : NQ τ2 (QV m y)] : Con Tryz.prog 40 [τ1,τ2] (n + m + 1 ≤ BIG) (QC (n + m + 1) (x - y)):=.o2 fun hok h1 h2 hp=>w40.c2 hok (j1.h h1) (j2.h h2) hp
theorem w13 {n : Nat} {x : Rat} : Con Tryz.prog 13 [QV n x] (n ≤ BIG) (IT x.num.sign):=.o1 fun hok h1 hp=>by
  refine St.enter (N:=12) Tryz.func13 rfl rfl rfl hok (enter1 h1) fun a=>?_
  repeat' (first|((with_reducible refine gS_ ?_);first|((with_reducible refine gL_ ?_);first|refine W.run ?_ fun a w G=>?_|refine W.mv fun a w G=>?_|refine W.asg fun a w G=>?_|refine W.bx fun b a w G=>?_|(refine W.nn hK ?_;clear hK K)|refine W.nl ?_|refine W.al fun b a w G=>?_|refine W.st fun w=>?_|refine W.stp fun w=>?_|refine W.ste ?_ fun w=>?_)|((with_reducible refine gC_ ?_);first|refine W.reg fun K hK=>?_|refine W.reg1 ?_|refine W.sq fun K hK=>?_|refine W.ds ?_ (fun β a w G hu=>W.fin ?_ hu) mixedOrders (by kernel_rfl)|refine W.sk ?_|refine W.cd (fun hc=>?_) (fun hc=>?_)|refine W.cb (fun hc=>?_) (fun hc=>?_)|refine W.bl ?_|refine W.ex ?_|refine W.rt ?_)|((with_reducible refine W.kn hK ?_);clear hK K)|(with_reducible first|refine W.bn ?_|refine W.xt ?_|refine W.xb ?_|refine W.xo ?_|refine W.tr ?_|refine W.br ?_)|refine W.rt1 rfl ?_|refine W.rt2 rfl ?_ ?_|refine W.rt3 rfl ?_ ?_ ?_)|clear hK K|clear hu|exact True.intro|exact Nat.le_trans (by clear hp;omega) hp|exact Nat.le_trans (by clear hp;omega) hp.1|exact Nat.le_trans (by clear hp;omega) hp.2|(clear hp;omega)|apply And.intro|refine GI.i fun _=>?_|with_reducible rfl|decide|(simp only [List.length_cons,List.length_nil];omega))
  all_goals first | exact Int.mul_ne_zero (den_ne _) (den_ne _) | exact den_ne _ | exact frac_mul | exact frac_add | exact frac_neg' | exact (Rat.sub_eq_add_neg _ _).symm | exact rcmp_sub
instance {n : Nat} {x : Rat} {τ1 : MT} [j1 : NQ τ1 (QV n x)] : Con Tryz.prog 13 [τ1] (n ≤ BIG) (IT x.num.sign):=.o1 fun hok h1 hp=>w13.c1 hok (j1.h h1) hp
theorem w39 {n m : Nat} {x y : Rat} : Con Tryz.prog 39 [QV n x,QV m y] (n + m + 1 ≤ BIG) (IT (cmpQ x y)):=.o2 fun hok h1 h2 hp=>by
  refine St.enter (N:=9) Tryz.func39 rfl rfl rfl hok (enter2 h1 h2) fun a=>?_
  repeat' (first|((with_reducible refine gS_ ?_);first|((with_reducible refine gL_ ?_);first|refine W.run ?_ fun a w G=>?_|refine W.mv fun a w G=>?_|refine W.asg fun a w G=>?_|refine W.bx fun b a w G=>?_|(refine W.nn hK ?_;clear hK K)|refine W.nl ?_|refine W.al fun b a w G=>?_|refine W.st fun w=>?_|refine W.stp fun w=>?_|refine W.ste ?_ fun w=>?_)|((with_reducible refine gC_ ?_);first|refine W.reg fun K hK=>?_|refine W.reg1 ?_|refine W.sq fun K hK=>?_|refine W.ds ?_ (fun β a w G hu=>W.fin ?_ hu) mixedOrders (by kernel_rfl)|refine W.sk ?_|refine W.cd (fun hc=>?_) (fun hc=>?_)|refine W.cb (fun hc=>?_) (fun hc=>?_)|refine W.bl ?_|refine W.ex ?_|refine W.rt ?_)|((with_reducible refine W.kn hK ?_);clear hK K)|(with_reducible first|refine W.bn ?_|refine W.xt ?_|refine W.xb ?_|refine W.xo ?_|refine W.tr ?_|refine W.br ?_)|refine W.rt1 rfl ?_|refine W.rt2 rfl ?_ ?_|refine W.rt3 rfl ?_ ?_ ?_)|clear hK K|clear hu|exact True.intro|exact Nat.le_trans (by clear hp;omega) hp|exact Nat.le_trans (by clear hp;omega) hp.1|exact Nat.le_trans (by clear hp;omega) hp.2|(clear hp;omega)|apply And.intro|refine GI.i fun _=>?_|with_reducible rfl|decide|(simp only [List.length_cons,List.length_nil];omega))
  all_goals first | exact Int.mul_ne_zero (den_ne _) (den_ne _) | exact den_ne _ | exact frac_mul | exact frac_add | exact frac_neg' | exact (Rat.sub_eq_add_neg _ _).symm | exact rcmp_sub
instance {n m : Nat} {x y : Rat} {τ1 : MT} [j1 : NQ τ1 (QV n x)] {τ2 : MT} [j2 : NQ τ2 (QV m y)] : Con Tryz.prog 39 [τ1,τ2] (n + m + 1 ≤ BIG) (IT (cmpQ x y)):=.o2 fun hok h1 h2 hp=>w39.c2 hok (j1.h h1) (j2.h h2) hp
instance {z : Int} {x : Rat} [e : LitQ z x] : Con Tryz.prog 25 [IT z] (I64 z) (QC 64 x):=.o1 fun hok h1 hp=>by
  refine St.enter (N:=7) Tryz.func25 rfl rfl rfl hok (enter1 h1) fun a=>?_
  repeat' (first|((with_reducible refine gS_ ?_);first|((with_reducible refine gL_ ?_);first|refine W.run ?_ fun a w G=>?_|refine W.mv fun a w G=>?_|refine W.asg fun a w G=>?_|refine W.bx fun b a w G=>?_|(refine W.nn hK ?_;clear hK K)|refine W.nl ?_|refine W.al fun b a w G=>?_|refine W.st fun w=>?_|refine W.stp fun w=>?_|refine W.ste ?_ fun w=>?_)|((with_reducible refine gC_ ?_);first|refine W.reg fun K hK=>?_|refine W.reg1 ?_|refine W.sq fun K hK=>?_|refine W.ds ?_ (fun β a w G hu=>W.fin ?_ hu) mixedOrders (by kernel_rfl)|refine W.sk ?_|refine W.cd (fun hc=>?_) (fun hc=>?_)|refine W.cb (fun hc=>?_) (fun hc=>?_)|refine W.bl ?_|refine W.ex ?_|refine W.rt ?_)|((with_reducible refine W.kn hK ?_);clear hK K)|(with_reducible first|refine W.bn ?_|refine W.xt ?_|refine W.xb ?_|refine W.xo ?_|refine W.tr ?_|refine W.br ?_)|refine W.rt1 rfl ?_|refine W.rt2 rfl ?_ ?_|refine W.rt3 rfl ?_ ?_ ?_)|clear hK K|clear hu|exact True.intro|exact Nat.le_trans (by clear hp;omega) hp|exact Nat.le_trans (by clear hp;omega) hp.1|exact Nat.le_trans (by clear hp;omega) hp.2|(clear hp;omega)|apply And.intro|refine GI.i fun _=>?_|with_reducible rfl|decide|(simp only [List.length_cons,List.length_nil];omega))
  all_goals first | decide | exact hp.1 | exact hp.2 | exact frac_one.trans e.h
theorem w75 {n m : Nat} {x y : Int} : Con Tryz.prog 75 [W n x,W m y] (max n m ≤ BIG ∧ 1 ≤ max n m) (MT.tup2 (QC (max n m) (Rat.divInt x y)) (IT (if y = 0 then 8 else 0))):=.o2 fun hok h1 h2 hp=>by
  refine St.enter (N:=13) Tryz.func75 rfl rfl rfl hok (enter2 h1 h2) fun a=>?_
  repeat' (first|((with_reducible refine gS_ ?_);first|((with_reducible refine gL_ ?_);first|refine W.run ?_ fun a w G=>?_|refine W.mv fun a w G=>?_|refine W.asg fun a w G=>?_|refine W.bx fun b a w G=>?_|(refine W.nn hK ?_;clear hK K)|refine W.nl ?_|refine W.al fun b a w G=>?_|refine W.st fun w=>?_|refine W.stp fun w=>?_|refine W.ste ?_ fun w=>?_)|((with_reducible refine gC_ ?_);first|refine W.reg fun K hK=>?_|refine W.reg1 ?_|refine W.sq fun K hK=>?_|refine W.ds ?_ (fun β a w G hu=>W.fin ?_ hu) mixedOrders (by kernel_rfl)|refine W.sk ?_|refine W.cd (fun hc=>?_) (fun hc=>?_)|refine W.cb (fun hc=>?_) (fun hc=>?_)|refine W.bl ?_|refine W.ex ?_|refine W.rt ?_)|((with_reducible refine W.kn hK ?_);clear hK K)|(with_reducible first|refine W.bn ?_|refine W.xt ?_|refine W.xb ?_|refine W.xo ?_|refine W.tr ?_|refine W.br ?_)|refine W.rt1 rfl ?_|refine W.rt2 rfl ?_ ?_|refine W.rt3 rfl ?_ ?_ ?_)|clear hK K|clear hu|exact True.intro|exact Nat.le_trans (by clear hp;omega) hp|exact Nat.le_trans (by clear hp;omega) hp.1|exact Nat.le_trans (by clear hp;omega) hp.2|(clear hp;omega)|apply And.intro|refine GI.i fun _=>?_|with_reducible rfl|decide|(simp only [List.length_cons,List.length_nil];omega))
  all_goals first
    | (have h0:=sgn_z hc;subst h0;first | exact (Rat.divInt_zero _).symm | exact Rat.divInt_zero _ | rfl)
    | exact sgn_nz hc
    | exact if_neg (sgn_nz hc)
    | exact (if_neg (sgn_nz hc)).symm
instance {n m : Nat} {x y : Int} {τ1 : MT} [j1 : NW τ1 (W n x)] {τ2 : MT} [j2 : NW τ2 (W m y)] : Con Tryz.prog 75 [τ1,τ2] (max n m ≤ BIG ∧ 1 ≤ max n m) (MT.tup2 (QC (max n m) (Rat.divInt x y)) (IT (if y = 0 then 8 else 0))):=.o2 fun hok h1 h2 hp=>w75.c2 hok (j1.h h1) (j2.h h2) hp
theorem w46 {n m : Nat} {x y : Rat} : Con Tryz.prog 46 [QV n x,QV m y] (y ≠ 0 ∧ n + m ≤ BIG) (MT.tup2 (QC (n + m) (x / y)) (IT 0)):=.o2 fun hok h1 h2 hp=>by
  refine St.enter (N:=29) Tryz.func46 rfl rfl rfl hok (enter2 h1 h2) fun a=>?_
  repeat' (first|((with_reducible refine gS_ ?_);first|((with_reducible refine gL_ ?_);first|refine W.run ?_ fun a w G=>?_|refine W.mv fun a w G=>?_|refine W.asg fun a w G=>?_|refine W.bx fun b a w G=>?_|(refine W.nn hK ?_;clear hK K)|refine W.nl ?_|refine W.al fun b a w G=>?_|refine W.st fun w=>?_|refine W.stp fun w=>?_|refine W.ste ?_ fun w=>?_)|((with_reducible refine gC_ ?_);first|refine W.reg fun K hK=>?_|refine W.reg1 ?_|refine W.sq fun K hK=>?_|refine W.ds ?_ (fun β a w G hu=>W.fin ?_ hu) mixedOrders (by kernel_rfl)|refine W.sk ?_|refine W.cd (fun hc=>?_) (fun hc=>?_)|refine W.cb (fun hc=>?_) (fun hc=>?_)|refine W.bl ?_|refine W.ex ?_|refine W.rt ?_)|((with_reducible refine W.kn hK ?_);clear hK K)|(with_reducible first|refine W.bn ?_|refine W.xt ?_|refine W.xb ?_|refine W.xo ?_|refine W.tr ?_|refine W.br ?_)|refine W.rt1 rfl ?_|refine W.rt2 rfl ?_ ?_|refine W.rt3 rfl ?_ ?_ ?_)|clear hK K|clear hu|exact True.intro|exact Nat.le_trans (by clear hp;omega) hp|exact Nat.le_trans (by clear hp;omega) hp.1|exact Nat.le_trans (by clear hp;omega) hp.2|(clear hp;omega)|apply And.intro|refine GI.i fun _=>?_|with_reducible rfl|decide|(simp only [List.length_cons,List.length_nil];omega))
  all_goals first
    | (have:=h1.1;omega)
    | exact div_frac hp.1
    | exact if_neg (Int.mul_ne_zero (den_ne _) (num_nz hp.1))
    | exact Int.mul_ne_zero (den_ne _) (num_nz hp.1)
instance {n m : Nat} {x y : Rat} {τ1 : MT} [j1 : NQ τ1 (QV n x)] {τ2 : MT} [j2 : NQ τ2 (QV m y)] : Con Tryz.prog 46 [τ1,τ2] (y ≠ 0 ∧ n + m ≤ BIG) (MT.tup2 (QC (n + m) (x / y)) (IT 0)):=.o2 fun hok h1 h2 hp=>w46.c2 hok (j1.h h1) (j2.h h2) hp
end Go.Proofs.YtjphllpnhjemjaaGreat
namespace Go.Proofs.YtjphllpnhjemjaaGreat
def Cau (f : Nat → Rat) : Prop:=∀ e : Rat,0 < e → ∃ N,∀ i j,N ≤ i → N ≤ j → f i - f j < e
def Ceq (f g : Nat → Rat) : Prop:=∀ e : Rat,0 < e → ∃ N,∀ i,N ≤ i → f i - g i < e ∧ g i - f i < e
def Cnn (f : Nat → Rat) : Prop:=∀ e : Rat,0 < e → ∃ N,∀ i,N ≤ i → -e < f i
theorem half_pos {e : Rat} (h : 0 < e) : 0 < e / 2:=by grind
theorem rmul_pos {a b : Rat} (ha : 0 < a) (hb : 0 < b) : 0 < a * b:=Rat.mul_pos ha hb
theorem rdiv_pos {a b : Rat} (ha : 0 < a) (hb : 0 < b) : 0 < a / b:=by
  rw [Rat.div_def];exact Rat.mul_pos ha (Rat.inv_pos.2 hb)
theorem rmul_div {a b : Rat} (hb : 0 < b) : a / b * b = a:=by grind
theorem rmul_le {a b c d : Rat} (h1 : 0 ≤ a) (h2 : a ≤ b) (h3 : 0 ≤ c) (h4 : c ≤ d) : a * c ≤ b * d:=by
  have e1 : 0 ≤ (b - a) * c:=Rat.mul_nonneg (by grind) h3
  have e2 : 0 ≤ b * (d - c):=Rat.mul_nonneg (by grind) (by grind)
  grind
theorem Ceq.refl (f : Nat → Rat) : Ceq f f:=fun e he=>⟨0,fun i _=>by constructor <;> grind⟩
theorem Ceq.symm {f g : Nat → Rat} (h : Ceq f g) : Ceq g f:=fun e he=>by
  obtain ⟨N,hN⟩:=h e he;exact ⟨N,fun i hi=>⟨(hN i hi).2,(hN i hi).1⟩⟩
theorem Ceq.trans {f g k : Nat → Rat} (h : Ceq f g) (h' : Ceq g k) : Ceq f k:=fun e he=>by
  obtain ⟨N,hN⟩:=h (e / 2) (half_pos he);obtain ⟨M,hM⟩:=h' (e / 2) (half_pos he)
  refine ⟨max N M,fun i hi=>?_⟩
  have h1:=hN i (by omega);have h2:=hM i (by omega)
  constructor <;> grind
theorem Cau.const (q : Rat) : Cau fun _=>q:=fun e he=>⟨0,fun i j _ _=>by grind⟩
theorem Cau.add {f g : Nat → Rat} (h : Cau f) (h' : Cau g) : Cau fun n=>f n + g n:=fun e he=>by
  obtain ⟨N,hN⟩:=h (e / 2) (half_pos he);obtain ⟨M,hM⟩:=h' (e / 2) (half_pos he)
  refine ⟨max N M,fun i j hi hj=>?_⟩
  have h1:=hN i j (by omega) (by omega);have h2:=hM i j (by omega) (by omega)
  grind
theorem Cau.neg {f : Nat → Rat} (h : Cau f) : Cau fun n=>-f n:=fun e he=>by
  obtain ⟨N,hN⟩:=h e he
  exact ⟨N,fun i j hi hj=>by have:=hN j i hj hi;grind⟩
theorem Cau.bound {f : Nat → Rat} (h : Cau f) : ∃ B : Rat,0 < B ∧ ∀ i,-B < f i ∧ f i < B:=by
  obtain ⟨N,hN⟩:=h 1 (by grind)
  have hfin : ∀ n,∃ B : Rat,0 < B ∧ ∀ i,i ≤ n → -B < f i ∧ f i < B:=by
    intro n
    induction n with
    | zero =>
      rcases Rat.le_total (a:=0) (b:=(f 0)) with h0 | h0
      · exact ⟨f 0 + 1, by grind, fun i hi => by obtain rfl : i = 0 := by omega
                                                 constructor <;> grind⟩
      · exact ⟨1 - f 0, by grind, fun i hi => by obtain rfl : i = 0 := by omega
                                                 constructor <;> grind⟩
    | succ n ih =>
      obtain ⟨B,hB,hb⟩:=ih
      rcases Rat.le_total (a:=0) (b:=(f (n + 1))) with h0 | h0
      · refine ⟨B + f (n + 1) + 1,by grind,fun i hi=>?_⟩
        rcases Nat.lt_or_ge n i with h1 | h1
        · obtain rfl : i = n + 1:=by omega
          constructor <;> grind
        · have:=hb i h1;constructor <;> grind
      · refine ⟨B - f (n + 1) + 1,by grind,fun i hi=>?_⟩
        rcases Nat.lt_or_ge n i with h1 | h1
        · obtain rfl : i = n + 1:=by omega
          constructor <;> grind
        · have:=hb i h1;constructor <;> grind
  obtain ⟨B,hB,hb⟩:=hfin N
  refine ⟨B + 1,by grind,fun i=>?_⟩
  rcases Nat.lt_or_ge N i with h1 | h1
  · have a:=hN i N (by omega) (Nat.le_refl _);have b:=hN N i (Nat.le_refl _) (by omega);have c:=hb N (Nat.le_refl _)
    constructor <;> grind
  · have:=hb i h1;constructor <;> grind
theorem small_mul {a b e B : Rat} (hB : 0 < B) (h1 : -B < b ∧ b < B) (h2 : -(e / B) < a ∧ a < e / B) : -e < a * b ∧ a * b < e:=by
  have hd:=rmul_div (a:=e) hB
  generalize e / B = d at *
  have hd0 : 0 < d:=by grind
  rcases Rat.le_total (a:=0) (b:=a) with ha | ha <;> rcases Rat.le_total (a:=0) (b:=b) with hb | hb
  · have p:=Rat.mul_nonneg ha hb
    have q : 0 ≤ (d - a) * b:=Rat.mul_nonneg (by grind) hb
    have r : 0 < d * (B - b):=Rat.mul_pos hd0 (by grind)
    constructor <;> grind
  · have p : 0 ≤ a * -b:=Rat.mul_nonneg ha (by grind)
    have q : 0 ≤ (d - a) * -b:=Rat.mul_nonneg (by grind) (by grind)
    have r : 0 < d * (B + b):=Rat.mul_pos hd0 (by grind)
    constructor <;> grind
  · have p : 0 ≤ -a * b:=Rat.mul_nonneg (by grind) hb
    have q : 0 ≤ (d + a) * b:=Rat.mul_nonneg (by grind) hb
    have r : 0 < d * (B - b):=Rat.mul_pos hd0 (by grind)
    constructor <;> grind
  · have p : 0 ≤ -a * -b:=Rat.mul_nonneg (by grind) (by grind)
    have q : 0 ≤ (d + a) * -b:=Rat.mul_nonneg (by grind) (by grind)
    have r : 0 < d * (B + b):=Rat.mul_pos hd0 (by grind)
    constructor <;> grind
theorem Cau.mul {f g : Nat → Rat} (h : Cau f) (h' : Cau g) : Cau fun n=>f n * g n:=fun e he=>by
  obtain ⟨B,hB,hb⟩:=h.bound;obtain ⟨C,hC,hc⟩:=h'.bound
  have he1:=rdiv_pos (half_pos he) hC
  have he2:=rdiv_pos (half_pos he) hB
  obtain ⟨N,hN⟩:=h _ he1
  obtain ⟨M,hM⟩:=h' _ he2
  refine ⟨max N M,fun i j hi hj=>?_⟩
  have a1:=hN i j (by omega) (by omega);have a2:=hN j i (by omega) (by omega)
  have b1:=hM i j (by omega) (by omega);have b2:=hM j i (by omega) (by omega)
  have p:=small_mul (a:=f i - f j) (b:=g i) hC (hc i) ⟨by grind,a1⟩
  have q:=small_mul (a:=g i - g j) (b:=f j) hB (hb j) ⟨by grind,b1⟩
  grind
theorem Ceq.add {f g f' g' : Nat → Rat} (h : Ceq f f') (h' : Ceq g g') : Ceq (fun n=>f n + g n) fun n=>f' n + g' n:=fun e he=>by
  obtain ⟨N,hN⟩:=h (e / 2) (half_pos he);obtain ⟨M,hM⟩:=h' (e / 2) (half_pos he)
  refine ⟨max N M,fun i hi=>?_⟩
  have h1:=hN i (by omega);have h2:=hM i (by omega)
  constructor <;> grind
theorem Ceq.neg {f g : Nat → Rat} (h : Ceq f g) : Ceq (fun n=>-f n) fun n=>-g n:=fun e he=>by
  obtain ⟨N,hN⟩:=h e he
  exact ⟨N,fun i hi=>by have:=hN i hi;constructor <;> grind⟩
theorem Ceq.mul {f g f' g' : Nat → Rat} (cg : Cau g) (cf' : Cau f') (h : Ceq f f') (h' : Ceq g g') : Ceq (fun n=>f n * g n) fun n=>f' n * g' n:=fun e he=>by
  obtain ⟨B,hB,hb⟩:=cf'.bound;obtain ⟨C,hC,hc⟩:=cg.bound
  obtain ⟨N,hN⟩:=h _ (rdiv_pos (half_pos he) hC)
  obtain ⟨M,hM⟩:=h' _ (rdiv_pos (half_pos he) hB)
  refine ⟨max N M,fun i hi=>?_⟩
  have a:=hN i (by omega);have b:=hM i (by omega)
  have p:=small_mul (a:=f i - f' i) (b:=g i) hC (hc i) ⟨by grind,a.1⟩
  have q:=small_mul (a:=g i - g' i) (b:=f' i) hB (hb i) ⟨by grind,b.1⟩
  constructor <;> grind
theorem Cnn.ceq {f g : Nat → Rat} (h : Cnn f) (h' : Ceq f g) : Cnn g:=fun e he=>by
  obtain ⟨N,hN⟩:=h (e / 2) (half_pos he);obtain ⟨M,hM⟩:=h' (e / 2) (half_pos he)
  refine ⟨max N M,fun i hi=>?_⟩
  have h1:=hN i (by omega);have h2:=hM i (by omega)
  grind
theorem Cnn.add {f g : Nat → Rat} (h : Cnn f) (h' : Cnn g) : Cnn fun n=>f n + g n:=fun e he=>by
  obtain ⟨N,hN⟩:=h (e / 2) (half_pos he);obtain ⟨M,hM⟩:=h' (e / 2) (half_pos he)
  refine ⟨max N M,fun i hi=>?_⟩
  have h1:=hN i (by omega);have h2:=hM i (by omega)
  grind
theorem Cnn.mul {f g : Nat → Rat} (cf : Cau f) (cg : Cau g) (h : Cnn f) (h' : Cnn g) : Cnn fun n=>f n * g n:=fun e he=>by
  obtain ⟨B,hB,hb⟩:=cf.bound;obtain ⟨C,hC,hc⟩:=cg.bound
  obtain ⟨N,hN⟩:=h _ (rdiv_pos (half_pos he) hC)
  obtain ⟨M,hM⟩:=h' _ (rdiv_pos (half_pos he) hB)
  refine ⟨max N M,fun i hi=>?_⟩
  have a:=hN i (by omega);have b:=hM i (by omega)
  rcases Rat.le_total (a:=0) (b:=(f i)) with ha | ha <;> rcases Rat.le_total (a:=0) (b:=(g i)) with hb' | hb'
  · have:=Rat.mul_nonneg ha hb';grind
  · have:=(small_mul (e:=e / 2) (a:=g i) (b:=f i) hB (hb i) ⟨by grind,by have:=rdiv_pos (half_pos he) hB;grind⟩).1;grind
  · have:=(small_mul (e:=e / 2) (a:=f i) (b:=g i) hC (hc i) ⟨by grind,by have:=rdiv_pos (half_pos he) hC;grind⟩).1;grind
  · have : 0 ≤ -f i * -g i:=Rat.mul_nonneg (by grind) (by grind)
    grind
theorem Cau.away {f : Nat → Rat} (h : Cau f) (h0 : ¬ Cnn f) : ∃ e : Rat,0 < e ∧ ∃ N,∀ i,N ≤ i → f i < -e:=by
  unfold Cnn at h0
  have h1 : ∃ e : Rat,0 < e ∧ ∀ N,∃ i,N ≤ i ∧ f i ≤ -e:=by
    refine Classical.byContradiction fun hn=>h0 fun e he=>Classical.byContradiction fun hN=>hn ⟨e,he,fun N=>Classical.byContradiction fun hi=>hN ⟨N,fun i hNi=>?_⟩⟩
    exact Rat.not_le.1 fun hle=>hi ⟨i,hNi,hle⟩
  obtain ⟨e,he,hi⟩:=h1
  obtain ⟨N,hN⟩:=h (e / 2) (half_pos he)
  obtain ⟨k,hk,hfk⟩:=hi N
  exact ⟨e / 2,half_pos he,N,fun i hi=>by have:=hN i k hi hk;grind⟩
theorem Cnn.total {f : Nat → Rat} (h : Cau f) : Cnn f ∨ Cnn fun n=>-f n:=by
  by_cases h0 : Cnn f
  · exact .inl h0
  · obtain ⟨e,he,N,hN⟩:=h.away h0
    exact .inr fun d hd=>⟨N,fun i hi=>by have:=hN i hi;grind⟩
theorem Cnn.anti {f : Nat → Rat} (h : Cnn f) (h' : Cnn fun n=>-f n) : Ceq f fun _=>0:=fun e he=>by
  obtain ⟨N,hN⟩:=h e he;obtain ⟨M,hM⟩:=h' e he
  refine ⟨max N M,fun i hi=>?_⟩
  have h1:=hN i (by omega);have h2:=hM i (by omega)
  constructor <;> grind
theorem Cau.inv {f : Nat → Rat} (h : Cau f) {e : Rat} (he : 0 < e) {N : Nat} (hN : ∀ i,N ≤ i → e < f i ∨ f i < -e) : Cau fun n=>(f n)⁻¹:=fun d hd=>by
  obtain ⟨M,hM⟩:=h (d * (e * e)) (rmul_pos hd (rmul_pos he he))
  refine ⟨max N M,fun i j hi hj=>?_⟩
  have a:=hN i (by omega);have b:=hN j (by omega);have c:=hM i j (by omega) (by omega);have c':=hM j i (by omega) (by omega)
  have hi0 : f i ≠ 0:=by rintro hz;rw [hz] at a;grind
  have hj0 : f j ≠ 0:=by rintro hz;rw [hz] at b;grind
  have hsq : ∀ x : Rat,e < x ∨ x < -e → ∀ y : Rat,e < y ∨ y < -e → e * e ≤ x * y ∨ x * y ≤ -(e * e):=fun x hx y hy=>by
    rcases hx with hx | hx <;> rcases hy with hy | hy
    · exact .inl (rmul_le (by grind) (by grind) (by grind) (by grind))
    · have:=rmul_le (a:=e) (b:=x) (c:=e) (d:=-y) (by grind) (by grind) (by grind) (by grind);exact .inr (by grind)
    · have:=rmul_le (a:=e) (b:=-x) (c:=e) (d:=y) (by grind) (by grind) (by grind) (by grind);exact .inr (by grind)
    · have:=rmul_le (a:=e) (b:=-x) (c:=e) (d:=-y) (by grind) (by grind) (by grind) (by grind);exact .inl (by grind)
  have hp:=hsq _ a _ b
  have heq : (f i)⁻¹ - (f j)⁻¹ = (f j - f i) / (f i * f j):=by grind
  rw [heq]
  have hne : f i * f j ≠ 0:=by grind
  replace c : -(f j - f i) < d * (e * e):=by grind
  have hee:=rmul_pos he he
  generalize f i * f j = m at *
  generalize f j - f i = t at *
  generalize e * e = E at *
  have hde : d * E ≤ d * m ∨ d * E ≤ -(d * m):=by
    rcases hp with hp | hp
    · have:=Rat.mul_nonneg (a:=d) (b:=m - E) (by grind) (by grind);exact .inl (by grind)
    · have:=Rat.mul_nonneg (a:=d) (b:=-m - E) (by grind) (by grind);exact .inr (by grind)
  rcases hp with hp | hp
  · have hm : 0 < m:=by grind
    have hd' : d * E ≤ d * m:=by have:=Rat.mul_nonneg (a:=d) (b:=m - E) (by grind) (by grind);grind
    refine Rat.not_le.1 fun hle=>?_
    have e2 : t / m * m = t:=rmul_div hm
    have:=Rat.mul_nonneg (a:=t / m - d) (b:=m) (by grind) (by grind)
    generalize t / m = q at *
    grind
  · have hm : 0 < -m:=by grind
    have hd' : d * E ≤ d * -m:=by have:=Rat.mul_nonneg (a:=d) (b:=-m - E) (by grind) (by grind);grind
    refine Rat.not_le.1 fun hle=>?_
    have e2 : t / m * m = t:=by grind
    have:=Rat.mul_nonneg (a:=t / m - d) (b:=-m) (by grind) (by grind)
    generalize t / m = q at *
    grind
def CS : Type:={ f : Nat → Rat // Cau f }
instance csSetoid : Setoid CS:=⟨fun f g=>Ceq f.1 g.1,fun f=>Ceq.refl f.1,fun h=>h.symm,fun h k=>h.trans k⟩
def RR : Type:=Quotient csSetoid
def RR.mk (f : Nat → Rat) (h : Cau f) : RR:=Quotient.mk csSetoid ⟨f,h⟩
theorem RR.rep (x : RR) : ∃ f hf,x = RR.mk f hf:=Quotient.ind (motive:=fun x=>∃ f hf,x = RR.mk f hf) (fun a=>⟨a.1,a.2,rfl⟩) x
theorem RR.ind {p : RR → Prop} (h : ∀ f hf,p (RR.mk f hf)) (x : RR) : p x:=Quotient.ind (fun a=>h a.1 a.2) x
theorem RR.ext {f g : Nat → Rat} {hf : Cau f} {hg : Cau g} (h : ∀ n,f n = g n) : RR.mk f hf = RR.mk g hg:=by
  have : f = g:=funext h
  subst this;rfl
theorem RR.sound {f g : Nat → Rat} {hf : Cau f} {hg : Cau g} (h : Ceq f g) : RR.mk f hf = RR.mk g hg:=Quotient.sound h
theorem RR.exact {f g : Nat → Rat} {hf : Cau f} {hg : Cau g} (h : RR.mk f hf = RR.mk g hg) : Ceq f g:=Quotient.exact h
def RR.of (q : Rat) : RR:=RR.mk (fun _=>q) (Cau.const q)
def RR.add (x y : RR) : RR:=Quotient.lift₂ (fun f g : CS=>Quotient.mk csSetoid ⟨fun n=>f.1 n + g.1 n,f.2.add g.2⟩) (fun _ _ _ _ h k=>Quotient.sound (Ceq.add h k)) x y
def RR.neg (x : RR) : RR:=Quotient.lift (fun f : CS=>Quotient.mk csSetoid ⟨fun n=>-f.1 n,f.2.neg⟩) (fun _ _ h=>Quotient.sound (Ceq.neg h)) x
def RR.mul (x y : RR) : RR:=Quotient.lift₂ (fun f g : CS=>Quotient.mk csSetoid ⟨fun n=>f.1 n * g.1 n,f.2.mul g.2⟩) (fun _ g f' _ h k=>Quotient.sound (Ceq.mul g.2 f'.2 h k)) x y
instance : Add RR:=⟨RR.add⟩
instance : Neg RR:=⟨RR.neg⟩
instance : Mul RR:=⟨RR.mul⟩
instance : Sub RR:=⟨fun x y=>x + -y⟩
instance (n : Nat) : OfNat RR n:=⟨RR.of (n : Rat)⟩
def RR.nn (x : RR) : Prop:=Quotient.lift (fun f : CS=>Cnn f.1) (fun _ _ h=>propext ⟨fun k=>k.ceq h,fun k=>k.ceq h.symm⟩) x
instance : LE RR:=⟨fun x y=>RR.nn (y - x)⟩
instance : LT RR:=⟨fun x y=>¬ y ≤ x⟩
theorem RR.add_comm (x y : RR) : x + y = y + x:=by
  obtain ⟨f,hf,rfl⟩:=RR.rep x;obtain ⟨g,hg,rfl⟩:=RR.rep y
  exact RR.ext fun n=>by grind
theorem RR.add_assoc (x y z : RR) : x + y + z = x + (y + z):=by
  obtain ⟨f,hf,rfl⟩:=RR.rep x;obtain ⟨g,hg,rfl⟩:=RR.rep y;obtain ⟨k,hk,rfl⟩:=RR.rep z
  exact RR.ext fun n=>by grind
theorem RR.mul_comm (x y : RR) : x * y = y * x:=by
  obtain ⟨f,hf,rfl⟩:=RR.rep x;obtain ⟨g,hg,rfl⟩:=RR.rep y
  exact RR.ext fun n=>by grind
theorem RR.mul_assoc (x y z : RR) : x * y * z = x * (y * z):=by
  obtain ⟨f,hf,rfl⟩:=RR.rep x;obtain ⟨g,hg,rfl⟩:=RR.rep y;obtain ⟨k,hk,rfl⟩:=RR.rep z
  exact RR.ext fun n=>by grind
theorem RR.mul_add (x y z : RR) : x * (y + z) = x * y + x * z:=by
  obtain ⟨f,hf,rfl⟩:=RR.rep x;obtain ⟨g,hg,rfl⟩:=RR.rep y;obtain ⟨k,hk,rfl⟩:=RR.rep z
  exact RR.ext fun n=>by grind
theorem RR.add_mul (x y z : RR) : (x + y) * z = x * z + y * z:=by
  obtain ⟨f,hf,rfl⟩:=RR.rep x;obtain ⟨g,hg,rfl⟩:=RR.rep y;obtain ⟨k,hk,rfl⟩:=RR.rep z
  exact RR.ext fun n=>by grind
theorem RR.add_zero (x : RR) : x + 0 = x:=by
  obtain ⟨f,hf,rfl⟩:=RR.rep x
  exact RR.ext fun n=>by grind
theorem RR.zero_add (x : RR) : 0 + x = x:=by
  obtain ⟨f,hf,rfl⟩:=RR.rep x
  exact RR.ext fun n=>by grind
theorem RR.mul_one (x : RR) : x * 1 = x:=by
  obtain ⟨f,hf,rfl⟩:=RR.rep x
  exact RR.ext fun n=>by grind
theorem RR.one_mul (x : RR) : 1 * x = x:=by
  obtain ⟨f,hf,rfl⟩:=RR.rep x
  exact RR.ext fun n=>by grind
theorem RR.mul_zero (x : RR) : x * 0 = 0:=by
  obtain ⟨f,hf,rfl⟩:=RR.rep x
  exact RR.ext fun n=>by grind
theorem RR.zero_mul (x : RR) : 0 * x = 0:=by
  obtain ⟨f,hf,rfl⟩:=RR.rep x
  exact RR.ext fun n=>by grind
theorem RR.sub_self (x : RR) : x - x = 0:=by
  obtain ⟨f,hf,rfl⟩:=RR.rep x
  exact RR.ext fun n=>by grind
theorem RR.sub_zero (x : RR) : x - 0 = x:=by
  obtain ⟨f,hf,rfl⟩:=RR.rep x
  exact RR.ext fun n=>by grind
theorem RR.neg_neg (x : RR) : - -x = x:=by
  obtain ⟨f,hf,rfl⟩:=RR.rep x
  exact RR.ext fun n=>by grind
theorem RR.neg_mul (x y : RR) : -x * y = -(x * y):=by
  obtain ⟨f,hf,rfl⟩:=RR.rep x;obtain ⟨g,hg,rfl⟩:=RR.rep y
  exact RR.ext fun n=>by grind
theorem RR.mul_neg (x y : RR) : x * -y = -(x * y):=by
  obtain ⟨f,hf,rfl⟩:=RR.rep x;obtain ⟨g,hg,rfl⟩:=RR.rep y
  exact RR.ext fun n=>by grind
theorem RR.neg_sub (x y : RR) : -(x - y) = y - x:=by
  obtain ⟨f,hf,rfl⟩:=RR.rep x;obtain ⟨g,hg,rfl⟩:=RR.rep y
  exact RR.ext fun n=>by grind
theorem RR.sub_add (x y : RR) : x - y + y = x:=by
  obtain ⟨f,hf,rfl⟩:=RR.rep x;obtain ⟨g,hg,rfl⟩:=RR.rep y
  exact RR.ext fun n=>by grind
theorem RR.sub_trans (x y z : RR) : (y - x) + (z - y) = z - x:=by
  obtain ⟨f,hf,rfl⟩:=RR.rep x;obtain ⟨g,hg,rfl⟩:=RR.rep y;obtain ⟨k,hk,rfl⟩:=RR.rep z
  exact RR.ext fun n=>by grind
theorem RR.le_def {x y : RR} : x ≤ y ↔ RR.nn (y - x):=Iff.rfl
theorem RR.nn_iff {x : RR} : RR.nn x ↔ 0 ≤ x:=by rw [RR.le_def,RR.sub_zero]
theorem RR.nn_add {x y : RR} : RR.nn x → RR.nn y → RR.nn (x + y):=by
  obtain ⟨f,hf,rfl⟩:=RR.rep x;obtain ⟨g,hg,rfl⟩:=RR.rep y;exact fun h k=>Cnn.add h k
theorem RR.nn_mul {x y : RR} : RR.nn x → RR.nn y → RR.nn (x * y):=by
  obtain ⟨f,hf,rfl⟩:=RR.rep x;obtain ⟨g,hg,rfl⟩:=RR.rep y;exact fun h k=>Cnn.mul hf hg h k
theorem RR.nn_total (x : RR) : RR.nn x ∨ RR.nn (-x):=by
  obtain ⟨f,hf,rfl⟩:=RR.rep x;exact Cnn.total hf
theorem RR.nn_anti {x : RR} : RR.nn x → RR.nn (-x) → x = 0:=by
  obtain ⟨f,hf,rfl⟩:=RR.rep x;exact fun h k=>RR.sound (Cnn.anti h k)
theorem RR.nn_of {q : Rat} : RR.nn (RR.of q) ↔ 0 ≤ q:=by
  constructor
  · intro h
    refine Rat.not_lt.1 fun hlt=>?_
    obtain ⟨N,hN⟩:=(show Cnn (fun _=>q) from h) (-q) (by grind)
    have:=hN N (Nat.le_refl _);grind
  · intro h
    show Cnn (fun _=>q)
    exact fun e he=>⟨0,fun i _=>by grind⟩
theorem RR.le_refl (x : RR) : x ≤ x:=by rw [RR.le_def,RR.sub_self];exact RR.nn_of.2 (by decide)
theorem RR.le_trans {x y z : RR} (h : x ≤ y) (k : y ≤ z) : x ≤ z:=by
  rw [RR.le_def,← RR.sub_trans x y z];exact RR.nn_add h k
theorem RR.le_antisymm {x y : RR} (h : x ≤ y) (k : y ≤ x) : x = y:=by
  have:=RR.nn_anti (x:=y - x) h (by rw [RR.neg_sub];exact k)
  rw [← RR.sub_add y x,this,RR.zero_add]
theorem RR.le_total (x y : RR) : x ≤ y ∨ y ≤ x:=by
  rcases RR.nn_total (y - x) with h | h
  · exact .inl h
  · rw [RR.neg_sub] at h;exact .inr h
theorem RR.not_le {x y : RR} : ¬ x ≤ y ↔ y < x:=Iff.rfl
theorem RR.not_lt {x y : RR} : ¬ x < y ↔ y ≤ x:=Classical.not_not
theorem RR.le_of_lt {x y : RR} (h : x < y) : x ≤ y:=(RR.le_total x y).elim id fun k=>absurd k h
theorem RR.lt_irrefl (x : RR) : ¬ x < x:=fun h=>h (RR.le_refl x)
theorem RR.lt_of_lt_of_le {x y z : RR} (h : x < y) (k : y ≤ z) : x < z:=fun j=>h (RR.le_trans k j)
theorem RR.lt_of_le_of_lt {x y z : RR} (h : x ≤ y) (k : y < z) : x < z:=fun j=>k (RR.le_trans j h)
theorem RR.lt_trans {x y z : RR} (h : x < y) (k : y < z) : x < z:=RR.lt_of_lt_of_le h (RR.le_of_lt k)
theorem RR.ne_of_lt {x y : RR} (h : x < y) : x ≠ y:=fun e=>RR.lt_irrefl y (e ▸ h)
theorem RR.lt_of_ne {x y : RR} (h : x ≤ y) (k : x ≠ y) : x < y:=fun j=>k (RR.le_antisymm h j)
theorem RR.le_iff_sub {x y : RR} : x ≤ y ↔ 0 ≤ y - x:=by rw [RR.le_def,RR.nn_iff]
theorem RR.mul_nn {x y : RR} (h : 0 ≤ x) (k : 0 ≤ y) : 0 ≤ x * y:=RR.nn_iff.1 (RR.nn_mul (RR.nn_iff.2 h) (RR.nn_iff.2 k))
theorem RR.of_sub (p q : Rat) : RR.of (p - q) = RR.of p - RR.of q:=by rw [Rat.sub_eq_add_neg];rfl
theorem RR.of_le {p q : Rat} : RR.of p ≤ RR.of q ↔ p ≤ q:=by
  rw [RR.le_def,← RR.of_sub,RR.nn_of];constructor <;> intro h <;> grind
theorem RR.of_inj {p q : Rat} : RR.of p = RR.of q ↔ p = q :=
  ⟨fun h=>Rat.le_antisymm (RR.of_le.1 (h ▸ RR.le_refl _)) (RR.of_le.1 (h ▸ RR.le_refl _)),fun h=>h ▸ rfl⟩
theorem RR.has_inv_neg {x : RR} : ¬ RR.nn x → ∃ y,x * y = 1:=by
  obtain ⟨f,hf,rfl⟩:=RR.rep x
  intro h
  obtain ⟨e,he,N,hN⟩:=Cau.away hf h
  refine ⟨RR.mk _ (hf.inv he fun i hi=>.inr (hN i hi)),RR.sound fun d hd=>⟨N,fun i hi=>?_⟩⟩
  have h1 : f i ≠ 0:=fun hz=>by have:=hN i hi;rw [hz] at this;grind
  have h2 : f i * (f i)⁻¹ = 1:=by grind
  have h3 : ((1 : Nat) : Rat) = 1:=rfl
  simp only [h2,h3]
  constructor <;> grind
theorem RR.has_inv {x : RR} (h : x ≠ 0) : ∃ y,x * y = 1:=by
  by_cases h1 : RR.nn x
  · by_cases h2 : RR.nn (-x)
    · exact absurd (RR.nn_anti h1 h2) h
    · obtain ⟨y,hy⟩:=RR.has_inv_neg h2
      exact ⟨-y,by rw [RR.mul_neg,← RR.neg_mul,hy]⟩
  · exact RR.has_inv_neg h1
theorem RR.mul_pos {x y : RR} (h : 0 < x) (k : 0 < y) : 0 < x * y:=by
  refine RR.lt_of_ne (RR.mul_nn (RR.le_of_lt h) (RR.le_of_lt k)) fun e=>?_
  obtain ⟨z,hz⟩:=RR.has_inv (Ne.symm (RR.ne_of_lt h))
  have : y = 0:=by rw [← RR.one_mul y,← hz,RR.mul_comm x z,RR.mul_assoc,← e,RR.mul_zero]
  exact RR.ne_of_lt k this.symm
open Classical in
noncomputable def RR.inv (x : RR) : RR:=if h : x = 0 then 0 else (RR.has_inv h).choose
theorem rat_arch (q : Rat) : ∃ n : Nat,q < n:=by
  refine ⟨(q.floor + 1).toNat,?_⟩
  have h:=Rat.lt_floor_add_one q
  have h2 : q.floor + 1 ≤ (((q.floor + 1).toNat : Nat) : Int):=Int.self_le_toNat _
  have h3 : ((q.floor + 1 : Int) : Rat) ≤ ((((q.floor + 1).toNat : Nat) : Int) : Rat):=Rat.intCast_le_intCast.2 h2
  have h4 : ((((q.floor + 1).toNat : Nat) : Int) : Rat) = (((q.floor + 1).toNat : Nat) : Rat):=rfl
  grind
theorem nat_step {p : Nat → Prop} (h0 : p 0) {m : Nat} (hm : ¬ p m) : ∃ k,p k ∧ ¬ p (k + 1):=by
  induction m with
  | zero=>exact absurd h0 hm
  | succ m ih =>
    by_cases h : p m
    · exact ⟨m,h,hm⟩
    · exact ih h
theorem root_near (q : Rat) (hq : 0 ≤ q) (n : Nat) : ∃ y : Rat,0 ≤ y ∧ y * y ≤ q ∧ q < (y + 1 / ((n : Rat) + 1)) * (y + 1 / ((n : Rat) + 1)):=by
  have hn : (0 : Rat) < (n : Rat) + 1:=by have : (0 : Rat) ≤ (n : Rat):=Rat.natCast_nonneg;grind
  generalize (n : Rat) + 1 = m at *
  clear n
  obtain ⟨M,hM⟩:=rat_arch (q * (m * m) + 1)
  have hmm:=rmul_pos hn hn
  obtain ⟨k,h1,h2⟩:=nat_step (p:=fun k=>(k : Rat) * k ≤ q * (m * m)) (by show ((0 : Nat) : Rat) * ((0 : Nat) : Rat) ≤ _;have:=Rat.mul_nonneg hq (Rat.le_of_lt hmm);have e : ((0 : Nat) : Rat) = 0:=rfl;rw [e];grind) (m:=M) (by
    intro h
    have h : (M : Rat) * M ≤ q * (m * m):=h
    have hM1 : (1 : Rat) < M:=by have:=Rat.mul_nonneg hq (Rat.le_of_lt hmm);grind
    have:=rmul_le (a:=1) (b:=M) (c:=(M : Rat)) (d:=M) (by decide) (Rat.le_of_lt hM1) (by grind) (by grind)
    grind)
  have h2_1:=h2
  have h2 : ¬ ((k + 1 : Nat) : Rat) * ((k + 1 : Nat) : Rat) ≤ q * (m * m):=h2
  have ek : ((k + 1 : Nat) : Rat) = (k : Rat) + 1:=by push_cast;rfl
  rw [ek] at h2
  have hk : (0 : Rat) ≤ (k : Rat):=Rat.natCast_nonneg
  generalize (k : Rat) = K at *
  clear ek hM
  refine ⟨K / m,?_,?_,?_⟩
  · rw [Rat.div_def];exact Rat.mul_nonneg hk (Rat.le_of_lt (Rat.inv_pos.2 hn))
  · refine Rat.not_lt.1 fun h=>?_
    have:=rmul_pos (show 0 < K / m * (K / m) - q by grind) hmm
    have e1 : K / m * m = K:=rmul_div hn
    generalize K / m = r at *
    have e3 : r * m * (r * m) = K * K:=by rw [e1]
    clear h2_1 h2
    grind
  · refine Rat.not_le.1 fun h=>?_
    have:=Rat.mul_nonneg (show 0 ≤ q - (K / m + 1 / m) * (K / m + 1 / m) by grind) (Rat.le_of_lt hmm)
    have e1 : K / m * m = K:=rmul_div hn
    have e2 : 1 / m * m = 1:=rmul_div hn
    generalize K / m = r at *
    generalize 1 / m = s at *
    have e3 : (r + s) * m * ((r + s) * m) = (K + 1) * (K + 1):=by rw [show (r + s) * m = K + 1 by grind]
    clear h2_1 h1
    grind
theorem inv_small {e : Rat} (he : 0 < e) : ∃ N : Nat,∀ n : Nat,N ≤ n → 0 < 1 / ((n : Rat) + 1) ∧ 1 / ((n : Rat) + 1) < e:=by
  obtain ⟨N,hN⟩:=rat_arch (1 / e)
  refine ⟨N,fun n hn=>?_⟩
  have h0 : (N : Rat) ≤ (n : Rat):=Rat.natCast_le_natCast.2 hn
  have h1:=rdiv_pos (a:=1) (by decide) he
  have h2 : 1 / e * e = 1:=rmul_div he
  have h3 : (0 : Rat) < (n : Rat) + 1:=by grind
  refine ⟨rdiv_pos (by decide) h3,?_⟩
  have h4 : 1 / ((n : Rat) + 1) * ((n : Rat) + 1) = 1:=rmul_div h3
  have h5:=rdiv_pos (a:=1) (by decide) h3
  generalize 1 / ((n : Rat) + 1) = u at *
  generalize 1 / e = v at *
  refine Rat.not_le.1 fun hle=>?_
  have:=rmul_pos (show 0 < (n : Rat) + 1 - v by grind) he
  have:=Rat.mul_nonneg (show 0 ≤ u - e by grind) (Rat.le_of_lt h3)
  grind
theorem max0_cau {f : Nat → Rat} (h : Cau f) : Cau fun n=>if 0 ≤ f n then f n else 0:=fun e he=>by
  obtain ⟨N,hN⟩:=h e he
  refine ⟨N,fun i j hi hj=>?_⟩
  have:=hN i j hi hj
  simp only
  split <;> split <;> grind
theorem max0_eq {f : Nat → Rat} (h : Cnn f) : Ceq (fun n=>if 0 ≤ f n then f n else 0) f:=fun e he=>by
  obtain ⟨N,hN⟩:=h e he
  refine ⟨N,fun i hi=>?_⟩
  have:=hN i hi
  simp only
  split <;> constructor <;> grind
theorem RR.has_root {x : RR} : RR.nn x → ∃ y,RR.nn y ∧ y * y = x:=by
  obtain ⟨f,hf,rfl⟩:=RR.rep x
  intro h
  have h : Cnn f:=h
  have hg:=max0_cau hf
  have he:=max0_eq h
  have hg0 : ∀ n,0 ≤ (fun n=>if 0 ≤ f n then f n else 0) n:=fun n=>by simp only;split <;> grind
  generalize (fun n=>if 0 ≤ f n then f n else 0) = g at *
  have hy : ∀ n,∃ y : Rat,0 ≤ y ∧ y * y ≤ g n ∧ g n < (y + 1 / ((n : Rat) + 1)) * (y + 1 / ((n : Rat) + 1)):=fun n=>root_near (g n) (hg0 n) n
  obtain ⟨y,hy⟩ : ∃ y : Nat → Rat,∀ n,0 ≤ y n ∧ y n * y n ≤ g n ∧ g n < (y n + 1 / ((n : Rat) + 1)) * (y n + 1 / ((n : Rat) + 1)):=⟨fun n=>(hy n).choose,fun n=>(hy n).choose_spec⟩
  have hc : Cau y:=fun e he=>by
    have hE:=rmul_pos (half_pos he) (half_pos he)
    obtain ⟨N,hN⟩:=hg _ hE
    obtain ⟨M,hM⟩:=inv_small (half_pos he)
    refine ⟨max N M,fun i j hi hj=>?_⟩
    have a:=hN i j (by omega) (by omega)
    obtain ⟨u0,u1⟩:=hM j (by omega)
    obtain ⟨p1,p2,p3⟩:=hy i
    obtain ⟨q1,q2,q3⟩:=hy j
    generalize 1 / ((j : Rat) + 1) = u at *
    generalize y i = Y at *
    generalize y j = Z at *
    generalize g i = A at *
    generalize g j = B at *
    refine Rat.not_le.1 fun hle=>?_
    have r1:=rmul_le (a:=Z + e) (b:=Y) (c:=Z + e) (d:=Y) (by grind) (by grind) (by grind) (by grind)
    have r2:=rmul_le (a:=Z + u) (b:=Z + e / 2) (c:=Z + u) (d:=Z + e / 2) (by grind) (by grind) (by grind) (by grind)
    have r3:=Rat.mul_nonneg q1 (Rat.le_of_lt he)
    have r4:=rmul_pos he he
    grind
  obtain ⟨B,hB,hb⟩:=hc.bound
  refine ⟨RR.mk y hc,fun e he=>⟨0,fun i _=>by have:=(hy i).1;grind⟩,RR.sound (Ceq.trans ?_ he)⟩
  intro e he'
  have hd:=rdiv_pos he' (show 0 < 2 * B + 1 by grind)
  obtain ⟨M,hM⟩:=inv_small hd
  obtain ⟨M2,hM2⟩:=inv_small (show (0 : Rat) < 1 by decide)
  refine ⟨max M M2,fun i hi=>?_⟩
  obtain ⟨u0,u1⟩:=hM i (by omega)
  obtain ⟨_,u2⟩:=hM2 i (by omega)
  obtain ⟨q1,q2,q3⟩:=hy i
  have hbi:=hb i
  have e1 : e / (2 * B + 1) * (2 * B + 1) = e:=rmul_div (by grind)
  generalize e / (2 * B + 1) = d at *
  generalize 1 / ((i : Rat) + 1) = u at *
  simp only
  generalize y i = Y at *
  generalize g i = A at *
  have r1:=Rat.mul_nonneg (show 0 ≤ B - Y by grind) (Rat.le_of_lt u0)
  have r2:=Rat.mul_nonneg (show 0 ≤ 1 - u by grind) (Rat.le_of_lt u0)
  have r3:=rmul_pos (show 0 < d - u by grind) (show 0 < 2 * B + 1 by grind)
  constructor <;> grind
open Classical in
noncomputable def RR.sq (x : RR) : RR:=if h : 0 ≤ x then (RR.has_root (RR.nn_iff.2 h)).choose else 0
end Go.Proofs.YtjphllpnhjemjaaGreat
namespace Go.Proofs.YtjphllpnhjemjaaGreat
noncomputable def rt (q : Rat) : RR:=(RR.of q).sq
noncomputable def rs (l : List Rat) : RR:=rt ((pairF l).getD 0 default) + rt ((pairF l).getD 1 default)
theorem RR.add_le_add_right {x y : RR} (h : x ≤ y) (z : RR) : x + z ≤ y + z:=by
  rw [RR.le_iff_sub] at h ⊢
  have : y + z - (x + z) = y - x:=by
    obtain ⟨f,hf,rfl⟩:=RR.rep x;obtain ⟨g,hg,rfl⟩:=RR.rep y;obtain ⟨k,hk,rfl⟩:=RR.rep z
    exact RR.ext fun n=>by grind
  rw [this];exact h
end Go.Proofs.YtjphllpnhjemjaaGreat
namespace Go.Proofs.YtjphllpnhjemjaaGreat
open Go.RowKit (Below)
end Go.Proofs.YtjphllpnhjemjaaGreat
namespace Go.Proofs.YtjphllpnhjemjaaGreat
end Go.Proofs.YtjphllpnhjemjaaGreat
namespace Go.Proofs.YtjphllpnhjemjaaGreat
open Go.RowKit (Below)
end Go.Proofs.YtjphllpnhjemjaaGreat
namespace Go.Proofs.YtjphllpnhjemjaaGreat
open Go.RowKit (Below)
end Go.Proofs.YtjphllpnhjemjaaGreat
namespace Go.Proofs.YtjphllpnhjemjaaGreat
open Go.RowKit (Below)
section
variable {xs : List Rat} {p q i j k m : Nat}
end
end Go.Proofs.YtjphllpnhjemjaaGreat
namespace Go.Proofs.YtjphllpnhjemjaaGreat
open Go.RowKit (Below)
section
variable {a b c d s p q m : Rat}
theorem min_comm : minQ a b = minQ b a:=by unfold minQ;split <;> split <;> grind
theorem max_le (h : a ≤ b) : maxQ a b = b:=by unfold maxQ;split <;> grind
variable (h0 : 0 ≤ s) (h1 : s ≤ p) (h2 : p ≤ q) (h3 : q ≤ m)
include h0 h1 h2 h3
end
end Go.Proofs.YtjphllpnhjemjaaGreat
namespace Go.Proofs.YtjphllpnhjemjaaGreat
end Go.Proofs.YtjphllpnhjemjaaGreat
namespace Go.Proofs.YtjphllpnhjemjaaGreat
theorem cmpQ_gt0 {x y : Rat} : cmpQ x y > 0 ↔ y < x:=by unfold cmpQ;split <;> (try split) <;> simp_all <;> grind
section
variable {xs : List Rat} {a b c d : Nat}
end
end Go.Proofs.YtjphllpnhjemjaaGreat
namespace Go.Proofs.YtjphllpnhjemjaaGreat
end Go.Proofs.YtjphllpnhjemjaaGreat
set_option linter.unusedVariables false
set_option linter.unusedSimpArgs false
set_option maxHeartbeats 4000000
set_option maxRecDepth 100000
set_option synthInstance.maxSize 100000
set_option synthInstance.maxHeartbeats 400000
namespace Go.Proofs.YtjphllpnhjemjaaGreat
open Go.RowKit (Below)
attribute [local irreducible] Go.Code.wp Go.wpList Go.bodyPost
end Go.Proofs.YtjphllpnhjemjaaGreat
set_option linter.unusedVariables false
set_option linter.unusedSimpArgs false
set_option maxHeartbeats 4000000
set_option maxRecDepth 100000
set_option synthInstance.maxSize 100000
set_option synthInstance.maxHeartbeats 400000
namespace Go.Proofs.YtjphllpnhjemjaaGreat
open Go.RowKit (Below)
attribute [local irreducible] Go.Code.wp Go.wpList Go.bodyPost
instance {z : Int} : Con Tryz.prog 15 [.ex (errV 59 (z))] (True) (IT z):=.o1 fun hok h1 hp=>by
  refine St.enter (N:=15) Tryz.func15 rfl rfl rfl hok (enter1 h1) fun a=>?_
  repeat' (first|((with_reducible refine gS_ ?_);first|((with_reducible refine gL_ ?_);first|refine W.run ?_ fun a w G=>?_|refine W.mv fun a w G=>?_|refine W.asg fun a w G=>?_|refine W.bx fun b a w G=>?_|(refine W.nn hK ?_;clear hK K)|refine W.nl ?_|refine W.al fun b a w G=>?_|refine W.st fun w=>?_|refine W.stp fun w=>?_|refine W.ste ?_ fun w=>?_)|((with_reducible refine gC_ ?_);first|refine W.reg fun K hK=>?_|refine W.reg1 ?_|refine W.sq fun K hK=>?_|refine W.ds ?_ (fun β a w G hu=>W.fin ?_ hu) mixedOrders (by kernel_rfl)|refine W.sk ?_|refine W.cd (fun hc=>?_) (fun hc=>?_)|refine W.cb (fun hc=>?_) (fun hc=>?_)|refine W.bl ?_|refine W.ex ?_|refine W.rt ?_)|((with_reducible refine W.kn hK ?_);clear hK K)|(with_reducible first|refine W.bn ?_|refine W.xt ?_|refine W.xb ?_|refine W.xo ?_|refine W.tr ?_|refine W.br ?_)|refine W.rt1 rfl ?_|refine W.rt2 rfl ?_ ?_|refine W.rt3 rfl ?_ ?_ ?_)|clear hK K|clear hu|exact True.intro|exact Nat.le_trans (by clear hp;omega) hp|exact Nat.le_trans (by clear hp;omega) hp.1|exact Nat.le_trans (by clear hp;omega) hp.2|(clear hp;omega)|apply And.intro|refine GI.i fun _=>?_|with_reducible rfl|decide|(simp only [List.length_cons,List.length_nil];omega))
  all_goals (exact absurd hc (by decide))
instance {z c : Int} : Con Tryz.prog 26 [.ex (errV 59 (z)),IT c] (True) (BT (decide (z = c))):=.o2 fun hok h1 h2 hp=>by
  refine St.enter (N:=9) Tryz.func26 rfl rfl rfl hok (enter2 h1 h2) fun a=>?_
  repeat' (first|((with_reducible refine gS_ ?_);first|((with_reducible refine gL_ ?_);first|refine W.run ?_ fun a w G=>?_|refine W.mv fun a w G=>?_|refine W.asg fun a w G=>?_|refine W.bx fun b a w G=>?_|(refine W.nn hK ?_;clear hK K)|refine W.nl ?_|refine W.al fun b a w G=>?_|refine W.st fun w=>?_|refine W.stp fun w=>?_|refine W.ste ?_ fun w=>?_)|((with_reducible refine gC_ ?_);first|refine W.reg fun K hK=>?_|refine W.reg1 ?_|refine W.sq fun K hK=>?_|refine W.ds ?_ (fun β a w G hu=>W.fin ?_ hu) mixedOrders (by kernel_rfl)|refine W.sk ?_|refine W.cd (fun hc=>?_) (fun hc=>?_)|refine W.cb (fun hc=>?_) (fun hc=>?_)|refine W.bl ?_|refine W.ex ?_|refine W.rt ?_)|((with_reducible refine W.kn hK ?_);clear hK K)|(with_reducible first|refine W.bn ?_|refine W.xt ?_|refine W.xb ?_|refine W.xo ?_|refine W.tr ?_|refine W.br ?_)|refine W.rt1 rfl ?_|refine W.rt2 rfl ?_ ?_|refine W.rt3 rfl ?_ ?_ ?_)|clear hK K|clear hu|exact True.intro|exact Nat.le_trans (by clear hp;omega) hp|exact Nat.le_trans (by clear hp;omega) hp.1|exact Nat.le_trans (by clear hp;omega) hp.2|(clear hp;omega)|apply And.intro|refine GI.i fun _=>?_|with_reducible rfl|decide|(simp only [List.length_cons,List.length_nil];omega))
end Go.Proofs.YtjphllpnhjemjaaGreat
namespace Go.Proofs.YtjphllpnhjemjaaGreat
theorem cmpQ_eq0 {x y : Rat} : cmpQ x y = 0 ↔ x = y:=by unfold cmpQ;split <;> (try split) <;> simp_all <;> grind
end Go.Proofs.YtjphllpnhjemjaaGreat
namespace Go.Proofs.YtjphllpnhjemjaaGreat
theorem num_sg (x : Rat) : (x.num.sign = 1 ↔ 0 < x) ∧ (x.num.sign = 0 ↔ x = 0) ∧ (x.num.sign < 0 ↔ x < 0):=by
  have h1:=@rat_pos_iff x;have h2:=@Rat.num_eq_zero x;have h3:=sgn_cases x.num
  refine ⟨by rw [h1];omega,by rw [← h2];omega,?_⟩
  constructor
  · intro h;have : ¬ 0 < x:=fun k=>by have:=h1.1 k;omega
    have : x ≠ 0:=fun e=>by have:=h2.2 e;omega
    grind
  · intro h;have : ¬ 0 < x.num:=fun k=>by have:=h1.2 k;grind
    have : x.num ≠ 0:=fun e=>by have:=h2.1 e;grind
    omega
end Go.Proofs.YtjphllpnhjemjaaGreat
