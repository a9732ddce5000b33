import Derived.Test.YtboicjlbbbodgaaGreatDoorQTsd
set_option linter.unusedVariables false
set_option linter.unusedSimpArgs false
namespace Go.Proofs.YtboicjlbbbodgaaGreatDoor
set_option maxHeartbeats 1000000
set_option maxRecDepth 100000
open Go.RowKit (Below)
private theorem c_147 : callable Tryz.prog 147 = true:=by kernel_rfl
private theorem c_148 : callable Tryz.prog 148 = true:=by kernel_rfl
private theorem c_160 : callable Tryz.prog 160 = true:=by kernel_rfl
private theorem c_176 : callable Tryz.prog 176 = true:=by kernel_rfl
private theorem c_177 : callable Tryz.prog 177 = true:=by kernel_rfl
private theorem c_178 : callable Tryz.prog 178 = true:=by kernel_rfl
private theorem tS_99 : tyS Tryz.prog 99 (none) = true:=by kernel_rfl
theorem rgcd_ok {na nb x y : Nat} {v1 v2 : Value} {W0 : World} {G0 : Gh} (hok : Gok W0 G0) (h1 : (SN na x).t v1 G0) (h2 : (SN nb y).t v2 G0) (hna : na ≤ BIG) (hnb : nb ≤ BIG) : Calls Tryz.prog 158 #[v1,v2] W0 (Ret W0 G0 (SN (max na nb) (Nat.gcd x y))):=by
 have hx:=SN.lt h1
 have hy:=SN.lt h2
 have hxM : x < 2 ^ max na nb:=Nat.lt_of_lt_of_le hx (Nat.pow_le_pow_right (by decide) (by omega))
 have hyM : y < 2 ^ max na nb:=Nat.lt_of_lt_of_le hy (Nat.pow_le_pow_right (by decide) (by omega))
 have hMB : max na nb ≤ BIG:=by omega
 generalize max na nb = M at *
 have hMI:=hMB
 simp only [BIG] at hMI
 clear hna hnb
 refine St.enter (N:=72) (L:=[(1,SN nb y),(0,SN na x)]) (args:=[v1,v2]) Tryz.func158 rfl rfl rfl hok (enter2 h1 h2) fun a S=>?_
 refine wp_reg fun K hK=>?_
 refine S.s (τ:=MT.ex (Value.slice none 0 0)) (OpR.asn S.ok rfl rfl) rfl fun a w G S=>?_
 refine wn hK ?_;clear hK K
 refine wp_reg fun K hK=>?_
 refine S.m rfl (S.g 2 rfl) rfl fun a w G S=>?_
 refine S.stepO rfl rfl rfl c_160 (rtrimO_ok S.ok (SN.toSL (S.g 0 rfl))) rfl rfl fun b7 n7 c7 q7 a w G hqq7 hR S=>?_
 rw [val_words] at hR
 have hX : ROW n7 c7 q7 x M:=ROW.mk hqq7 hR.2.1 hR.1 hR.2.2 hMB hxM
 refine S.m rfl (S.g 3 rfl) rfl fun a w G S=>?_
 refine S.stepO rfl rfl rfl c_160 (rtrimO_ok S.ok (SN.toSL (S.g 0 rfl))) rfl rfl fun b9 n9 c9 q9 a w G hqq9 hR S=>?_
 rw [val_words] at hR
 have hY : ROW n9 c9 q9 y M:=ROW.mk hqq9 hR.2.1 hR.1 hR.2.2 hMB hyM
 replace S:=S.d6
 refine S.q rfl (S.g 2 rfl) rfl fun a w G S=>?_
 replace S:=S.d6
 refine S.q rfl (S.g 1 rfl) rfl fun a w G S=>?_
 refine wn hK ?_;clear hK K
 replace S:=S.d5.d4.d3.d2
 refine wp_seq_k fun K hK=>?_
 refine wp_reg fun K hK=>?_
 refine S.m rfl (S.g 1 rfl) rfl fun a w G S=>?_
 refine S.s (OpR.lenA S.ok rfl Tryz.underlying55 (S.e 0 rfl) MT.self) rfl fun a w G S=>?_
 refine S.s (OpR.neql S.ok rfl (S.e 0 rfl) (rfl : _ = nv .i64 0) MT.self) rfl fun a w G S=>?_
 refine wn hK ?_;clear hK K
 replace S:=S.d2.d1
 refine S.cond 0 rfl (fun hc1=>?_) (fun hc1=>?_)
 ·
  have hp2:=of_decide_eq_true hc1
  have hx0:=hX.zero hp2
  refine wp_reg fun K hK=>?_
  obtain ⟨vz3,Gz3,hz3,hs3,hg3,hle3,S⟩:=S.freeze 0 rfl
  have hsl3:=SL_prefix hz3 hg3 (by rw [hY.len];exact hY.le) hY.le hY.lim hY.wf (rfl : _ = Value.slice (some ⟨b9,0,none⟩) (n9) (c9))
  replace S:=S.also (t:=1) (τ:=SN M y) ((S.e 1 rfl).symm ▸ (SL.toSN hsl3 hY.eq hyM))
  replace S : St W0 G0 72 [(1,SN M y),(12,BT (decide (n7 = 0))),(0,MT.ex (Value.slice (some ⟨b7,0,none⟩) (n7) (c7))),(4,MT.ex (Value.slice none 0 0))] [⟨b7,99,some (c7),MT.ex (Value.agg (ucells (q7)).toArray)⟩] a _ _:=S.keep [0,1,3,4]
  refine S.m rfl (S.g 0 rfl) rfl fun a w G S=>?_
  replace S:=S.d4
  refine S.q rfl (S.g 0 rfl) rfl fun a w G S=>?_
  refine wn hK ?_;clear hK K
  replace S:=S.d1
  exact wp_ret (then_ret (S.retTmp rfl (SN.eq (SN.up (S.g 0 rfl) (by omega)) (by rw [hx0,Nat.gcd_zero_left]))))
 ·
  have hp4:=of_decide_eq_false hc1
  have hx0:=hX.nz hp4
  refine wp_skip ?_
  refine hK _ _ ?_;clear hK K
  refine wp_seq_k fun K hK=>?_
  refine wp_reg fun K hK=>?_
  refine S.m rfl (S.g 1 rfl) rfl fun a w G S=>?_
  refine S.s (OpR.lenA S.ok rfl Tryz.underlying55 (S.e 0 rfl) MT.self) rfl fun a w G S=>?_
  refine S.s (OpR.neql S.ok rfl (S.e 0 rfl) (rfl : _ = nv .i64 0) MT.self) rfl fun a w G S=>?_
  refine wn hK ?_;clear hK K
  replace S:=S.d2.d1
  refine S.cond 0 rfl (fun hc5=>?_) (fun hc5=>?_)
  ·
   have hp6:=of_decide_eq_true hc5
   have hy0:=hY.zero hp6
   refine wp_reg fun K hK=>?_
   obtain ⟨vz7,Gz7,hz7,hs7,hg7,hle7,S⟩:=S.freeze 1 rfl
   have hsl7:=SL_prefix hz7 hg7 (by rw [hX.len];exact hX.le) hX.le hX.lim hX.wf (rfl : _ = Value.slice (some ⟨b7,0,none⟩) (n7) (c7))
   replace S:=S.also (t:=0) (τ:=SN M x) ((S.e 3 rfl).symm ▸ (SL.toSN hsl7 hX.eq hxM))
   replace S : St W0 G0 72 [(0,SN M x),(16,BT (decide (n9 = 0))),(12,BT (decide (n7 = 0))),(1,MT.ex (Value.slice (some ⟨b9,0,none⟩) (n9) (c9))),(4,MT.ex (Value.slice none 0 0))] [⟨b9,99,some (c9),MT.ex (Value.agg (ucells (q9)).toArray)⟩] a _ _:=S.keep [0,1,2,3,5]
   refine S.m rfl (S.g 0 rfl) rfl fun a w G S=>?_
   replace S:=S.d5
   refine S.q rfl (S.g 0 rfl) rfl fun a w G S=>?_
   refine wn hK ?_;clear hK K
   replace S:=S.d1
   exact wp_ret (then_ret (S.retTmp rfl (SN.eq (SN.up (S.g 0 rfl) (by omega)) (by rw [hy0,Nat.gcd_zero_right]))))
  ·
   have hp8:=of_decide_eq_false hc5
   have hy0:=hY.nz hp8
   refine wp_skip ?_
   refine hK _ _ ?_;clear hK K
   refine wp_reg fun K hK=>?_
   refine S.s (τ:=NT 0) (OpR.asn S.ok rfl (rfl : _ = nv .i64 0)) rfl fun a w G S=>?_
   refine wn hK ?_;clear hK K
   refine wp_seq_k fun K hK=>?_
   refine wp_block ?_
   refine wp_loopJ (fun μ a w=>∃ (bxA : Nat) (nA : Nat) (cA : Nat) (qA : List Nat) (zA : Nat) (bxB : Nat) (nB : Nat) (cB : Nat) (qB : List Nat) (zB : Nat) (k : Nat) (G : Gh),μ = zA ∧ (ROW nA cA qA zA M) ∧ (ROW nB cB qB zB M) ∧ (zA ≠ 0) ∧ (zB ≠ 0) ∧ (zA * 2 ^ k = x) ∧ (zB * 2 ^ k = y) ∧  St W0 G0 72 [(5,NT k),(16,BT (decide (n9 = 0))),(12,BT (decide (n7 = 0))),(1,MT.ex (Value.slice (some ⟨bxB,0,none⟩) (nB) (cB))),(0,MT.ex (Value.slice (some ⟨bxA,0,none⟩) (nA) (cA))),(4,MT.ex (Value.slice none 0 0))] [⟨bxB,99,some (cB),MT.ex (Value.agg (ucells (qB)).toArray)⟩,⟨bxA,99,some (cA),MT.ex (Value.agg (ucells (qA)).toArray)⟩] a w G) (x) ⟨b7,n7,c7,q7,x,b9,n9,c9,q9,y,0,_,rfl,hX,hY,hx0,hy0,(by simp),(by simp),(S.keep [0,1,2,3,4,5]).keepB [0,1] (by decide)⟩ ?_
   clear S
   intro μ a w ⟨bxA,nA,cA,qA,zA,bxB,nB,cB,qB,zB,k,G,hm,hA,hB,hA0,hB0,hax,hby,S⟩
   refine wp_seq_k fun K hK=>?_
   refine wp_reg fun K hK=>?_
   have hpA:=hA.pos hA0
   have hpB:=hB.pos hB0
   have hdA:=hA.odd hpA
   have hdB:=hB.odd hpB
   have hkM:=pow_lt_of hA0 hax hxM
   have hdqA:=dig_lt hA.wf 0
   have hdqB:=dig_lt hB.wf 0
   have hlA:=hA.len
   have hlB:=hB.len
   have hcA:=hA.le
   have hcB:=hB.le
   refine S.m rfl (S.g 4 rfl) rfl fun a w G S=>?_
   refine S.s (τ:=PB bxA) (OpR.ixA (i:=0) S.ok rfl Tryz.underlying55 tS_99 (S.e 0 rfl) (rfl : _ = nv .i64 0) rfl (by first | omega | (simp;omega)) (ptr_eq (by simp only [Option.getD_none] <;> omega))) rfl fun a w G S=>?_
   refine S.s (OpR.ldElem S.ok rfl (S.e 0 rfl) (S.box 1 rfl) tS_99 (dig_get (by first | omega | (simp;omega)))) rfl fun a w G S=>?_
   refine S.s (OpR.nand1 S.ok rfl (S.e 0 rfl) (rfl : _ = nv .u32 1) (by omega) MT.self) rfl fun a w G S=>?_
   refine S.s (OpR.neql S.ok rfl (S.e 0 rfl) (rfl : _ = nv .u32 0) MT.self) rfl fun a w G S=>?_
   refine S.m rfl (S.g 0 rfl) rfl fun a w G S=>?_
   rcases Bool.eq_false_or_eq_true (decide (((dig (qA) (0)) % 2) = 0)) with hc9 | hc9
   ·
    have hp10:=of_decide_eq_true hc9
    replace S:=S.boolIs 0 rfl hc9
    refine S.stepG 0 (OpR.mv S.ok rfl (S.g 10 rfl)) rfl rfl rfl rfl rfl rfl fun a w G S=>?_
    refine S.stepG (τ:=PB bxB) 1 (OpR.ixA (i:=0) S.ok rfl Tryz.underlying55 tS_99 (S.e 0 rfl) (rfl : _ = nv .i64 0) rfl (by first | omega | (simp;omega)) (ptr_eq (by simp only [Option.getD_none] <;> omega))) rfl rfl rfl rfl rfl rfl fun a w G S=>?_
    refine S.stepG 2 (OpR.ldElem S.ok rfl (S.e 0 rfl) (S.box 0 rfl) tS_99 (dig_get (by first | omega | (simp;omega)))) rfl rfl rfl rfl rfl rfl fun a w G S=>?_
    refine S.stepG 3 (OpR.nand1 S.ok rfl (S.e 0 rfl) (rfl : _ = nv .u32 1) (by omega) MT.self) rfl rfl rfl rfl rfl rfl fun a w G S=>?_
    refine S.stepG 4 (OpR.neql S.ok rfl (S.e 0 rfl) (rfl : _ = nv .u32 0) MT.self) rfl rfl rfl rfl rfl rfl fun a w G S=>?_
    refine S.s (τ:=BT (decide (((dig (qB) (0)) % 2) = 0))) (OpR.pick S.ok rfl (S.e 5 rfl) (S.g 0 rfl)) rfl fun a w G S=>?_
    refine wn hK ?_;clear hK K
    replace S:=S.d12.d11.d10.d9.d8.d7.d6.d5.d4.d3.d2.d1
    refine S.cond 0 rfl (fun hc11=>?_) (fun hc11=>?_)
    ·
     have hp12:=of_decide_eq_true hc11
     refine wp_skip ?_
     refine hK _ _ ?_;clear hK K
     refine wp_block ?_
     refine wp_reg fun K hK=>?_
     refine S.m rfl (S.g 5 rfl) rfl fun a w G S=>?_
     replace S : St W0 G0 72 [(30,MT.ex (Value.slice (some ⟨bxA,0,none⟩) (nA) (cA))),(29,BT (decide (((dig (qB) (0)) % 2) = 0))),(5,NT k),(16,BT (decide (n9 = 0))),(12,BT (decide (n7 = 0))),(1,MT.ex (Value.slice (some ⟨bxB,0,none⟩) (nB) (cB))),(0,MT.ex (Value.slice (some ⟨bxA,0,none⟩) (nA) (cA))),(4,MT.ex (Value.slice none 0 0))] [⟨bxA,99,some (cA),MT.ex (Value.agg (ucells (qA)).toArray)⟩,⟨bxB,99,some (cB),MT.ex (Value.agg (ucells (qB)).toArray)⟩] a _ _:=S.keepB [1,0] (by decide)
     refine S.stepM1 0 rfl rfl rfl c_176 (rhalve_ok S.world (S.g 0 rfl) hA.len hA.wf hA.le hA.lim) rfl rfl fun vR lR a w G hR hlR S=>?_
     obtain ⟨hRw,j31,hRj,rfl,hRe⟩:=hR
     have hA2:=hA.half hlR hRw hRj hRe hMB
     generalize lR = q31 at *
     refine S.m rfl (S.g 6 rfl) rfl fun a w G S=>?_
     replace S : St W0 G0 72 [(32,MT.ex (Value.slice (some ⟨bxB,0,none⟩) (nB) (cB))),(31,MT.ex (Value.slice (some ⟨bxA,0,none⟩) (j31) (cA))),(30,MT.ex (Value.slice (some ⟨bxA,0,none⟩) (nA) (cA))),(29,BT (decide (((dig (qB) (0)) % 2) = 0))),(5,NT k),(16,BT (decide (n9 = 0))),(12,BT (decide (n7 = 0))),(1,MT.ex (Value.slice (some ⟨bxB,0,none⟩) (nB) (cB))),(0,MT.ex (Value.slice (some ⟨bxA,0,none⟩) (nA) (cA))),(4,MT.ex (Value.slice none 0 0))] [⟨bxB,99,some (cB),MT.ex (Value.agg (ucells (qB)).toArray)⟩,⟨bxA,99,some (cA),MT.ex (Value.agg (ucells (q31)).toArray)⟩] a _ _:=S.keepB [1,0] (by decide)
     refine S.stepM1 0 rfl rfl rfl c_176 (rhalve_ok S.world (S.g 0 rfl) hB.len hB.wf hB.le hB.lim) rfl rfl fun vR lR a w G hR hlR S=>?_
     obtain ⟨hRw,j33,hRj,rfl,hRe⟩:=hR
     have hB2:=hB.half hlR hRw hRj hRe hMB
     generalize lR = q33 at *
     have hgb:=gcd_both (by omega) (by omega) hax hby
     replace S:=S.d9
     refine S.q rfl (S.g 2 rfl) rfl fun a w G S=>?_
     replace S:=S.d9
     refine S.q rfl (S.g 1 rfl) rfl fun a w G S=>?_
     refine wn hK ?_;clear hK K
     replace S:=S.d5.d4.d3.d2
     refine wp_region_lit ?_
     refine S.m rfl (S.g 3 rfl) rfl fun a w G S=>?_
     refine S.s (OpR.nadd S.ok rfl (S.e 0 rfl) (rfl : _ = nv .i64 1) (wr_i64 (by omega)) MT.self) rfl fun a w G S=>?_
     replace S:=S.d5
     refine S.q rfl (S.g 0 rfl) rfl fun a w G S=>?_
     refine wpList_nil ?_
     replace S:=S.d2.d1
     exact ⟨(zA / 2),(by omega),bxA,j31,cA,q31,(zA / 2),bxB,j33,cB,q33,(zB / 2),k + 1,_,rfl,hA2,hB2,(by omega),(by omega),hgb.1,hgb.2,(S.keep [0,4,5,1,2,6]).keepB [0,1] (by decide)⟩
    ·
     have hp13:=of_decide_eq_false hc11
     refine wp_exit (then_exit (then_exit (exit_same ?_)))
     clear hK K
     refine hK _ _ ?_;clear hK K
     refine wp_seq_k fun K hK=>?_
     refine wp_block ?_
     have hgo : Nat.gcd zA zB % 2 = 1:=gcd_odd (by omega)
     refine wp_loopJ (fun μ a w=>∃ (bxP : Nat) (nP : Nat) (cP : Nat) (qP : List Nat) (zP : Nat) (bxR : Nat) (nR : Nat) (cR : Nat) (qR : List Nat) (zR : Nat) (G : Gh),μ = zP + zR ∧ (ROW nP cP qP zP M) ∧ (ROW nR cR qR zR M) ∧ (zR ≠ 0) ∧ (Nat.gcd zP zR = Nat.gcd zA zB) ∧  St W0 G0 72 [(29,BT (decide (((dig (qB) (0)) % 2) = 0))),(5,NT k),(16,BT (decide (n9 = 0))),(12,BT (decide (n7 = 0))),(1,MT.ex (Value.slice (some ⟨bxR,0,none⟩) (nR) (cR))),(0,MT.ex (Value.slice (some ⟨bxP,0,none⟩) (nP) (cP))),(4,MT.ex (Value.slice none 0 0))] [⟨bxR,99,some (cR),MT.ex (Value.agg (ucells (qR)).toArray)⟩,⟨bxP,99,some (cP),MT.ex (Value.agg (ucells (qP)).toArray)⟩] a w G) (zA + zB) ⟨bxA,nA,cA,qA,zA,bxB,nB,cB,qB,zB,_,rfl,hA,hB,hB0,rfl,(S.keep [0,1,2,3,4,5,6]).keepB [0,1] (by decide)⟩ ?_
     clear S
     intro μ a w ⟨bxP,nP,cP,qP,zP,bxR,nR,cR,qR,zR,G,hm,hP_,hR_,hR0,hg,S⟩
     refine wp_seq_k fun K hK=>?_
     refine wp_reg fun K hK=>?_
     refine S.m rfl (S.g 5 rfl) rfl fun a w G S=>?_
     refine S.s (OpR.lenA S.ok rfl Tryz.underlying55 (S.e 0 rfl) MT.self) rfl fun a w G S=>?_
     refine S.s (OpR.ngtr S.ok rfl (S.e 0 rfl) (rfl : _ = nv .i64 0) MT.self) rfl fun a w G S=>?_
     refine wn hK ?_;clear hK K
     replace S:=S.d2.d1
     refine S.cond 0 rfl (fun hc14=>?_) (fun hc14=>?_)
     ·
      have hp15:=of_decide_eq_true hc14
      have hP0:=hP_.nz (by omega)
      refine wp_skip ?_
      refine hK _ _ ?_;clear hK K
      refine wp_block ?_
      refine wp_seq_k fun K hK=>?_
      refine wp_block ?_
      refine wp_loopJ (fun μ a w=>∃ (nE : Nat) (qE : List Nat) (zE : Nat) (G : Gh),μ = zE ∧ (ROW nE cP qE zE M) ∧ (zE ≠ 0) ∧ (Nat.gcd zE zR = Nat.gcd zA zB) ∧ (zE ≤ zP) ∧  St W0 G0 72 [(38,BT (decide (0 < nP))),(29,BT (decide (((dig (qB) (0)) % 2) = 0))),(5,NT k),(16,BT (decide (n9 = 0))),(12,BT (decide (n7 = 0))),(1,MT.ex (Value.slice (some ⟨bxR,0,none⟩) (nR) (cR))),(0,MT.ex (Value.slice (some ⟨bxP,0,none⟩) (nE) (cP))),(4,MT.ex (Value.slice none 0 0))] [⟨bxR,99,some (cR),MT.ex (Value.agg (ucells (qR)).toArray)⟩,⟨bxP,99,some (cP),MT.ex (Value.agg (ucells (qE)).toArray)⟩] a w G) (zP) ⟨nP,qP,zP,_,rfl,hP_,hP0,hg,(by omega),(S.keep [0,1,2,3,4,5,6,7]).keepB [0,1] (by decide)⟩ ?_
      clear S
      intro μ a w ⟨nE,qE,zE,G,hm,hE,hE0,hgE,hEP,S⟩
      refine wp_seq_k fun K hK=>?_
      refine wp_reg fun K hK=>?_
      have hpE:=hE.pos hE0
      have hdE:=hE.odd hpE
      have hdqE:=dig_lt hE.wf 0
      have hlE:=hE.len
      have hcE:=hE.le
      refine S.m rfl (S.g 6 rfl) rfl fun a w G S=>?_
      refine S.s (τ:=PB bxP) (OpR.ixA (i:=0) S.ok rfl Tryz.underlying55 tS_99 (S.e 0 rfl) (rfl : _ = nv .i64 0) rfl (by first | omega | (simp;omega)) (ptr_eq (by simp only [Option.getD_none] <;> omega))) rfl fun a w G S=>?_
      refine S.s (OpR.ldElem S.ok rfl (S.e 0 rfl) (S.box 1 rfl) tS_99 (dig_get (by first | omega | (simp;omega)))) rfl fun a w G S=>?_
      refine S.s (OpR.nand1 S.ok rfl (S.e 0 rfl) (rfl : _ = nv .u32 1) (by omega) MT.self) rfl fun a w G S=>?_
      refine S.s (OpR.neql S.ok rfl (S.e 0 rfl) (rfl : _ = nv .u32 0) MT.self) rfl fun a w G S=>?_
      refine wn hK ?_;clear hK K
      replace S:=S.d4.d3.d2.d1
      refine S.cond 0 rfl (fun hc16=>?_) (fun hc16=>?_)
      ·
       have hp17:=of_decide_eq_true hc16
       refine wp_skip ?_
       refine hK _ _ ?_;clear hK K
       refine wp_block ?_
       refine wp_region_lit ?_
       refine S.m rfl (S.g 7 rfl) rfl fun a w G S=>?_
       replace S : St W0 G0 72 [(44,MT.ex (Value.slice (some ⟨bxP,0,none⟩) (nE) (cP))),(43,BT (decide (((dig (qE) (0)) % 2) = 0))),(38,BT (decide (0 < nP))),(29,BT (decide (((dig (qB) (0)) % 2) = 0))),(5,NT k),(16,BT (decide (n9 = 0))),(12,BT (decide (n7 = 0))),(1,MT.ex (Value.slice (some ⟨bxR,0,none⟩) (nR) (cR))),(0,MT.ex (Value.slice (some ⟨bxP,0,none⟩) (nE) (cP))),(4,MT.ex (Value.slice none 0 0))] [⟨bxP,99,some (cP),MT.ex (Value.agg (ucells (qE)).toArray)⟩,⟨bxR,99,some (cR),MT.ex (Value.agg (ucells (qR)).toArray)⟩] a _ _:=S.keepB [1,0] (by decide)
       refine S.stepM1 0 rfl rfl rfl c_176 (rhalve_ok S.world (S.g 0 rfl) hE.len hE.wf hE.le hE.lim) rfl rfl fun vR lR a w G hR hlR S=>?_
       obtain ⟨hRw,j45,hRj,rfl,hRe⟩:=hR
       have hE2:=hE.half hlR hRw hRj hRe hMB
       generalize lR = q45 at *
       replace S:=S.d9
       refine S.q rfl (S.g 0 rfl) rfl fun a w G S=>?_
       refine wpList_nil ?_
       replace S:=S.d2.d1
       exact ⟨(zE / 2),(by omega),j45,q45,(zE / 2),_,rfl,hE2,(by omega),(gcd_half (by omega) hgE hgo),(by omega),(S.keep [2,3,4,5,6,7,0,8]).keepB [1,0] (by decide)⟩
      ·
       have hp18:=of_decide_eq_false hc16
       refine wp_exit (then_exit (then_exit (exit_same ?_)))
       clear hK K
       refine hK _ _ ?_;clear hK K
       refine wp_seq_k fun K hK=>?_
       refine wp_block ?_
       refine wp_loopJ (fun μ a w=>∃ (nF : Nat) (qF : List Nat) (zF : Nat) (G : Gh),μ = zF ∧ (ROW nF cR qF zF M) ∧ (zF ≠ 0) ∧ (Nat.gcd zE zF = Nat.gcd zA zB) ∧ (zF ≤ zR) ∧  St W0 G0 72 [(43,BT (decide (((dig (qE) (0)) % 2) = 0))),(38,BT (decide (0 < nP))),(29,BT (decide (((dig (qB) (0)) % 2) = 0))),(5,NT k),(16,BT (decide (n9 = 0))),(12,BT (decide (n7 = 0))),(1,MT.ex (Value.slice (some ⟨bxR,0,none⟩) (nF) (cR))),(0,MT.ex (Value.slice (some ⟨bxP,0,none⟩) (nE) (cP))),(4,MT.ex (Value.slice none 0 0))] [⟨bxR,99,some (cR),MT.ex (Value.agg (ucells (qF)).toArray)⟩,⟨bxP,99,some (cP),MT.ex (Value.agg (ucells (qE)).toArray)⟩] a w G) (zR) ⟨nR,qR,zR,_,rfl,hR_,hR0,hgE,(by omega),(S.keep [0,1,2,3,4,5,6,7,8]).keepB [0,1] (by decide)⟩ ?_
       clear S
       intro μ a w ⟨nF,qF,zF,G,hm,hF,hF0,hgF,hFR,S⟩
       refine wp_seq_k fun K hK=>?_
       refine wp_reg fun K hK=>?_
       have hpF:=hF.pos hF0
       have hdF:=hF.odd hpF
       have hdqF:=dig_lt hF.wf 0
       have hlF:=hF.len
       have hcF:=hF.le
       refine S.m rfl (S.g 6 rfl) rfl fun a w G S=>?_
       refine S.s (τ:=PB bxR) (OpR.ixA (i:=0) S.ok rfl Tryz.underlying55 tS_99 (S.e 0 rfl) (rfl : _ = nv .i64 0) rfl (by first | omega | (simp;omega)) (ptr_eq (by simp only [Option.getD_none] <;> omega))) rfl fun a w G S=>?_
       refine S.s (OpR.ldElem S.ok rfl (S.e 0 rfl) (S.box 0 rfl) tS_99 (dig_get (by first | omega | (simp;omega)))) rfl fun a w G S=>?_
       refine S.s (OpR.nand1 S.ok rfl (S.e 0 rfl) (rfl : _ = nv .u32 1) (by omega) MT.self) rfl fun a w G S=>?_
       refine S.s (OpR.neql S.ok rfl (S.e 0 rfl) (rfl : _ = nv .u32 0) MT.self) rfl fun a w G S=>?_
       refine wn hK ?_;clear hK K
       replace S:=S.d4.d3.d2.d1
       refine S.cond 0 rfl (fun hc19=>?_) (fun hc19=>?_)
       ·
        have hp20:=of_decide_eq_true hc19
        refine wp_skip ?_
        refine hK _ _ ?_;clear hK K
        refine wp_block ?_
        refine wp_region_lit ?_
        refine S.m rfl (S.g 7 rfl) rfl fun a w G S=>?_
        refine S.stepM1 0 rfl rfl rfl c_176 (rhalve_ok S.world (S.g 0 rfl) hF.len hF.wf hF.le hF.lim) rfl rfl fun vR lR a w G hR hlR S=>?_
        obtain ⟨hRw,j52,hRj,rfl,hRe⟩:=hR
        have hF2:=hF.half hlR hRw hRj hRe hMB
        generalize lR = q52 at *
        replace S:=S.d9
        refine S.q rfl (S.g 0 rfl) rfl fun a w G S=>?_
        refine wpList_nil ?_
        replace S:=S.d2.d1
        exact ⟨(zF / 2),(by omega),j52,q52,(zF / 2),_,rfl,hF2,(by omega),(gcd_half' (by omega) hgF hgo),(by omega),(S.keep [2,3,4,5,6,7,0,8,9]).keepB [0,1] (by decide)⟩
       ·
        have hp21:=of_decide_eq_false hc19
        refine wp_exit (then_exit (then_exit (exit_same ?_)))
        clear hK K
        refine hK _ _ ?_;clear hK K
        refine wp_seq_k fun K hK=>?_
        refine wp_reg fun K hK=>?_
        have hE1:=hE.len
        have hE2:=hE.le
        have hE3:=hE.lim
        have hE4:=hE.wf
        have hF1:=hF.len
        have hF2:=hF.le
        have hF3:=hF.lim
        have hF4:=hF.wf
        simp only [LIM] at hE3 hF3
        refine S.m rfl (S.g 8 rfl) rfl fun a w G S=>?_
        refine S.m rfl (S.g 8 rfl) rfl fun a w G S=>?_
        refine S.s (τ:=IT (cmpN (val (qE.take (nE))) (val (qF.take (nF))))) (OpR.lendPP S rfl c_148 (i:=1) (j:=0) rfl rfl (by decide) (S.e 1 rfl) (S.e 0 rfl) (by omega) (by omega) (by simp only [LIM];omega) (by assumption) (by omega) (by omega) (by simp only [LIM];omega) (by assumption) fun G1 hok1 hsl1 hsl2=>(rcompareL_ok hok1 hsl1 hsl2 )) rfl fun a w G S=>?_
        refine S.s (OpR.ilss S.ok rfl (S.e 0 rfl) (rfl : _ = nv .i64 0) MT.self) rfl fun a w G S=>?_
        refine wn hK ?_;clear hK K
        replace S:=S.d3.d2.d1
        refine S.cond 0 rfl (fun hc22=>?_) (fun hc22=>?_)
        ·
         have hp23:=of_decide_eq_true hc22
         rw [hE.val,hF.val] at hp23
         have hlt : zE < zF:=cmpN_neg.1 hp23
         refine wp_region_lit ?_
         refine S.m rfl (S.g 8 rfl) rfl fun a w G S=>?_
         refine S.m rfl (S.g 10 rfl) rfl fun a w G S=>?_
         replace S:=S.d11
         refine S.q rfl (S.g 1 rfl) rfl fun a w G S=>?_
         replace S:=S.d11
         refine S.q rfl (S.g 1 rfl) rfl fun a w G S=>?_
         refine wpList_nil ?_
         replace S:=S.d3.d2
         refine hK _ _ ?_;clear hK K
         refine wp_reg fun K hK=>?_
         refine S.m rfl (S.g 1 rfl) rfl fun a w G S=>?_
         refine S.m rfl (S.g 1 rfl) rfl fun a w G S=>?_
         refine S.stepML rfl rfl rfl c_177 (S.e 0 rfl) (by rw [hE.len];exact hE.le) hE.le hE.lim hE.wf (fun G1 hleG SW hsl=>rtakeO_ok SW ((MT.ex (Value.slice (some ⟨bxR,0,none⟩) (nF) (cR))).mono hleG (S.g 1 rfl)) hsl hF.len hF.wf hF.le hF.lim) rfl rfl fun vR lR a w G hR hlR S=>?_
         obtain ⟨hTw,cT,hcT,hTv⟩:=hR
         have hT:=take_ge (by rw [List.length_take];omega) hTw hF.val (take_take_words hE.eq (by rw [hE.cnt,hF.cnt];exact words_len_mono (Nat.le_of_lt_succ (by omega)))) (by omega) hcT hTv
         refine wn hK ?_;clear hK K
         replace S:=S.d2.d1.d0
         refine wp_region_lit ?_
         refine S.m rfl (S.g 1 rfl) rfl fun a w G S=>?_
         refine S.stepM1 0 rfl rfl rfl c_178 (rcutO_ok S.world (S.g 0 rfl) hlR hTw hF.le hF.lim) rfl rfl fun vC lC a w G hR hlC S=>?_
         obtain ⟨rfl,jC,hjC,rfl,hjv⟩:=hR
         rw [hT] at hjv
         have hN : ROW jC cR lC (zF - zE) M:=ROW.mk hlC (by have:=hF.le;omega) hTw hjv hMB (by have:=hF.lt;omega)
         replace S:=S.d3
         refine S.q rfl (S.g 0 rfl) rfl fun a w G S=>?_
         refine wpList_nil ?_
         replace S:=S.d2.d1
         exact ⟨(zF - zE) + zE,(by omega),bxR,jC,cR,lC,(zF - zE),bxP,nE,cP,qE,zE,_,rfl,hN,(by first | exact hF | exact hE),(by omega),(by first | exact gcd_minus hgF (by omega) | exact gcd_minus (by rw [Nat.gcd_comm];exact hgF) (by omega)),(S.keep [6,7,8,9,1,0,10]).keepB [1,0] (by decide)⟩
        ·
         have hp24:=of_decide_eq_false hc22
         rw [hE.val,hF.val] at hp24
         have hge : zF ≤ zE:=Nat.not_lt.1 fun h=>hp24 (cmpN_neg.2 h)
         refine wp_skip ?_
         refine hK _ _ ?_;clear hK K
         refine wp_reg fun K hK=>?_
         refine S.m rfl (S.g 9 rfl) rfl fun a w G S=>?_
         refine S.m rfl (S.g 9 rfl) rfl fun a w G S=>?_
         replace S : St W0 G0 72 [(60,MT.ex (Value.slice (some ⟨bxR,0,none⟩) (nF) (cR))),(59,MT.ex (Value.slice (some ⟨bxP,0,none⟩) (nE) (cP))),(56,BT (decide ((cmpN (val (qE.take (nE))) (val (qF.take (nF)))) < 0))),(50,BT (decide (((dig (qF) (0)) % 2) = 0))),(43,BT (decide (((dig (qE) (0)) % 2) = 0))),(38,BT (decide (0 < nP))),(29,BT (decide (((dig (qB) (0)) % 2) = 0))),(5,NT k),(16,BT (decide (n9 = 0))),(12,BT (decide (n7 = 0))),(1,MT.ex (Value.slice (some ⟨bxR,0,none⟩) (nF) (cR))),(0,MT.ex (Value.slice (some ⟨bxP,0,none⟩) (nE) (cP))),(4,MT.ex (Value.slice none 0 0))] [⟨bxP,99,some (cP),MT.ex (Value.agg (ucells (qE)).toArray)⟩,⟨bxR,99,some (cR),MT.ex (Value.agg (ucells (qF)).toArray)⟩] a _ _:=S.keepB [1,0] (by decide)
         refine S.stepML rfl rfl rfl c_177 (S.e 0 rfl) (by rw [hF.len];exact hF.le) hF.le hF.lim hF.wf (fun G1 hleG SW hsl=>rtakeO_ok SW ((MT.ex (Value.slice (some ⟨bxP,0,none⟩) (nE) (cP))).mono hleG (S.g 1 rfl)) hsl hE.len hE.wf hE.le hE.lim) rfl rfl fun vR lR a w G hR hlR S=>?_
         obtain ⟨hTw,cT,hcT,hTv⟩:=hR
         have hT:=take_ge (by rw [List.length_take];omega) hTw hE.val (take_take_words hF.eq (by rw [hF.cnt,hE.cnt];exact words_len_mono (Nat.le_of_lt_succ (by omega)))) (by omega) hcT hTv
         refine wn hK ?_;clear hK K
         replace S:=S.d2.d1.d0
         refine wp_region_lit ?_
         refine S.m rfl (S.g 9 rfl) rfl fun a w G S=>?_
         refine S.stepM1 0 rfl rfl rfl c_178 (rcutO_ok S.world (S.g 0 rfl) hlR hTw hE.le hE.lim) rfl rfl fun vC lC a w G hR hlC S=>?_
         obtain ⟨rfl,jC,hjC,rfl,hjv⟩:=hR
         rw [hT] at hjv
         have hN : ROW jC cP lC (zE - zF) M:=ROW.mk hlC (by have:=hE.le;omega) hTw hjv hMB (by have:=hE.lt;omega)
         replace S:=S.d11
         refine S.q rfl (S.g 0 rfl) rfl fun a w G S=>?_
         refine wpList_nil ?_
         replace S:=S.d2.d1
         exact ⟨(zE - zF) + zF,(by omega),bxP,jC,cP,lC,(zE - zF),bxR,nF,cR,qF,zF,_,rfl,hN,(by first | exact hF | exact hE),(by omega),(by first | exact gcd_minus hgF (by omega) | exact gcd_minus (by rw [Nat.gcd_comm];exact hgF) (by omega)),(S.keep [5,6,7,8,9,0,10]).keepB [1,0] (by decide)⟩
     ·
      have hp25:=of_decide_eq_false hc14
      have hP0:=hP_.zero (by omega)
      refine wp_exit (then_exit (then_exit (exit_same ?_)))
      clear hK K
      refine hK _ _ ?_;clear hK K
      refine wp_seq_k fun K hK=>?_
      refine wp_reg fun K hK=>?_
      obtain ⟨vz26,Gz26,hz26,hs26,hg26,hle26,S⟩:=S.freeze 0 rfl
      have hsl26:=SL_prefix hz26 hg26 (by rw [hR_.len];exact hR_.le) hR_.le hR_.lim hR_.wf (rfl : _ = Value.slice (some ⟨bxR,0,none⟩) (nR) (cR))
      replace S:=S.also (t:=1) (τ:=SN M zR) ((S.e 5 rfl).symm ▸ (SL.toSN hsl26 hR_.eq hR_.lt))
      replace S : St W0 G0 72 [(1,SN M zR),(38,BT (decide (0 < nP))),(29,BT (decide (((dig (qB) (0)) % 2) = 0))),(5,NT k),(16,BT (decide (n9 = 0))),(12,BT (decide (n7 = 0))),(0,MT.ex (Value.slice (some ⟨bxP,0,none⟩) (nP) (cP))),(4,MT.ex (Value.slice none 0 0))] [⟨bxP,99,some (cP),MT.ex (Value.agg (ucells (qP)).toArray)⟩] a _ _:=S.keep [0,1,2,3,4,5,7,8]
      have hkM:=pow_lt_of hA0 hax hxM
      have hsc : zR * 2 ^ k = Nat.gcd x y:=by rw [← gcd_scale hax hby,← hg,hP0,Nat.gcd_zero_left]
      have hgl : Nat.gcd x y < 2 ^ M:=gcd_lt_pow hx0 hxM
      refine S.m rfl (S.g 3 rfl) rfl fun a w G S=>?_
      refine S.s (τ:=NT 0) (OpR.mv S.ok rfl (rfl : _ = nv .i64 0)) rfl fun a w G S=>?_
      refine wn hK ?_;clear hK K
      refine wp_block ?_
      refine wp_loopJ (fun μ a w=>∃ (i : Nat) (zz : Nat) (G : Gh),μ = k - i ∧ (i ≤ k) ∧ (zz = zR * 2 ^ i) ∧  St W0 G0 72 [(65,NT i),(64,NT k),(1,SN M zz),(38,BT (decide (0 < nP))),(29,BT (decide (((dig (qB) (0)) % 2) = 0))),(5,NT k),(16,BT (decide (n9 = 0))),(12,BT (decide (n7 = 0))),(0,MT.ex (Value.slice (some ⟨bxP,0,none⟩) (nP) (cP))),(4,MT.ex (Value.slice none 0 0))] [] a w G) (k - 0) ⟨0,zR,_,rfl,(by omega),(by simp),(S.keep [0,1,2,3,4,5,6,7,8,9]).keepB [] (by decide)⟩ ?_
      clear S
      intro μ a w ⟨i,zz,G,hm,hi,hzz,S⟩
      refine wp_reg fun K hK=>?_
      refine S.s (OpR.nlss S.ok rfl (S.e 0 rfl) (S.e 1 rfl) MT.self) rfl fun a w G S=>?_
      refine wn hK ?_;clear hK K
      refine wp_seq_k fun K hK=>?_
      refine S.cond 0 rfl (fun hc27=>?_) (fun hc27=>?_)
      ·
       have hp28:=of_decide_eq_true hc27
       refine wp_skip ?_
       refine hK _ _ ?_;clear hK K
       refine wp_seq_k fun K hK=>?_
       refine wp_block ?_
       refine wp_region_lit ?_
       have htw:=twos_lt hsc ‹i < k› hgl
       rw [← hzz] at htw
       refine S.m rfl (S.g 3 rfl) rfl fun a w G S=>?_
       refine S.m rfl (S.g 4 rfl) rfl fun a w G S=>?_
       refine S.s (τ:=SN M (zz + zz)) (OpR.conv' (OpR.call2 rfl c_147 (rplus_ok S.ok (S.g 1 rfl) (S.g 0 rfl) (by omega) (by omega))) fun _ _ h=>(SN.cast h rfl htw.2)) rfl fun a w G S=>?_
       replace S:=S.d6
       refine S.q rfl (S.g 0 rfl) rfl fun a w G S=>?_
       refine wpList_nil ?_
       replace S:=S.d3.d2.d1
       refine hK _ _ ?_;clear hK K
       refine wp_region_lit ?_
       refine S.s (OpR.nadd S.ok rfl (S.e 2 rfl) (rfl : _ = nv .i64 1) (wr_i64 (by omega)) MT.self) rfl fun a w G S=>?_
       replace S:=S.d3
       refine S.m rfl (S.g 0 rfl) rfl fun a w G S=>?_
       refine wpList_nil ?_
       replace S:=S.d1
       exact ⟨k - (i + 1),(by omega),i + 1,zz + zz,_,rfl,(by omega),htw.1,(S.keep [0,3,1,4,5,6,7,8,9,10]).keepB [] (by decide)⟩
      ·
       have hp29:=of_decide_eq_false hc27
       refine wp_exit (then_exit (then_exit (exit_same ?_)))
       clear hK K
       refine hK _ _ ?_;clear hK K
       refine wp_reg fun K hK=>?_
       refine S.m rfl (S.g 3 rfl) rfl fun a w G S=>?_
       replace S:=S.d11
       refine S.q rfl (S.g 0 rfl) rfl fun a w G S=>?_
       refine wn hK ?_;clear hK K
       replace S:=S.d1
       exact wp_ret (S.retTmp rfl (SN.eq (SN.up (S.g 0 rfl) (by omega)) (by rw [hzz,show i = k from by omega];exact hsc)))
   ·
    have hp30:=of_decide_eq_false hc9
    replace S:=S.boolIs 0 rfl hc9
    refine S.skipG 0 rfl rfl rfl rfl rfl rfl fun a w G S=>?_
    refine S.skipG 1 rfl rfl rfl rfl rfl rfl fun a w G S=>?_
    refine S.skipG 2 rfl rfl rfl rfl rfl rfl fun a w G S=>?_
    refine S.skipG 3 rfl rfl rfl rfl rfl rfl fun a w G S=>?_
    refine S.skipG 4 rfl rfl rfl rfl rfl rfl fun a w G S=>?_
    refine S.s (τ:=BT false) (OpR.pick S.ok rfl (S.e 5 rfl) rfl) rfl fun a w G S=>?_
    refine wn hK ?_;clear hK K
    replace S:=S.d12.d11.d10.d9.d8.d7.d6.d5.d4.d3.d2.d1
    refine wp_cond_false (S.e 0 rfl) ?_
    refine wp_exit (then_exit (then_exit (exit_same ?_)))
    clear hK K
    refine hK _ _ ?_;clear hK K
    refine wp_seq_k fun K hK=>?_
    refine wp_block ?_
    have hgo : Nat.gcd zA zB % 2 = 1:=gcd_odd (by omega)
    refine wp_loopJ (fun μ a w=>∃ (bxP : Nat) (nP : Nat) (cP : Nat) (qP : List Nat) (zP : Nat) (bxR : Nat) (nR : Nat) (cR : Nat) (qR : List Nat) (zR : Nat) (G : Gh),μ = zP + zR ∧ (ROW nP cP qP zP M) ∧ (ROW nR cR qR zR M) ∧ (zR ≠ 0) ∧ (Nat.gcd zP zR = Nat.gcd zA zB) ∧  St W0 G0 72 [(29,BT false),(5,NT k),(16,BT (decide (n9 = 0))),(12,BT (decide (n7 = 0))),(1,MT.ex (Value.slice (some ⟨bxR,0,none⟩) (nR) (cR))),(0,MT.ex (Value.slice (some ⟨bxP,0,none⟩) (nP) (cP))),(4,MT.ex (Value.slice none 0 0))] [⟨bxR,99,some (cR),MT.ex (Value.agg (ucells (qR)).toArray)⟩,⟨bxP,99,some (cP),MT.ex (Value.agg (ucells (qP)).toArray)⟩] a w G) (zA + zB) ⟨bxA,nA,cA,qA,zA,bxB,nB,cB,qB,zB,_,rfl,hA,hB,hB0,rfl,(S.keep [0,1,2,3,4,5,6]).keepB [0,1] (by decide)⟩ ?_
    clear S
    intro μ a w ⟨bxP,nP,cP,qP,zP,bxR,nR,cR,qR,zR,G,hm,hP_,hR_,hR0,hg,S⟩
    refine wp_seq_k fun K hK=>?_
    refine wp_reg fun K hK=>?_
    refine S.m rfl (S.g 5 rfl) rfl fun a w G S=>?_
    refine S.s (OpR.lenA S.ok rfl Tryz.underlying55 (S.e 0 rfl) MT.self) rfl fun a w G S=>?_
    refine S.s (OpR.ngtr S.ok rfl (S.e 0 rfl) (rfl : _ = nv .i64 0) MT.self) rfl fun a w G S=>?_
    refine wn hK ?_;clear hK K
    replace S:=S.d2.d1
    refine S.cond 0 rfl (fun hc31=>?_) (fun hc31=>?_)
    ·
     have hp32:=of_decide_eq_true hc31
     have hP0:=hP_.nz (by omega)
     refine wp_skip ?_
     refine hK _ _ ?_;clear hK K
     refine wp_block ?_
     refine wp_seq_k fun K hK=>?_
     refine wp_block ?_
     refine wp_loopJ (fun μ a w=>∃ (nE : Nat) (qE : List Nat) (zE : Nat) (G : Gh),μ = zE ∧ (ROW nE cP qE zE M) ∧ (zE ≠ 0) ∧ (Nat.gcd zE zR = Nat.gcd zA zB) ∧ (zE ≤ zP) ∧  St W0 G0 72 [(38,BT (decide (0 < nP))),(29,BT false),(5,NT k),(16,BT (decide (n9 = 0))),(12,BT (decide (n7 = 0))),(1,MT.ex (Value.slice (some ⟨bxR,0,none⟩) (nR) (cR))),(0,MT.ex (Value.slice (some ⟨bxP,0,none⟩) (nE) (cP))),(4,MT.ex (Value.slice none 0 0))] [⟨bxR,99,some (cR),MT.ex (Value.agg (ucells (qR)).toArray)⟩,⟨bxP,99,some (cP),MT.ex (Value.agg (ucells (qE)).toArray)⟩] a w G) (zP) ⟨nP,qP,zP,_,rfl,hP_,hP0,hg,(by omega),(S.keep [0,1,2,3,4,5,6,7]).keepB [0,1] (by decide)⟩ ?_
     clear S
     intro μ a w ⟨nE,qE,zE,G,hm,hE,hE0,hgE,hEP,S⟩
     refine wp_seq_k fun K hK=>?_
     refine wp_reg fun K hK=>?_
     have hpE:=hE.pos hE0
     have hdE:=hE.odd hpE
     have hdqE:=dig_lt hE.wf 0
     have hlE:=hE.len
     have hcE:=hE.le
     refine S.m rfl (S.g 6 rfl) rfl fun a w G S=>?_
     refine S.s (τ:=PB bxP) (OpR.ixA (i:=0) S.ok rfl Tryz.underlying55 tS_99 (S.e 0 rfl) (rfl : _ = nv .i64 0) rfl (by first | omega | (simp;omega)) (ptr_eq (by simp only [Option.getD_none] <;> omega))) rfl fun a w G S=>?_
     refine S.s (OpR.ldElem S.ok rfl (S.e 0 rfl) (S.box 1 rfl) tS_99 (dig_get (by first | omega | (simp;omega)))) rfl fun a w G S=>?_
     refine S.s (OpR.nand1 S.ok rfl (S.e 0 rfl) (rfl : _ = nv .u32 1) (by omega) MT.self) rfl fun a w G S=>?_
     refine S.s (OpR.neql S.ok rfl (S.e 0 rfl) (rfl : _ = nv .u32 0) MT.self) rfl fun a w G S=>?_
     refine wn hK ?_;clear hK K
     replace S:=S.d4.d3.d2.d1
     refine S.cond 0 rfl (fun hc33=>?_) (fun hc33=>?_)
     ·
      have hp34:=of_decide_eq_true hc33
      refine wp_skip ?_
      refine hK _ _ ?_;clear hK K
      refine wp_block ?_
      refine wp_region_lit ?_
      refine S.m rfl (S.g 7 rfl) rfl fun a w G S=>?_
      replace S : St W0 G0 72 [(44,MT.ex (Value.slice (some ⟨bxP,0,none⟩) (nE) (cP))),(43,BT (decide (((dig (qE) (0)) % 2) = 0))),(38,BT (decide (0 < nP))),(29,BT false),(5,NT k),(16,BT (decide (n9 = 0))),(12,BT (decide (n7 = 0))),(1,MT.ex (Value.slice (some ⟨bxR,0,none⟩) (nR) (cR))),(0,MT.ex (Value.slice (some ⟨bxP,0,none⟩) (nE) (cP))),(4,MT.ex (Value.slice none 0 0))] [⟨bxP,99,some (cP),MT.ex (Value.agg (ucells (qE)).toArray)⟩,⟨bxR,99,some (cR),MT.ex (Value.agg (ucells (qR)).toArray)⟩] a _ _:=S.keepB [1,0] (by decide)
      refine S.stepM1 0 rfl rfl rfl c_176 (rhalve_ok S.world (S.g 0 rfl) hE.len hE.wf hE.le hE.lim) rfl rfl fun vR lR a w G hR hlR S=>?_
      obtain ⟨hRw,j45,hRj,rfl,hRe⟩:=hR
      have hE2:=hE.half hlR hRw hRj hRe hMB
      generalize lR = q45 at *
      replace S:=S.d9
      refine S.q rfl (S.g 0 rfl) rfl fun a w G S=>?_
      refine wpList_nil ?_
      replace S:=S.d2.d1
      exact ⟨(zE / 2),(by omega),j45,q45,(zE / 2),_,rfl,hE2,(by omega),(gcd_half (by omega) hgE hgo),(by omega),(S.keep [2,3,4,5,6,7,0,8]).keepB [1,0] (by decide)⟩
     ·
      have hp35:=of_decide_eq_false hc33
      refine wp_exit (then_exit (then_exit (exit_same ?_)))
      clear hK K
      refine hK _ _ ?_;clear hK K
      refine wp_seq_k fun K hK=>?_
      refine wp_block ?_
      refine wp_loopJ (fun μ a w=>∃ (nF : Nat) (qF : List Nat) (zF : Nat) (G : Gh),μ = zF ∧ (ROW nF cR qF zF M) ∧ (zF ≠ 0) ∧ (Nat.gcd zE zF = Nat.gcd zA zB) ∧ (zF ≤ zR) ∧  St W0 G0 72 [(43,BT (decide (((dig (qE) (0)) % 2) = 0))),(38,BT (decide (0 < nP))),(29,BT false),(5,NT k),(16,BT (decide (n9 = 0))),(12,BT (decide (n7 = 0))),(1,MT.ex (Value.slice (some ⟨bxR,0,none⟩) (nF) (cR))),(0,MT.ex (Value.slice (some ⟨bxP,0,none⟩) (nE) (cP))),(4,MT.ex (Value.slice none 0 0))] [⟨bxR,99,some (cR),MT.ex (Value.agg (ucells (qF)).toArray)⟩,⟨bxP,99,some (cP),MT.ex (Value.agg (ucells (qE)).toArray)⟩] a w G) (zR) ⟨nR,qR,zR,_,rfl,hR_,hR0,hgE,(by omega),(S.keep [0,1,2,3,4,5,6,7,8]).keepB [0,1] (by decide)⟩ ?_
      clear S
      intro μ a w ⟨nF,qF,zF,G,hm,hF,hF0,hgF,hFR,S⟩
      refine wp_seq_k fun K hK=>?_
      refine wp_reg fun K hK=>?_
      have hpF:=hF.pos hF0
      have hdF:=hF.odd hpF
      have hdqF:=dig_lt hF.wf 0
      have hlF:=hF.len
      have hcF:=hF.le
      refine S.m rfl (S.g 6 rfl) rfl fun a w G S=>?_
      refine S.s (τ:=PB bxR) (OpR.ixA (i:=0) S.ok rfl Tryz.underlying55 tS_99 (S.e 0 rfl) (rfl : _ = nv .i64 0) rfl (by first | omega | (simp;omega)) (ptr_eq (by simp only [Option.getD_none] <;> omega))) rfl fun a w G S=>?_
      refine S.s (OpR.ldElem S.ok rfl (S.e 0 rfl) (S.box 0 rfl) tS_99 (dig_get (by first | omega | (simp;omega)))) rfl fun a w G S=>?_
      refine S.s (OpR.nand1 S.ok rfl (S.e 0 rfl) (rfl : _ = nv .u32 1) (by omega) MT.self) rfl fun a w G S=>?_
      refine S.s (OpR.neql S.ok rfl (S.e 0 rfl) (rfl : _ = nv .u32 0) MT.self) rfl fun a w G S=>?_
      refine wn hK ?_;clear hK K
      replace S:=S.d4.d3.d2.d1
      refine S.cond 0 rfl (fun hc36=>?_) (fun hc36=>?_)
      ·
       have hp37:=of_decide_eq_true hc36
       refine wp_skip ?_
       refine hK _ _ ?_;clear hK K
       refine wp_block ?_
       refine wp_region_lit ?_
       refine S.m rfl (S.g 7 rfl) rfl fun a w G S=>?_
       refine S.stepM1 0 rfl rfl rfl c_176 (rhalve_ok S.world (S.g 0 rfl) hF.len hF.wf hF.le hF.lim) rfl rfl fun vR lR a w G hR hlR S=>?_
       obtain ⟨hRw,j52,hRj,rfl,hRe⟩:=hR
       have hF2:=hF.half hlR hRw hRj hRe hMB
       generalize lR = q52 at *
       replace S:=S.d9
       refine S.q rfl (S.g 0 rfl) rfl fun a w G S=>?_
       refine wpList_nil ?_
       replace S:=S.d2.d1
       exact ⟨(zF / 2),(by omega),j52,q52,(zF / 2),_,rfl,hF2,(by omega),(gcd_half' (by omega) hgF hgo),(by omega),(S.keep [2,3,4,5,6,7,0,8,9]).keepB [0,1] (by decide)⟩
      ·
       have hp38:=of_decide_eq_false hc36
       refine wp_exit (then_exit (then_exit (exit_same ?_)))
       clear hK K
       refine hK _ _ ?_;clear hK K
       refine wp_seq_k fun K hK=>?_
       refine wp_reg fun K hK=>?_
       have hE1:=hE.len
       have hE2:=hE.le
       have hE3:=hE.lim
       have hE4:=hE.wf
       have hF1:=hF.len
       have hF2:=hF.le
       have hF3:=hF.lim
       have hF4:=hF.wf
       simp only [LIM] at hE3 hF3
       refine S.m rfl (S.g 8 rfl) rfl fun a w G S=>?_
       refine S.m rfl (S.g 8 rfl) rfl fun a w G S=>?_
       refine S.s (τ:=IT (cmpN (val (qE.take (nE))) (val (qF.take (nF))))) (OpR.lendPP S rfl c_148 (i:=1) (j:=0) rfl rfl (by decide) (S.e 1 rfl) (S.e 0 rfl) (by omega) (by omega) (by simp only [LIM];omega) (by assumption) (by omega) (by omega) (by simp only [LIM];omega) (by assumption) fun G1 hok1 hsl1 hsl2=>(rcompareL_ok hok1 hsl1 hsl2 )) rfl fun a w G S=>?_
       refine S.s (OpR.ilss S.ok rfl (S.e 0 rfl) (rfl : _ = nv .i64 0) MT.self) rfl fun a w G S=>?_
       refine wn hK ?_;clear hK K
       replace S:=S.d3.d2.d1
       refine S.cond 0 rfl (fun hc39=>?_) (fun hc39=>?_)
       ·
        have hp40:=of_decide_eq_true hc39
        rw [hE.val,hF.val] at hp40
        have hlt : zE < zF:=cmpN_neg.1 hp40
        refine wp_region_lit ?_
        refine S.m rfl (S.g 8 rfl) rfl fun a w G S=>?_
        refine S.m rfl (S.g 10 rfl) rfl fun a w G S=>?_
        replace S:=S.d11
        refine S.q rfl (S.g 1 rfl) rfl fun a w G S=>?_
        replace S:=S.d11
        refine S.q rfl (S.g 1 rfl) rfl fun a w G S=>?_
        refine wpList_nil ?_
        replace S:=S.d3.d2
        refine hK _ _ ?_;clear hK K
        refine wp_reg fun K hK=>?_
        refine S.m rfl (S.g 1 rfl) rfl fun a w G S=>?_
        refine S.m rfl (S.g 1 rfl) rfl fun a w G S=>?_
        refine S.stepML rfl rfl rfl c_177 (S.e 0 rfl) (by rw [hE.len];exact hE.le) hE.le hE.lim hE.wf (fun G1 hleG SW hsl=>rtakeO_ok SW ((MT.ex (Value.slice (some ⟨bxR,0,none⟩) (nF) (cR))).mono hleG (S.g 1 rfl)) hsl hF.len hF.wf hF.le hF.lim) rfl rfl fun vR lR a w G hR hlR S=>?_
        obtain ⟨hTw,cT,hcT,hTv⟩:=hR
        have hT:=take_ge (by rw [List.length_take];omega) hTw hF.val (take_take_words hE.eq (by rw [hE.cnt,hF.cnt];exact words_len_mono (Nat.le_of_lt_succ (by omega)))) (by omega) hcT hTv
        refine wn hK ?_;clear hK K
        replace S:=S.d2.d1.d0
        refine wp_region_lit ?_
        refine S.m rfl (S.g 1 rfl) rfl fun a w G S=>?_
        refine S.stepM1 0 rfl rfl rfl c_178 (rcutO_ok S.world (S.g 0 rfl) hlR hTw hF.le hF.lim) rfl rfl fun vC lC a w G hR hlC S=>?_
        obtain ⟨rfl,jC,hjC,rfl,hjv⟩:=hR
        rw [hT] at hjv
        have hN : ROW jC cR lC (zF - zE) M:=ROW.mk hlC (by have:=hF.le;omega) hTw hjv hMB (by have:=hF.lt;omega)
        replace S:=S.d3
        refine S.q rfl (S.g 0 rfl) rfl fun a w G S=>?_
        refine wpList_nil ?_
        replace S:=S.d2.d1
        exact ⟨(zF - zE) + zE,(by omega),bxR,jC,cR,lC,(zF - zE),bxP,nE,cP,qE,zE,_,rfl,hN,(by first | exact hF | exact hE),(by omega),(by first | exact gcd_minus hgF (by omega) | exact gcd_minus (by rw [Nat.gcd_comm];exact hgF) (by omega)),(S.keep [6,7,8,9,1,0,10]).keepB [1,0] (by decide)⟩
       ·
        have hp41:=of_decide_eq_false hc39
        rw [hE.val,hF.val] at hp41
        have hge : zF ≤ zE:=Nat.not_lt.1 fun h=>hp41 (cmpN_neg.2 h)
        refine wp_skip ?_
        refine hK _ _ ?_;clear hK K
        refine wp_reg fun K hK=>?_
        refine S.m rfl (S.g 9 rfl) rfl fun a w G S=>?_
        refine S.m rfl (S.g 9 rfl) rfl fun a w G S=>?_
        replace S : St W0 G0 72 [(60,MT.ex (Value.slice (some ⟨bxR,0,none⟩) (nF) (cR))),(59,MT.ex (Value.slice (some ⟨bxP,0,none⟩) (nE) (cP))),(56,BT (decide ((cmpN (val (qE.take (nE))) (val (qF.take (nF)))) < 0))),(50,BT (decide (((dig (qF) (0)) % 2) = 0))),(43,BT (decide (((dig (qE) (0)) % 2) = 0))),(38,BT (decide (0 < nP))),(29,BT false),(5,NT k),(16,BT (decide (n9 = 0))),(12,BT (decide (n7 = 0))),(1,MT.ex (Value.slice (some ⟨bxR,0,none⟩) (nF) (cR))),(0,MT.ex (Value.slice (some ⟨bxP,0,none⟩) (nE) (cP))),(4,MT.ex (Value.slice none 0 0))] [⟨bxP,99,some (cP),MT.ex (Value.agg (ucells (qE)).toArray)⟩,⟨bxR,99,some (cR),MT.ex (Value.agg (ucells (qF)).toArray)⟩] a _ _:=S.keepB [1,0] (by decide)
        refine S.stepML rfl rfl rfl c_177 (S.e 0 rfl) (by rw [hF.len];exact hF.le) hF.le hF.lim hF.wf (fun G1 hleG SW hsl=>rtakeO_ok SW ((MT.ex (Value.slice (some ⟨bxP,0,none⟩) (nE) (cP))).mono hleG (S.g 1 rfl)) hsl hE.len hE.wf hE.le hE.lim) rfl rfl fun vR lR a w G hR hlR S=>?_
        obtain ⟨hTw,cT,hcT,hTv⟩:=hR
        have hT:=take_ge (by rw [List.length_take];omega) hTw hE.val (take_take_words hF.eq (by rw [hF.cnt,hE.cnt];exact words_len_mono (Nat.le_of_lt_succ (by omega)))) (by omega) hcT hTv
        refine wn hK ?_;clear hK K
        replace S:=S.d2.d1.d0
        refine wp_region_lit ?_
        refine S.m rfl (S.g 9 rfl) rfl fun a w G S=>?_
        refine S.stepM1 0 rfl rfl rfl c_178 (rcutO_ok S.world (S.g 0 rfl) hlR hTw hE.le hE.lim) rfl rfl fun vC lC a w G hR hlC S=>?_
        obtain ⟨rfl,jC,hjC,rfl,hjv⟩:=hR
        rw [hT] at hjv
        have hN : ROW jC cP lC (zE - zF) M:=ROW.mk hlC (by have:=hE.le;omega) hTw hjv hMB (by have:=hE.lt;omega)
        replace S:=S.d11
        refine S.q rfl (S.g 0 rfl) rfl fun a w G S=>?_
        refine wpList_nil ?_
        replace S:=S.d2.d1
        exact ⟨(zE - zF) + zF,(by omega),bxP,jC,cP,lC,(zE - zF),bxR,nF,cR,qF,zF,_,rfl,hN,(by first | exact hF | exact hE),(by omega),(by first | exact gcd_minus hgF (by omega) | exact gcd_minus (by rw [Nat.gcd_comm];exact hgF) (by omega)),(S.keep [5,6,7,8,9,0,10]).keepB [1,0] (by decide)⟩
    ·
     have hp42:=of_decide_eq_false hc31
     have hP0:=hP_.zero (by omega)
     refine wp_exit (then_exit (then_exit (exit_same ?_)))
     clear hK K
     refine hK _ _ ?_;clear hK K
     refine wp_seq_k fun K hK=>?_
     refine wp_reg fun K hK=>?_
     obtain ⟨vz43,Gz43,hz43,hs43,hg43,hle43,S⟩:=S.freeze 0 rfl
     have hsl43:=SL_prefix hz43 hg43 (by rw [hR_.len];exact hR_.le) hR_.le hR_.lim hR_.wf (rfl : _ = Value.slice (some ⟨bxR,0,none⟩) (nR) (cR))
     replace S:=S.also (t:=1) (τ:=SN M zR) ((S.e 5 rfl).symm ▸ (SL.toSN hsl43 hR_.eq hR_.lt))
     replace S : St W0 G0 72 [(1,SN M zR),(38,BT (decide (0 < nP))),(29,BT false),(5,NT k),(16,BT (decide (n9 = 0))),(12,BT (decide (n7 = 0))),(0,MT.ex (Value.slice (some ⟨bxP,0,none⟩) (nP) (cP))),(4,MT.ex (Value.slice none 0 0))] [⟨bxP,99,some (cP),MT.ex (Value.agg (ucells (qP)).toArray)⟩] a _ _:=S.keep [0,1,2,3,4,5,7,8]
     have hkM:=pow_lt_of hA0 hax hxM
     have hsc : zR * 2 ^ k = Nat.gcd x y:=by rw [← gcd_scale hax hby,← hg,hP0,Nat.gcd_zero_left]
     have hgl : Nat.gcd x y < 2 ^ M:=gcd_lt_pow hx0 hxM
     refine S.m rfl (S.g 3 rfl) rfl fun a w G S=>?_
     refine S.s (τ:=NT 0) (OpR.mv S.ok rfl (rfl : _ = nv .i64 0)) rfl fun a w G S=>?_
     refine wn hK ?_;clear hK K
     refine wp_block ?_
     refine wp_loopJ (fun μ a w=>∃ (i : Nat) (zz : Nat) (G : Gh),μ = k - i ∧ (i ≤ k) ∧ (zz = zR * 2 ^ i) ∧  St W0 G0 72 [(65,NT i),(64,NT k),(1,SN M zz),(38,BT (decide (0 < nP))),(29,BT false),(5,NT k),(16,BT (decide (n9 = 0))),(12,BT (decide (n7 = 0))),(0,MT.ex (Value.slice (some ⟨bxP,0,none⟩) (nP) (cP))),(4,MT.ex (Value.slice none 0 0))] [] a w G) (k - 0) ⟨0,zR,_,rfl,(by omega),(by simp),(S.keep [0,1,2,3,4,5,6,7,8,9]).keepB [] (by decide)⟩ ?_
     clear S
     intro μ a w ⟨i,zz,G,hm,hi,hzz,S⟩
     refine wp_reg fun K hK=>?_
     refine S.s (OpR.nlss S.ok rfl (S.e 0 rfl) (S.e 1 rfl) MT.self) rfl fun a w G S=>?_
     refine wn hK ?_;clear hK K
     refine wp_seq_k fun K hK=>?_
     refine S.cond 0 rfl (fun hc44=>?_) (fun hc44=>?_)
     ·
      have hp45:=of_decide_eq_true hc44
      refine wp_skip ?_
      refine hK _ _ ?_;clear hK K
      refine wp_seq_k fun K hK=>?_
      refine wp_block ?_
      refine wp_region_lit ?_
      have htw:=twos_lt hsc ‹i < k› hgl
      rw [← hzz] at htw
      refine S.m rfl (S.g 3 rfl) rfl fun a w G S=>?_
      refine S.m rfl (S.g 4 rfl) rfl fun a w G S=>?_
      refine S.s (τ:=SN M (zz + zz)) (OpR.conv' (OpR.call2 rfl c_147 (rplus_ok S.ok (S.g 1 rfl) (S.g 0 rfl) (by omega) (by omega))) fun _ _ h=>(SN.cast h rfl htw.2)) rfl fun a w G S=>?_
      replace S:=S.d6
      refine S.q rfl (S.g 0 rfl) rfl fun a w G S=>?_
      refine wpList_nil ?_
      replace S:=S.d3.d2.d1
      refine hK _ _ ?_;clear hK K
      refine wp_region_lit ?_
      refine S.s (OpR.nadd S.ok rfl (S.e 2 rfl) (rfl : _ = nv .i64 1) (wr_i64 (by omega)) MT.self) rfl fun a w G S=>?_
      replace S:=S.d3
      refine S.m rfl (S.g 0 rfl) rfl fun a w G S=>?_
      refine wpList_nil ?_
      replace S:=S.d1
      exact ⟨k - (i + 1),(by omega),i + 1,zz + zz,_,rfl,(by omega),htw.1,(S.keep [0,3,1,4,5,6,7,8,9,10]).keepB [] (by decide)⟩
     ·
      have hp46:=of_decide_eq_false hc44
      refine wp_exit (then_exit (then_exit (exit_same ?_)))
      clear hK K
      refine hK _ _ ?_;clear hK K
      refine wp_reg fun K hK=>?_
      refine S.m rfl (S.g 3 rfl) rfl fun a w G S=>?_
      replace S:=S.d11
      refine S.q rfl (S.g 0 rfl) rfl fun a w G S=>?_
      refine wn hK ?_;clear hK K
      replace S:=S.d1
      exact wp_ret (S.retTmp rfl (SN.eq (SN.up (S.g 0 rfl) (by omega)) (by rw [hzz,show i = k from by omega];exact hsc)))
end Go.Proofs.YtboicjlbbbodgaaGreatDoor
namespace Go.Proofs.YtboicjlbbbodgaaGreatDoor
open Go.RowKit (Below)
theorem blen_len (x : Nat) : blen x ≤ 32 * (words x).length:=by
  rcases Nat.eq_zero_or_pos x with h | h
  · subst h;simp [words_zero];rfl
  · have h1:=blen_words (x:=x) (by omega)
    have h2:=blen_le (n:=dig (words x) ((words x).length - 1)) (k:=32) (dig_lt (wfl_words x) _)
    have h3:=len_pos_iff.2 (show x ≠ 0 by omega)
    omega
theorem lt_two_blen (x : Nat) : x / 2 ^ blen x = 0:=Nat.div_eq_of_lt (lt_blen x)
theorem dig_val (l : List Nat) (i : Nat) (h : wfl l) : dig l i = val l / 4294967296 ^ i % 4294967296:=by
  induction l generalizing i with
  | nil=>simp [dig,val]
  | cons x r ih =>
    have hx:=h x (by simp)
    have hr : wfl r:=fun y hy=>h y (by simp [hy])
    cases i with
    | zero=>simp only [dig,val,Nat.pow_zero,Nat.div_one];simp;omega
    | succ i =>
      have e : dig (x :: r) (i + 1) = dig r i:=by simp [dig]
      rw [e,ih i hr]
      show _ = (x + 4294967296 * val r) / 4294967296 ^ (i + 1) % _
      rw [Nat.pow_succ,Nat.mul_comm (4294967296 ^ i),← Nat.div_div_eq_div_mul,Nat.add_mul_div_left _ _ (by decide),Nat.div_eq_of_lt hx,Nat.zero_add]
theorem pow32 (i : Nat) : 4294967296 ^ i = 2 ^ (32 * i):=by rw [Nat.pow_mul]
theorem bit_of (x i : Nat) : dig (words x) (i / 32) / 2 ^ (i % 32) % 2 = x / 2 ^ i % 2:=by
  rw [dig_val _ _ (wfl_words x),val_words,pow32]
  have e : i = 32 * (i / 32) + i % 32:=by omega
  generalize hq : i / 32 = q at *
  generalize hs : i % 32 = s at *
  have hs32 : s < 32:=by omega
  rw [e,Nat.pow_add,← Nat.div_div_eq_div_mul]
  generalize x / 2 ^ (32 * q) = z
  rw [show 4294967296 = 2 ^ s * 2 ^ (32 - s) from by rw [← Nat.pow_add,show s + (32 - s) = 32 from by omega],Nat.mod_mul_right_div_self,show 32 - s = (31 - s) + 1 from by omega,Nat.pow_succ,Nat.mul_comm (2 ^ (31 - s)) 2,Nat.mod_mul_right_mod]
theorem dbl_step {l r : List Nat} {j c bit : Nat} (h1 : j < l.length) (hd : l.drop j = r.drop j) (hc : c ≤ 1) (hw : wfl l) (h : val (l.take j) + 4294967296 ^ j * c = 2 * val (r.take j) + bit) :
    val ((l.set j (dig l j * 2 % 4294967296 + c)).take (j + 1)) + 4294967296 ^ (j + 1) * (dig l j / 2 ^ 31) = 2 * val (r.take (j + 1)) + bit:=by
  have e1:=val_take_dig (l.set j (dig l j * 2 % 4294967296 + c)) j
  have e2:=val_take_dig r j
  have e3 : (l.set j (dig l j * 2 % 4294967296 + c)).take j = l.take j:=by rw [List.take_set_of_le (Nat.le_refl _)]
  have e4 : dig (l.set j (dig l j * 2 % 4294967296 + c)) j = dig l j * 2 % 4294967296 + c:=by rw [dig_set h1,if_pos rfl]
  have e5 : dig r j = dig l j:=by
    have k1 : (l.drop j)[0]? = (r.drop j)[0]?:=by rw [hd]
    rw [List.getElem?_drop,List.getElem?_drop,Nat.add_zero] at k1
    unfold dig;rw [List.getD_eq_getElem?_getD,List.getD_eq_getElem?_getD,k1]
  rw [e1,e3,e4,e2,e5,Nat.pow_succ]
  have hl:=dig_lt hw j
  generalize dig l j = d at *
  generalize 4294967296 ^ j = B at *
  have e6 : d * 2 = d * 2 % 4294967296 + 4294967296 * (d / 2 ^ 31):=by omega
  generalize d * 2 % 4294967296 = p at *
  generalize d / 2 ^ 31 = s at *
  have e7 : 2 * (B * d) = B * p + B * 4294967296 * s:=by
    have : 2 * (B * d) = B * (d * 2):=by grind
    rw [this,e6];grind
  have e8 : B * (p + c) = B * p + B * c:=Nat.mul_add ..
  omega
theorem dbl_or {d c : Nat} (hc : c ≤ 1) : (d * 2 ^ 1 % 4294967296 ||| c) = d * 2 % 4294967296 + c:=by
  have e : d * 2 ^ 1 % 4294967296 = d % 2147483648 * 2 ^ 1:=by omega
  rw [e]
  generalize d % 2147483648 = m
  exact or_shift (by omega)
theorem dbl_aux {D E v r y c bit : Nat} (hE : D ≤ E) (hy : y < D) (hr : r < y) (hb : bit ≤ 1) (h : v + E * c = 2 * r + bit) (h2 : 2 * D ≤ E) : v = 2 * r + bit:=by
  rcases Nat.eq_zero_or_pos c with h0 | h0
  · rw [h0,Nat.mul_zero] at h;omega
  · have h1 : E ≤ E * c:=Nat.le_mul_of_pos_right _ h0
    generalize E * c = T at *
    omega
theorem dbl_aux2 (D : Nat) : 2 * D ≤ D * 4294967296:=by omega
theorem dbl_fin {l r : List Nat} {j c bit y n : Nat} (hl : l.length = n + 1) (hr : r.length = n + 1) (hj : j = n + 1) (hy : y < 4294967296 ^ n) (hry : val r < y) (hb : bit ≤ 1) (h : val (l.take j) + 4294967296 ^ j * c = 2 * val (r.take j) + bit) : val l = 2 * val r + bit:=by
  rw [hj,List.take_of_length_le (Nat.le_of_eq hl),List.take_of_length_le (Nat.le_of_eq hr),Nat.pow_succ] at h
  generalize 4294967296 ^ n = D at *
  have e:=dbl_aux2 D
  generalize D * 4294967296 = E at *
  exact dbl_aux (by omega) hy hry hb h e
theorem or_bit {d s : Nat} (h : d % 2 ^ (s + 1) = 0) : (d ||| 1 * 2 ^ s) = d + 2 ^ s:=by
  have e : d = 2 ^ (s + 1) * (d / 2 ^ (s + 1)):=by have:=Nat.div_add_mod d (2 ^ (s + 1));omega
  rw [Nat.one_mul,e,← Nat.two_pow_add_eq_or_of_lt (Nat.pow_lt_pow_right (by decide) (Nat.lt_succ_self s))]
theorem q_low {q : List Nat} {i z : Nat} (hw : wfl q) (h : val q = z * 2 ^ (i + 1)) : dig q (i / 32) % 2 ^ (i % 32 + 1) = 0 ∧ dig q (i / 32) + 2 ^ (i % 32) < 4294967296:=by
  have h1 : dig q (i / 32) % 2 ^ (i % 32 + 1) = 0:=by
    rw [dig_val _ _ hw,h,pow32]
    have e : i + 1 = 32 * (i / 32) + (i % 32 + 1):=by omega
    have hs32 : i % 32 < 32:=Nat.mod_lt _ (by decide)
    rw [e,Nat.pow_add,← Nat.mul_assoc,Nat.mul_comm z,Nat.mul_assoc,Nat.mul_div_cancel_left _ (Nat.pow_pos (by decide))]
    have e2 : 4294967296 = 2 ^ (i % 32 + 1) * 2 ^ (31 - i % 32):=by rw [← Nat.pow_add,show i % 32 + 1 + (31 - i % 32) = 32 from by omega]
    conv=>lhs;lhs;rw [e2]
    rw [Nat.mod_mul_right_mod,Nat.mul_mod_left]
  refine ⟨h1,?_⟩
  have h2:=dig_lt hw (i / 32)
  generalize dig q (i / 32) = d at *
  have hs32 : i % 32 < 32:=Nat.mod_lt _ (by decide)
  generalize i % 32 = s at *
  have e2 : 4294967296 = 2 ^ (s + 1) * 2 ^ (31 - s):=by rw [← Nat.pow_add,show s + 1 + (31 - s) = 32 from by omega]
  have e3 : d = 2 ^ (s + 1) * (d / 2 ^ (s + 1)):=by have:=Nat.div_add_mod d (2 ^ (s + 1));omega
  generalize d / 2 ^ (s + 1) = m at *
  rw [e3,e2] at h2
  have h3 : m < 2 ^ (31 - s):=Nat.lt_of_mul_lt_mul_left h2
  have h4 : 2 ^ (s + 1) * (m + 1) ≤ 2 ^ (s + 1) * 2 ^ (31 - s):=Nat.mul_le_mul_left _ h3
  rw [← e2,Nat.mul_add] at h4
  have h5 : 2 ^ s < 2 ^ (s + 1):=Nat.pow_lt_pow_right (by decide) (Nat.lt_succ_self s)
  omega
theorem val_setadd {l : List Nat} {i z : Nat} (h : i < l.length) : val (l.set i (dig l i + z)) = val l + 4294967296 ^ i * z:=by
  induction l generalizing i with
  | nil=>simp at h
  | cons x r ih =>
    cases i with
    | zero=>simp [dig,val];omega
    | succ i =>
      have e : dig (x :: r) (i + 1) = dig r i:=by simp [dig]
      rw [e]
      show x + 4294967296 * val (r.set i (dig r i + z)) = x + 4294967296 * val r + _
      rw [ih (by simpa using h),Nat.pow_succ];grind
theorem q_set {q : List Nat} {i Z : Nat} (h : i / 32 < q.length) (hv : val q = Z) : val (q.set (i / 32) (dig q (i / 32) + 2 ^ (i % 32))) = Z + 2 ^ i:=by
  rw [val_setadd h,hv,pow32,← Nat.pow_add,show 32 * (i / 32) + i % 32 = i from by omega]
theorem pow_next {x k : Nat} (hk : 1 ≤ k) : x / 2 ^ (k - 1) = 2 * (x / 2 ^ k) + x / 2 ^ (k - 1) % 2:=by
  have e : x / 2 ^ k = x / 2 ^ (k - 1) / 2:=by
    rw [Nat.div_div_eq_div_mul,← Nat.pow_succ,show (k - 1).succ = k from by omega]
  rw [e];omega
theorem dv_lt {x y k : Nat} (hk : 1 ≤ k) (h : 2 * (x / 2 ^ k % y) + x / 2 ^ (k - 1) % 2 < y) : x / 2 ^ (k - 1) % y = 2 * (x / 2 ^ k % y) + x / 2 ^ (k - 1) % 2 ∧ x / 2 ^ (k - 1) / y * 2 ^ (k - 1) = x / 2 ^ k / y * 2 ^ k:=by
  have e:=pow_next (x:=x) hk
  have e2:=Nat.div_add_mod (x / 2 ^ k) y
  have e3 : 2 ^ k = 2 * 2 ^ (k - 1):=by rw [Nat.mul_comm,← Nat.pow_succ,show (k - 1).succ = k from by omega]
  generalize x / 2 ^ (k - 1) % 2 = b at *
  generalize x / 2 ^ k % y = r at *
  generalize x / 2 ^ k / y = Q at *
  generalize x / 2 ^ k = X at *
  have e4 : x / 2 ^ (k - 1) = y * (2 * Q) + (2 * r + b):=by rw [e,← e2];grind
  rw [e4]
  refine ⟨by rw [Nat.mul_add_mod,Nat.mod_eq_of_lt h],?_⟩
  rw [Nat.mul_add_div (by omega),Nat.div_eq_of_lt h,e3];grind
theorem dv_ge {x y k : Nat} (hy : 0 < y) (hk : 1 ≤ k) (h : y ≤ 2 * (x / 2 ^ k % y) + x / 2 ^ (k - 1) % 2) : x / 2 ^ (k - 1) % y = 2 * (x / 2 ^ k % y) + x / 2 ^ (k - 1) % 2 - y ∧ x / 2 ^ (k - 1) / y * 2 ^ (k - 1) = x / 2 ^ k / y * 2 ^ k + 2 ^ (k - 1):=by
  have e:=pow_next (x:=x) hk
  have e2:=Nat.div_add_mod (x / 2 ^ k) y
  have hr:=Nat.mod_lt (x / 2 ^ k) hy
  have hb:=Nat.mod_lt (x / 2 ^ (k - 1)) (show 0 < 2 by decide)
  have e3 : 2 ^ k = 2 * 2 ^ (k - 1):=by rw [Nat.mul_comm,← Nat.pow_succ,show (k - 1).succ = k from by omega]
  generalize x / 2 ^ (k - 1) % 2 = b at *
  generalize x / 2 ^ k % y = r at *
  generalize x / 2 ^ k / y = Q at *
  generalize x / 2 ^ k = X at *
  have e4 : x / 2 ^ (k - 1) = y * (2 * Q + 1) + (2 * r + b - y):=by
    have h5 : y * (2 * Q + 1) = 2 * (y * Q) + y:=by grind
    rw [e,← e2,h5];omega
  have h2 : 2 * r + b - y < y:=by omega
  rw [e4]
  refine ⟨by rw [Nat.mul_add_mod,Nat.mod_eq_of_lt h2],?_⟩
  rw [Nat.mul_add_div (by omega),Nat.div_eq_of_lt h2,e3];grind
theorem pow32_lt {s : Nat} (h : s < 32) : 1 * 2 ^ s < 4294967296:=by
  rw [Nat.one_mul];exact Nat.lt_of_lt_of_le (Nat.pow_lt_pow_right (by decide) h) (by decide)
theorem sg_false {g : Nat} : sg false g = (g : Int):=rfl
theorem val_take_all {l : List Nat} {n : Nat} (h : l.length = n) : val (l.take n) = val l:=by rw [List.take_of_length_le (by omega)]
theorem take_words_all {y n : Nat} (h : (words y).length ≤ n) : val ((words y).take n) = y:=by rw [List.take_of_length_le h,val_words]
end Go.Proofs.YtboicjlbbbodgaaGreatDoor
