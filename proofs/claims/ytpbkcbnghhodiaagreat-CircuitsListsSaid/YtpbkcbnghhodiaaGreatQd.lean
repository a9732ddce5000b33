import Derived.Test.YtpbkcbnghhodiaaGreatQc
set_option linter.unusedVariables false
set_option linter.unusedSimpArgs false
namespace Go.Proofs.YtpbkcbnghhodiaaGreat
set_option maxHeartbeats 1000000
set_option maxRecDepth 100000
open Go.RowKit (Below)
private theorem bt_112_ : Tryz.prog.built 112 [] = some #[.bool false,.slice none 0 0]:=by kernel_rfl
private theorem bt_112_01 : ∀ (s0 : Bool) (A1 : Option Addr) (n1 c1 : Nat),Tryz.prog.built 112 [(0,.bool s0),(1,.slice A1 n1 c1)] = some #[.bool s0,.slice A1 n1 c1]:=fun s0 A1 n1 c1=>by kernel_rfl
private theorem c_101 : callable Tryz.prog 101 = true:=by kernel_rfl
private theorem c_102 : callable Tryz.prog 102 = true:=by kernel_rfl
private theorem c_111 : callable Tryz.prog 111 = true:=by kernel_rfl
private theorem c_114 : callable Tryz.prog 114 = true:=by kernel_rfl
private theorem c_115 : callable Tryz.prog 115 = true:=by kernel_rfl
private theorem c_116 : callable Tryz.prog 116 = true:=by kernel_rfl
private theorem c_117 : callable Tryz.prog 117 = true:=by kernel_rfl
private theorem c_118 : callable Tryz.prog 118 = true:=by kernel_rfl
private theorem c_123 : callable Tryz.prog 123 = true:=by kernel_rfl
private theorem c_61 : callable Tryz.prog 61 = true:=by kernel_rfl
private theorem c_89 : callable Tryz.prog 89 = true:=by kernel_rfl
private theorem c_92 : callable Tryz.prog 92 = true:=by kernel_rfl
private theorem c_93 : callable Tryz.prog 93 = true:=by kernel_rfl
private theorem el_141 : elS Tryz.prog 141 1 4 (.int .u32 0):=by unfold elS;kernel_rfl
private theorem fo_112_0 : fldOff Tryz.prog 112 0 = some 0:=by kernel_rfl
private theorem fo_112_1 : fldOff Tryz.prog 112 1 = some 1:=by kernel_rfl
private theorem it_141 : intTy Tryz.prog 141 .u32 = true:=by kernel_rfl
private theorem it_147 : intTy Tryz.prog 147 .u64 = true:=by kernel_rfl
private theorem it_3 : intTy Tryz.prog 3 .i64 = true:=by kernel_rfl
private theorem mixedOrders : Tryz.prog.follows .mixedOrders = true:=by kernel_rfl
private theorem tS_112 : tyS Tryz.prog 112 (some 2) = true:=by kernel_rfl
private theorem tS_141 : tyS Tryz.prog 141 (none) = true:=by kernel_rfl
private theorem tS_22 : tyS Tryz.prog 22 (none) = true:=by kernel_rfl
private theorem tS_4 : tyS Tryz.prog 4 (none) = true:=by kernel_rfl
private theorem z_112 : (Tryz.prog.info? 112).bind (·.zero) = some (.agg #[.bool false,.slice none 0 0]):=by kernel_rfl
private theorem zs_112 : Shaped (some 2) (.agg #[.bool false,.slice none 0 0]):=⟨_,rfl,rfl,by simp [Value.oneCell']⟩
theorem rValid_ok {s : Bool} {l : List Nat} {v1 : Value} {W0 : World} {G0 : Gh} (hok : Gok W0 G0) (h1 : (WR s l).t v1 G0)  : Calls Tryz.prog 118 #[v1] W0 (Ret W0 G0 (BT (wok s l))):=by
 have hlim:=WR.lim h1
 simp only [LIM] at hlim
 refine St.enter (N:=19) (L:=[(0,WR s l)]) (args:=[v1]) Tryz.func118 rfl rfl rfl hok (enter1 h1) fun a S=>?_
 refine wp_reg fun K hK=>?_
 refine S.boxop (x:=.tmp 0) (τ:=WR s l) (S.g 0 rfl) (sh (τ:=WR s l) (S.g 0 rfl)) rfl rfl rfl rfl rfl fun b1 a w G S=>?_
 refine S.s (τ:=BT false) (OpR.asn S.ok rfl rfl) rfl fun a w G S=>?_
 refine wn hK ?_;clear hK K
 replace S:=S.d2
 refine wp_seq_k fun K hK=>?_
 refine wp_reg fun K hK=>?_
 refine S.s (τ:=MT.ex (Value.pointer (some ⟨b1,1,none⟩))) (OpR.fldA S.ok rfl (S.e 1 rfl) fo_112_1 rfl) rfl fun a w G S=>?_
 refine S.s (OpR.ldCell S.ok rfl (S.e 0 rfl) (S.box 0 rfl) tS_22 fun _ h hs=>WR.f1 h hs) rfl fun a w G S=>?_
 refine S.s (OpR.lenL S.ok rfl Tryz.underlying22 (S.g 0 rfl) MT.self) rfl fun a w G S=>?_
 refine S.s (OpR.neql S.ok rfl (S.e 0 rfl) (rfl : _ = nv .i64 0) MT.self) rfl fun a w G S=>?_
 refine wn hK ?_;clear hK K
 replace S:=S.d3.d2.d1
 refine S.cond 0 rfl (fun hc1=>?_) (fun hc1=>?_)
 ·
  have hp2:=of_decide_eq_true hc1
  refine wp_reg fun K hK=>?_
  refine S.s (τ:=PB b1) (OpR.fldA S.ok rfl (S.e 2 rfl) fo_112_0 rfl) rfl fun a w G S=>?_
  refine S.s (OpR.ldCell S.ok rfl (S.e 0 rfl) (S.box 0 rfl) tS_4 fun _ h hs=>WR.f0 h hs) rfl fun a w G S=>?_
  refine S.s (OpR.bnot S.ok rfl (S.e 0 rfl) MT.self) rfl fun a w G S=>?_
  replace S:=S.d4
  refine S.q rfl (S.g 0 rfl) rfl fun a w G S=>?_
  refine wn hK ?_;clear hK K
  replace S:=S.d3.d2.d1
  exact wp_ret (then_ret (S.retTmp rfl ((S.e 0 rfl).trans (bv_eq (wok_nil ‹_›)))))
 ·
  have hp3:=of_decide_eq_false hc1
  refine wp_skip ?_
  refine hK _ _ ?_;clear hK K
  refine wp_reg fun K hK=>?_
  refine S.s (τ:=MT.ex (Value.pointer (some ⟨b1,1,none⟩))) (OpR.fldA S.ok rfl (S.e 2 rfl) fo_112_1 rfl) rfl fun a w G S=>?_
  refine S.s (OpR.ldCell S.ok rfl (S.e 0 rfl) (S.box 0 rfl) tS_22 fun _ h hs=>WR.f1 h hs) rfl fun a w G S=>?_
  refine S.s (τ:=MT.ex (Value.pointer (some ⟨b1,1,none⟩))) (OpR.fldA S.ok rfl (S.e 4 rfl) fo_112_1 rfl) rfl fun a w G S=>?_
  refine S.s (OpR.ldCell S.ok rfl (S.e 0 rfl) (S.box 0 rfl) tS_22 fun _ h hs=>WR.f1 h hs) rfl fun a w G S=>?_
  refine S.s (OpR.lenL S.ok rfl Tryz.underlying22 (S.g 0 rfl) MT.self) rfl fun a w G S=>?_
  refine S.s (τ:=IT (((l.length : Nat) : Int) - ((1 : Nat) : Int))) (OpR.isub S.ok rfl (S.e 0 rfl) (rfl : _ = nv .i64 1) (iw_i64 (by omega) (by omega))) rfl fun a w G S=>?_
  refine S.s (τ:=PE (none) (MT.ex (nv .u32 (dig (l) (l.length - 1))))) (OpR.ixL (i:=l.length - 1) S.ok rfl Tryz.underlying22 tS_141 (S.g 4 rfl) (S.e 0 rfl) (by omega) (dig_get (by first | omega | (simp;omega)))) rfl fun a w G S=>?_
  refine S.s (OpR.ldE S.ok rfl tS_141 (S.g 0 rfl)) rfl fun a w G S=>?_
  refine S.s (OpR.nneq S.ok rfl (S.e 0 rfl) (rfl : _ = nv .u32 0) MT.self) rfl fun a w G S=>?_
  replace S:=S.d10
  refine S.q rfl (S.g 0 rfl) rfl fun a w G S=>?_
  refine wn hK ?_;clear hK K
  replace S:=S.d9.d8.d7.d6.d5.d4.d3.d2.d1
  exact wp_ret (S.retTmp rfl ((S.e 0 rfl).trans (bv_eq (wok_last ‹_›))))
theorem rmag_ok {n : Nat} {z : Int} {v1 : Value} {W0 : World} {G0 : Gh} (hok : Gok W0 G0) (h1 : (W n z).t v1 G0)  : Calls Tryz.prog 92 #[v1] W0 (Ret W0 G0 (SN n z.natAbs)):=by
 obtain ⟨hlt,s,l,hv,h1⟩:=h1
 have hwf:=WR.wf h1
 refine St.enter (N:=8) (L:=[(0,WR s l)]) (args:=[v1]) Tryz.func92 rfl rfl rfl hok (enter1 h1) fun a S=>?_
 refine wp_reg fun K hK=>?_
 refine S.boxop (x:=.tmp 0) (τ:=WR s l) (S.g 0 rfl) (sh (τ:=WR s l) (S.g 0 rfl)) rfl rfl rfl rfl rfl fun b1 a w G S=>?_
 refine S.s (τ:=MT.ex (Value.slice none 0 0)) (OpR.asn S.ok rfl rfl) rfl fun a w G S=>?_
 refine wn hK ?_;clear hK K
 replace S:=S.d2
 refine wp_seq_k fun K hK=>?_
 refine wp_reg fun K hK=>?_
 refine S.s (OpR.ldBox S.ok rfl (S.e 1 rfl) (S.box 0 rfl) tS_112) rfl fun a w G S=>?_
 refine S.s (τ:=BT (wok s l)) (OpR.call1 rfl c_118 (rValid_ok S.ok (S.g 0 rfl))) rfl fun a w G S=>?_
 refine S.s (OpR.bnot S.ok rfl (S.e 0 rfl) MT.self) rfl fun a w G S=>?_
 refine wn hK ?_;clear hK K
 replace S:=S.d2.d1
 refine S.cond 0 rfl (fun hc1=>?_) (fun hc1=>?_)
 ·
  refine wp_reg fun K hK=>?_
  replace S:=S.d1
  refine S.s (τ:=MT.ex (Value.slice none 0 0)) (OpR.asn S.ok rfl rfl) rfl fun a w G S=>?_
  refine wn hK ?_;clear hK K
  exact wp_ret (then_ret (S.retTmp rfl (SN_nil_of (S.e 0 rfl) (by rw [not_wok hv (not_true_of ‹_›)];rfl))))
 ·
  refine wp_skip ?_
  refine hK _ _ ?_;clear hK K
  refine wp_reg fun K hK=>?_
  refine S.s (τ:=MT.ex (Value.pointer (some ⟨b1,1,none⟩))) (OpR.fldA S.ok rfl (S.e 2 rfl) fo_112_1 rfl) rfl fun a w G S=>?_
  refine S.s (OpR.ldCell S.ok rfl (S.e 0 rfl) (S.box 0 rfl) tS_22 fun _ h hs=>WR.f1 h hs) rfl fun a w G S=>?_
  replace S:=S.d3
  refine S.q rfl (S.g 0 rfl) rfl fun a w G S=>?_
  refine wn hK ?_;clear hK K
  replace S:=S.d2.d1
  exact wp_ret (S.retTmp rfl (SL.toSN (S.g 0 rfl) (mag_of hwf hv (not_false_of ‹_›)) hlt))
theorem rneg_ok {n : Nat} {z : Int} {v1 : Value} {W0 : World} {G0 : Gh} (hok : Gok W0 G0) (h1 : (W n z).t v1 G0)  : Calls Tryz.prog 93 #[v1] W0 (Ret W0 G0 (BT (decide (z < 0)))):=by
 obtain ⟨hlt,s,l,hv,h1⟩:=h1
 have hwf:=WR.wf h1
 refine St.enter (N:=9) (L:=[(0,WR s l)]) (args:=[v1]) Tryz.func93 rfl rfl rfl hok (enter1 h1) fun a S=>?_
 refine wp_reg fun K hK=>?_
 refine S.boxop (x:=.tmp 0) (τ:=WR s l) (S.g 0 rfl) (sh (τ:=WR s l) (S.g 0 rfl)) rfl rfl rfl rfl rfl fun b1 a w G S=>?_
 refine S.s (τ:=BT false) (OpR.asn S.ok rfl rfl) rfl fun a w G S=>?_
 refine wn hK ?_;clear hK K
 replace S:=S.d2
 refine wp_reg fun K hK=>?_
 refine S.s (OpR.ldBox S.ok rfl (S.e 1 rfl) (S.box 0 rfl) tS_112) rfl fun a w G S=>?_
 refine S.s (τ:=BT (wok s l)) (OpR.call1 rfl c_118 (rValid_ok S.ok (S.g 0 rfl))) rfl fun a w G S=>?_
 refine S.m rfl (S.g 0 rfl) rfl fun a w G S=>?_
 rcases Bool.eq_false_or_eq_true (wok s l) with hc1 | hc1
 ·
  replace S:=S.boolIs 0 rfl hc1
  refine S.stepG (τ:=PB b1) 0 (OpR.fldA S.ok rfl (S.e 5 rfl) fo_112_0 rfl) rfl rfl rfl rfl rfl rfl fun a w G S=>?_
  refine S.stepG 1 (OpR.ldCell S.ok rfl (S.e 0 rfl) (S.box 0 rfl) tS_4 fun _ h hs=>WR.f0 h hs) rfl rfl rfl rfl rfl rfl fun a w G S=>?_
  refine S.s (τ:=BT s) (OpR.pick S.ok rfl (S.e 2 rfl) (S.g 0 rfl)) rfl fun a w G S=>?_
  replace S:=S.d7
  refine S.q rfl (S.g 0 rfl) rfl fun a w G S=>?_
  refine wn hK ?_;clear hK K
  replace S:=S.d8.d7.d6.d5.d4.d3.d2.d1
  exact wp_ret (S.retTmp rfl ((S.e 0 rfl).trans (bv_eq (neg_of hwf hv ‹_›))))
 ·
  replace S:=S.boolIs 0 rfl hc1
  refine S.skipG 0 rfl rfl rfl rfl rfl rfl fun a w G S=>?_
  refine S.skipG 1 rfl rfl rfl rfl rfl rfl fun a w G S=>?_
  refine S.s (τ:=BT false) (OpR.pick S.ok rfl (S.e 2 rfl) rfl) rfl fun a w G S=>?_
  replace S:=S.d7
  refine S.q rfl (S.g 0 rfl) rfl fun a w G S=>?_
  refine wn hK ?_;clear hK K
  replace S:=S.d8.d7.d6.d5.d4.d3.d2.d1
  exact wp_ret (S.retTmp rfl ((S.e 0 rfl).trans (bv_eq (by rw [not_wok hv ‹_›];rfl))))
theorem rform_ok {s : Bool} {nb m : Nat} {v1 v2 : Value} {W0 : World} {G0 : Gh} (hok : Gok W0 G0) (h1 : (BT s).t v1 G0) (h2 : (SV nb m).t v2 G0)  : Calls Tryz.prog 102 #[v1,v2] W0 (Ret W0 G0 (WC nb (sg s m))):=by
 have hm:=h2.1
 refine St.enter (N:=14) (L:=[(1,SV nb m),(0,BT s)]) (args:=[v1,v2]) Tryz.func102 rfl rfl rfl hok (enter2 h1 h2) fun a S=>?_
 refine wp_reg fun K hK=>?_
 refine S.alloc rfl rfl rfl z_112 zs_112 rfl rfl fun b4 a w G S=>?_
 refine wn hK ?_;clear hK K
 refine wp_reg fun K hK=>?_
 refine S.m rfl (S.g 1 rfl) rfl fun a w G S=>?_
 refine S.s (τ:=SN nb m) (OpR.call1 rfl c_123 (rtrim_ok S.ok (S.g 0 rfl))) rfl fun a w G S=>?_
 replace S:=S.d3
 refine S.q rfl (S.g 0 rfl) rfl fun a w G S=>?_
 refine wn hK ?_;clear hK K
 replace S:=S.d2.d1
 refine wp_seq_k fun K hK=>?_
 refine wp_reg fun K hK=>?_
 refine S.m rfl (S.g 0 rfl) rfl fun a w G S=>?_
 refine S.s (OpR.lenL S.ok rfl Tryz.underlying22 (SN.toSL (S.g 0 rfl)) MT.self) rfl fun a w G S=>?_
 refine S.s (OpR.neql S.ok rfl (S.e 0 rfl) (rfl : _ = nv .i64 0) MT.self) rfl fun a w G S=>?_
 refine wn hK ?_;clear hK K
 replace S:=S.d2.d1
 refine S.cond 0 rfl (fun hc1=>?_) (fun hc1=>?_)
 ·
  have hp2:=of_decide_eq_true hc1
  refine wp_reg fun K hK=>?_
  refine S.s (τ:=WR false ([])) (OpR.bW0 S.ok rfl bt_112_) rfl fun a w G S=>?_
  refine S.store (τ:=WR false ([])) 0 rfl rfl rfl rfl (S.e 3 rfl) tS_112 (S.g 0 rfl) (sh (τ:=WR false ([])) (S.g 0 rfl)) fun w S=>?_
  replace S:=S.n0
  refine wn hK ?_;clear hK K
  replace S:=S.d0
  exact wp_ret (then_ret (S.retCell (i:=0) rfl (S.e 2 rfl) rfl tS_112 (fun _ h=>(WR.zero h (form_zero ‹_›)))))
 ·
  have hp3:=of_decide_eq_false hc1
  refine wp_skip ?_
  refine hK _ _ ?_;clear hK K
  refine wp_reg fun K hK=>?_
  refine S.m rfl (S.g 3 rfl) rfl fun a w G S=>?_
  refine S.m rfl (S.g 2 rfl) rfl fun a w G S=>?_
  refine S.s (τ:=WR s (words (m))) (OpR.bWR S.ok rfl bt_112_01 (S.e 1 rfl) (SN.toSL (S.g 0 rfl))) rfl fun a w G S=>?_
  refine S.store (τ:=WR s (words (m))) 0 rfl rfl rfl rfl (S.e 5 rfl) tS_112 (S.g 0 rfl) (sh (τ:=WR s (words (m))) (S.g 0 rfl)) fun w S=>?_
  replace S:=S.n0
  refine wn hK ?_;clear hK K
  replace S:=S.d6.d2.d1.d0
  exact wp_ret (S.retCell (i:=0) rfl (S.e 2 rfl) rfl tS_112 (fun _ h=>(WR.form h rfl ‹_› hm)))
theorem rSign_ok {n : Nat} {z : Int} {v1 : Value} {W0 : World} {G0 : Gh} (hok : Gok W0 G0) (h1 : (W n z).t v1 G0)  : Calls Tryz.prog 61 #[v1] W0 (Ret W0 G0 (IT z.sign)):=by
 refine St.enter (N:=9) (L:=[(0,W n z)]) (args:=[v1]) Tryz.func61 rfl rfl rfl hok (enter1 h1) fun a S=>?_
 refine wp_reg fun K hK=>?_
 refine S.boxop (x:=.tmp 0) (τ:=W n z) (S.g 0 rfl) (sh (τ:=W n z) (S.g 0 rfl)) rfl rfl rfl rfl rfl fun b1 a w G S=>?_
 refine S.s (τ:=NT 0) (OpR.asn S.ok rfl (rfl : _ = nv .i64 0)) rfl fun a w G S=>?_
 refine wn hK ?_;clear hK K
 replace S:=S.d2
 refine wp_seq_k fun K hK=>?_
 refine wp_reg fun K hK=>?_
 refine S.s (OpR.ldBox S.ok rfl (S.e 1 rfl) (S.box 0 rfl) tS_112) rfl fun a w G S=>?_
 refine S.s (τ:=SN n z.natAbs) (OpR.call1 rfl c_92 (rmag_ok S.ok (S.g 0 rfl))) rfl fun a w G S=>?_
 refine S.s (OpR.lenL S.ok rfl Tryz.underlying22 (SN.toSL (S.g 0 rfl)) MT.self) rfl fun a w G S=>?_
 refine S.s (OpR.neql S.ok rfl (S.e 0 rfl) (rfl : _ = nv .i64 0) MT.self) rfl fun a w G S=>?_
 refine wn hK ?_;clear hK K
 replace S:=S.d3.d2.d1
 refine S.cond 0 rfl (fun hc1=>?_) (fun hc1=>?_)
 ·
  have hp2:=of_decide_eq_true hc1
  refine wp_reg fun K hK=>?_
  replace S:=S.d1
  refine S.s (τ:=NT 0) (OpR.asn S.ok rfl (rfl : _ = nv .i64 0)) rfl fun a w G S=>?_
  refine wn hK ?_;clear hK K
  exact wp_ret (then_ret (S.retTmp rfl ((S.e 0 rfl).trans (iv_eq (rsign_zero ‹_›)))))
 ·
  have hp3:=of_decide_eq_false hc1
  refine wp_skip ?_
  refine hK _ _ ?_;clear hK K
  refine wp_seq_k fun K hK=>?_
  refine wp_reg fun K hK=>?_
  refine S.s (OpR.ldBox S.ok rfl (S.e 2 rfl) (S.box 0 rfl) tS_112) rfl fun a w G S=>?_
  refine S.s (τ:=BT (decide (z < 0))) (OpR.call1 rfl c_93 (rneg_ok S.ok (S.g 0 rfl))) rfl fun a w G S=>?_
  refine wn hK ?_;clear hK K
  replace S:=S.d1
  refine S.cond 0 rfl (fun hc4=>?_) (fun hc4=>?_)
  ·
   have hp5:=of_decide_eq_true hc4
   refine wp_reg fun K hK=>?_
   replace S:=S.d2
   refine S.s (τ:=IT (-1)) (OpR.asn S.ok rfl (rfl : _ = Value.int .i64 (-1))) rfl fun a w G S=>?_
   refine wn hK ?_;clear hK K
   exact wp_ret (then_ret (S.retTmp rfl ((S.e 0 rfl).trans (iv_eq (rsign_neg (of_decide_eq_true ‹_›))))))
  ·
   have hp6:=of_decide_eq_false hc4
   refine wp_skip ?_
   refine hK _ _ ?_;clear hK K
   refine wp_reg fun K hK=>?_
   replace S:=S.d2
   refine S.s (τ:=NT 1) (OpR.asn S.ok rfl (rfl : _ = nv .i64 1)) rfl fun a w G S=>?_
   refine wn hK ?_;clear hK K
   exact wp_ret (S.retTmp rfl ((S.e 0 rfl).trans (iv_eq (rsign_pos ‹_› (of_decide_eq_false ‹_›)))))
theorem rNeg_ok {n : Nat} {z : Int} {v1 : Value} {W0 : World} {G0 : Gh} (hok : Gok W0 G0) (h1 : (W n z).t v1 G0)  : Calls Tryz.prog 111 #[v1] W0 (Ret W0 G0 (WC n (-z))):=by
 refine St.enter (N:=9) (L:=[(0,W n z)]) (args:=[v1]) Tryz.func111 rfl rfl rfl hok (enter1 h1) fun a S=>?_
 refine wp_reg fun K hK=>?_
 refine S.boxop (x:=.tmp 0) (τ:=W n z) (S.g 0 rfl) (sh (τ:=W n z) (S.g 0 rfl)) rfl rfl rfl rfl rfl fun b1 a w G S=>?_
 refine S.alloc rfl rfl rfl z_112 zs_112 rfl rfl fun b2 a w G S=>?_
 refine wn hK ?_;clear hK K
 replace S:=S.d2
 refine wp_seq_k fun K hK=>?_
 refine S.drawn [⟨3,.g (W n z),[]⟩,⟨4,.g (BT (decide (z < 0))),[0]⟩,⟨5,.g (BT (!(decide (z < 0)))),[1]⟩,⟨6,.g (W n z),[]⟩,⟨7,.g (SN n z.natAbs),[3]⟩,⟨8,.g (WC n (sg (!(decide (z < 0))) (z.natAbs))),[2,4]⟩] mixedOrders (by kernel_rfl)
  ⟨fun a w G S=>.of rfl (OpR.ldBox S.ok rfl (S.e 1 rfl) (S.box 1 rfl) tS_112),
   fun a w G S=>.of rfl (OpR.call1 rfl c_93 (rneg_ok S.ok (S.g 0 rfl))),
   fun a w G S=>.of rfl (OpR.bnot S.ok rfl (S.e 0 rfl) MT.self),
   fun a w G S=>.of rfl (OpR.ldBox S.ok rfl (S.e 1 rfl) (S.box 1 rfl) tS_112),
   fun a w G S=>.of rfl (OpR.call1 rfl c_92 (rmag_ok S.ok (S.g 0 rfl))),
   fun a w G S=>.of rfl (OpR.call2 rfl c_102 (rform_ok S.ok (S.g 0 rfl) (SN.toSV (S.g 1 rfl)))),trivial⟩ fun β a w G S=>?_
 replace S : St W0 G0 9 [(8,WC n (sg (!(decide (z < 0))) (z.natAbs))),(2,PB b2)] [⟨b2,112,some 2,MT.ex ((.agg #[.bool false,.slice none 0 0] : Value))⟩,⟨b1,112,some 2,W n z⟩] a _ _:=S.keep [0,6]
 refine S.store (τ:=WC n (sg (!(decide (z < 0))) (z.natAbs))) 0 rfl rfl rfl rfl (S.e 1 rfl) tS_112 (S.g 0 rfl) (sh (τ:=WC n (sg (!(decide (z < 0))) (z.natAbs))) (S.g 0 rfl)) fun w S=>?_
 replace S:=S.n0
 refine wn hK ?_;clear hK K
 replace S:=S.d0
 exact wp_ret (S.retCell (i:=0) rfl (S.e 0 rfl) rfl tS_112 (fun _ h=>(WC.eq h neg_sg)))
theorem rAdd_ok {n m : Nat} {x y : Int} {v1 v2 : Value} {W0 : World} {G0 : Gh} (hok : Gok W0 G0) (h1 : (W n x).t v1 G0) (h2 : (W m y).t v2 G0) (hna : n ≤ BIG) (hnb : m ≤ BIG) : Calls Tryz.prog 89 #[v1,v2] W0 (Ret W0 G0 (WC (max n m + 1) (x + y))):=by
 refine St.enter (N:=38) (L:=[(1,W m y),(0,W n x)]) (args:=[v1,v2]) Tryz.func89 rfl rfl rfl hok (enter2 h1 h2) fun a S=>?_
 refine wp_reg fun K hK=>?_
 refine S.boxop (x:=.tmp 0) (τ:=W n x) (S.g 1 rfl) (sh (τ:=W n x) (S.g 1 rfl)) rfl rfl rfl rfl rfl fun b2 a w G S=>?_
 refine S.boxop (x:=.tmp 1) (τ:=W m y) (S.g 1 rfl) (sh (τ:=W m y) (S.g 1 rfl)) rfl rfl rfl rfl rfl fun b3 a w G S=>?_
 refine S.alloc rfl rfl rfl z_112 zs_112 rfl rfl fun b4 a w G S=>?_
 refine wn hK ?_;clear hK K
 replace S:=S.d4.d3
 refine wp_seq_k fun K hK=>?_
 refine S.drawn [⟨7,.g (W n x),[]⟩,⟨8,.g (SN n x.natAbs),[0]⟩,⟨9,.g (W m y),[]⟩,⟨10,.g (SN m y.natAbs),[2]⟩,⟨5,.g (SN n x.natAbs),[1]⟩,⟨6,.g (SN m y.natAbs),[3]⟩] mixedOrders (by kernel_rfl)
  ⟨fun a w G S=>.of rfl (OpR.ldBox S.ok rfl (S.e 2 rfl) (S.box 2 rfl) tS_112),
   fun a w G S=>.of rfl (OpR.call1 rfl c_92 (rmag_ok S.ok (S.g 0 rfl))),
   fun a w G S=>.of rfl (OpR.ldBox S.ok rfl (S.e 1 rfl) (S.box 1 rfl) tS_112),
   fun a w G S=>.of rfl (OpR.call1 rfl c_92 (rmag_ok S.ok (S.g 0 rfl))),
   fun a w G S=>.of rfl (OpR.asn S.ok rfl (S.g 0 rfl)),
   fun a w G S=>.of rfl (OpR.asn S.ok rfl (S.g 0 rfl)),trivial⟩ fun β a w G S=>?_
 replace S : St W0 G0 38 [(6,SN m y.natAbs),(5,SN n x.natAbs),(4,PB b4),(3,PB b3),(2,PB b2)] [⟨b4,112,some 2,MT.ex ((.agg #[.bool false,.slice none 0 0] : Value))⟩,⟨b3,112,some 2,W m y⟩,⟨b2,112,some 2,W n x⟩] a _ _:=S.keep [0,1,6,7,8]
 refine wn hK ?_;clear hK K
 refine wp_seq_k fun K hK=>?_
 refine wp_seq_k fun K hK=>?_
 refine S.drawn [⟨11,.g (W n x),[]⟩,⟨12,.g (BT (decide (x < 0))),[0]⟩,⟨13,.g (W m y),[]⟩,⟨14,.g (BT (decide (y < 0))),[2]⟩,⟨15,.g (BT ((decide (x < 0)) == (decide (y < 0)))),[1,3]⟩] mixedOrders (by kernel_rfl)
  ⟨fun a w G S=>.of rfl (OpR.ldBox S.ok rfl (S.e 4 rfl) (S.box 2 rfl) tS_112),
   fun a w G S=>.of rfl (OpR.call1 rfl c_93 (rneg_ok S.ok (S.g 0 rfl))),
   fun a w G S=>.of rfl (OpR.ldBox S.ok rfl (S.e 3 rfl) (S.box 1 rfl) tS_112),
   fun a w G S=>.of rfl (OpR.call1 rfl c_93 (rneg_ok S.ok (S.g 0 rfl))),
   fun a w G S=>.of rfl (OpR.beql S.ok rfl (S.e 0 rfl) (S.e 1 rfl) Tryz.underlying4 MT.self),trivial⟩ fun β a w G S=>?_
 replace S : St W0 G0 38 [(15,BT ((decide (x < 0)) == (decide (y < 0)))),(6,SN m y.natAbs),(5,SN n x.natAbs),(4,PB b4),(3,PB b3),(2,PB b2)] [⟨b4,112,some 2,MT.ex ((.agg #[.bool false,.slice none 0 0] : Value))⟩,⟨b3,112,some 2,W m y⟩,⟨b2,112,some 2,W n x⟩] a _ _:=S.keep [0,5,6,7,8,9]
 refine wn hK ?_;clear hK K
 refine S.cond 0 rfl (fun hc1=>?_) (fun hc1=>?_)
 ·
  refine wp_reg fun K hK=>?_
  refine S.s (OpR.ldBox S.ok rfl (S.e 5 rfl) (S.box 2 rfl) tS_112) rfl fun a w G S=>?_
  refine S.s (τ:=BT (decide (x < 0))) (OpR.call1 rfl c_93 (rneg_ok S.ok (S.g 0 rfl))) rfl fun a w G S=>?_
  refine S.m rfl (S.g 4 rfl) rfl fun a w G S=>?_
  refine S.m rfl (S.g 4 rfl) rfl fun a w G S=>?_
  refine S.s (τ:=SN (max n m + 1) ((x.natAbs) + (y.natAbs))) (OpR.call2 rfl c_114 (rplus_ok S.ok (S.g 1 rfl) (S.g 0 rfl) (by omega) (by omega))) rfl fun a w G S=>?_
  refine S.s (τ:=WC (max n m + 1) (sg (decide (x < 0)) ((x.natAbs) + (y.natAbs)))) (OpR.call2 rfl c_102 (rform_ok S.ok (S.g 3 rfl) (SN.toSV (S.g 0 rfl)))) rfl fun a w G S=>?_
  refine S.store (τ:=WC (max n m + 1) (sg (decide (x < 0)) ((x.natAbs) + (y.natAbs)))) 0 rfl rfl rfl rfl (S.e 9 rfl) tS_112 (S.g 0 rfl) (sh (τ:=WC (max n m + 1) (sg (decide (x < 0)) ((x.natAbs) + (y.natAbs)))) (S.g 0 rfl)) fun w S=>?_
  replace S:=S.n0
  refine wn hK ?_;clear hK K
  replace S:=S.d5.d4.d3.d2.d1.d0
  exact wp_ret (then_ret (S.retCell (i:=0) rfl (S.e 3 rfl) rfl tS_112 (fun _ h=>(WC.eq h (add_same ‹_›)))))
 ·
  refine wp_skip ?_
  refine hK _ _ ?_;clear hK K
  refine wp_seq_k fun K hK=>?_
  refine wp_reg fun K hK=>?_
  refine S.m rfl (S.g 2 rfl) rfl fun a w G S=>?_
  refine S.m rfl (S.g 2 rfl) rfl fun a w G S=>?_
  refine S.s (τ:=IT (cmpN (x.natAbs) (y.natAbs))) (OpR.call2 rfl c_115 (rcompare_ok S.ok (S.g 1 rfl) (S.g 0 rfl))) rfl fun a w G S=>?_
  refine S.s (OpR.igeq S.ok rfl (S.e 0 rfl) (rfl : _ = nv .i64 0) MT.self) rfl fun a w G S=>?_
  refine wn hK ?_;clear hK K
  replace S:=S.d3.d2.d1
  refine S.cond 0 rfl (fun hc4=>?_) (fun hc4=>?_)
  ·
   have hp5:=of_decide_eq_true hc4
   have hle:=cmpN_ge.1 hp5
   refine wp_reg fun K hK=>?_
   refine S.s (OpR.ldBox S.ok rfl (S.e 6 rfl) (S.box 2 rfl) tS_112) rfl fun a w G S=>?_
   refine S.s (τ:=BT (decide (x < 0))) (OpR.call1 rfl c_93 (rneg_ok S.ok (S.g 0 rfl))) rfl fun a w G S=>?_
   refine S.m rfl (S.g 5 rfl) rfl fun a w G S=>?_
   refine S.m rfl (S.g 5 rfl) rfl fun a w G S=>?_
   refine S.s (τ:=SN n ((x.natAbs) - (y.natAbs))) (OpR.call2 rfl c_116 (rminus_ok S.ok (S.g 1 rfl) (S.g 0 rfl) (by omega))) rfl fun a w G S=>?_
   refine S.s (τ:=WC n (sg (decide (x < 0)) ((x.natAbs) - (y.natAbs)))) (OpR.call2 rfl c_102 (rform_ok S.ok (S.g 3 rfl) (SN.toSV (S.g 0 rfl)))) rfl fun a w G S=>?_
   refine S.store (τ:=WC n (sg (decide (x < 0)) ((x.natAbs) - (y.natAbs)))) 0 rfl rfl rfl rfl (S.e 10 rfl) tS_112 (S.g 0 rfl) (sh (τ:=WC n (sg (decide (x < 0)) ((x.natAbs) - (y.natAbs)))) (S.g 0 rfl)) fun w S=>?_
   replace S:=S.n0
   refine wn hK ?_;clear hK K
   replace S:=S.d5.d4.d3.d2.d1.d0
   exact wp_ret (then_ret (S.retCell (i:=0) rfl (S.e 4 rfl) rfl tS_112 (fun _ h=>(WC.eq (WC.up h (by omega)) (add_diff ‹_› ‹_›)))))
  ·
   have hp6:=of_decide_eq_false hc4
   have hle : x.natAbs ≤ y.natAbs:=Nat.le_of_lt (Nat.not_le.1 fun h=>hp6 (cmpN_ge.2 h))
   refine wp_skip ?_
   refine hK _ _ ?_;clear hK K
   refine wp_reg fun K hK=>?_
   refine S.s (OpR.ldBox S.ok rfl (S.e 5 rfl) (S.box 1 rfl) tS_112) rfl fun a w G S=>?_
   refine S.s (τ:=BT (decide (y < 0))) (OpR.call1 rfl c_93 (rneg_ok S.ok (S.g 0 rfl))) rfl fun a w G S=>?_
   refine S.m rfl (S.g 4 rfl) rfl fun a w G S=>?_
   refine S.m rfl (S.g 6 rfl) rfl fun a w G S=>?_
   refine S.s (τ:=SN m ((y.natAbs) - (x.natAbs))) (OpR.call2 rfl c_116 (rminus_ok S.ok (S.g 1 rfl) (S.g 0 rfl) (by omega))) rfl fun a w G S=>?_
   refine S.s (τ:=WC m (sg (decide (y < 0)) ((y.natAbs) - (x.natAbs)))) (OpR.call2 rfl c_102 (rform_ok S.ok (S.g 3 rfl) (SN.toSV (S.g 0 rfl)))) rfl fun a w G S=>?_
   refine S.store (τ:=WC m (sg (decide (y < 0)) ((y.natAbs) - (x.natAbs)))) 0 rfl rfl rfl rfl (S.e 10 rfl) tS_112 (S.g 0 rfl) (sh (τ:=WC m (sg (decide (y < 0)) ((y.natAbs) - (x.natAbs)))) (S.g 0 rfl)) fun w S=>?_
   replace S:=S.n0
   refine wn hK ?_;clear hK K
   replace S:=S.d5.d4.d3.d2.d1.d0
   exact wp_ret (S.retCell (i:=0) rfl (S.e 4 rfl) rfl tS_112 (fun _ h=>(WC.eq (WC.up h (by omega)) (add_diff2 ‹_› ‹_›))))
theorem rSub_ok {n m : Nat} {x y : Int} {v1 v2 : Value} {W0 : World} {G0 : Gh} (hok : Gok W0 G0) (h1 : (W n x).t v1 G0) (h2 : (W m y).t v2 G0) (hna : n ≤ BIG) (hnb : m ≤ BIG) : Calls Tryz.prog 101 #[v1,v2] W0 (Ret W0 G0 (WC (max n m + 1) (x - y))):=by
 refine St.enter (N:=9) (L:=[(1,W m y),(0,W n x)]) (args:=[v1,v2]) Tryz.func101 rfl rfl rfl hok (enter2 h1 h2) fun a S=>?_
 refine wp_reg fun K hK=>?_
 refine S.boxop (x:=.tmp 0) (τ:=W n x) (S.g 1 rfl) (sh (τ:=W n x) (S.g 1 rfl)) rfl rfl rfl rfl rfl fun b2 a w G S=>?_
 refine S.boxop (x:=.tmp 1) (τ:=W m y) (S.g 1 rfl) (sh (τ:=W m y) (S.g 1 rfl)) rfl rfl rfl rfl rfl fun b3 a w G S=>?_
 refine S.alloc rfl rfl rfl z_112 zs_112 rfl rfl fun b4 a w G S=>?_
 refine wn hK ?_;clear hK K
 replace S:=S.d4.d3
 refine wp_seq_k fun K hK=>?_
 refine S.drawn [⟨5,.g (W n x),[]⟩,⟨6,.g (W m y),[]⟩,⟨7,.g (WC m (-y)),[1]⟩,⟨8,.g (WC (max n m + 1) (x + (-y))),[0,2]⟩] mixedOrders (by kernel_rfl)
  ⟨fun a w G S=>.of rfl (OpR.ldBox S.ok rfl (S.e 2 rfl) (S.box 2 rfl) tS_112),
   fun a w G S=>.of rfl (OpR.ldBox S.ok rfl (S.e 1 rfl) (S.box 1 rfl) tS_112),
   fun a w G S=>.of rfl (OpR.call1 rfl c_111 (rNeg_ok S.ok (S.g 0 rfl))),
   fun a w G S=>.of rfl (OpR.call2 rfl c_89 (rAdd_ok S.ok (S.g 0 rfl) (WC.toW (S.g 1 rfl)) (by omega) (by omega))),trivial⟩ fun β a w G S=>?_
 replace S : St W0 G0 9 [(8,WC (max n m + 1) (x + (-y))),(4,PB b4)] [⟨b4,112,some 2,MT.ex ((.agg #[.bool false,.slice none 0 0] : Value))⟩,⟨b3,112,some 2,W m y⟩,⟨b2,112,some 2,W n x⟩] a _ _:=S.keep [0,4]
 refine S.store (τ:=WC (max n m + 1) (x + (-y))) 0 rfl rfl rfl rfl (S.e 1 rfl) tS_112 (S.g 0 rfl) (sh (τ:=WC (max n m + 1) (x + (-y))) (S.g 0 rfl)) fun w S=>?_
 replace S:=S.n0
 refine wn hK ?_;clear hK K
 replace S:=S.d0
 exact wp_ret (S.retCell (i:=0) rfl (S.e 0 rfl) rfl tS_112 (fun _ h=>(WC.eq h Int.sub_eq_add_neg.symm)))
theorem rCmp_ok {n m : Nat} {x y : Int} {v1 v2 : Value} {W0 : World} {G0 : Gh} (hok : Gok W0 G0) (h1 : (W n x).t v1 G0) (h2 : (W m y).t v2 G0) (hna : n ≤ BIG) (hnb : m ≤ BIG) : Calls Tryz.prog 70 #[v1,v2] W0 (Ret W0 G0 (IT (cmpZ x y))):=by
 refine St.enter (N:=9) (L:=[(1,W m y),(0,W n x)]) (args:=[v1,v2]) Tryz.func70 rfl rfl rfl hok (enter2 h1 h2) fun a S=>?_
 refine wp_reg fun K hK=>?_
 refine S.boxop (x:=.tmp 0) (τ:=W n x) (S.g 1 rfl) (sh (τ:=W n x) (S.g 1 rfl)) rfl rfl rfl rfl rfl fun b2 a w G S=>?_
 refine S.boxop (x:=.tmp 1) (τ:=W m y) (S.g 1 rfl) (sh (τ:=W m y) (S.g 1 rfl)) rfl rfl rfl rfl rfl fun b3 a w G S=>?_
 refine S.s (τ:=NT 0) (OpR.asn S.ok rfl (rfl : _ = nv .i64 0)) rfl fun a w G S=>?_
 refine wn hK ?_;clear hK K
 replace S:=S.d4.d3
 refine wp_reg fun K hK=>?_
 refine S.s (OpR.ldBox S.ok rfl (S.e 2 rfl) (S.box 1 rfl) tS_112) rfl fun a w G S=>?_
 refine S.s (OpR.ldBox S.ok rfl (S.e 2 rfl) (S.box 0 rfl) tS_112) rfl fun a w G S=>?_
 refine S.s (τ:=WC (max n m + 1) (x - y)) (OpR.call2 rfl c_101 (rSub_ok S.ok (S.g 1 rfl) (S.g 0 rfl) (by omega) (by omega))) rfl fun a w G S=>?_
 refine S.s (τ:=IT ((x - y).sign)) (OpR.call1 rfl c_61 (rSign_ok S.ok (WC.toW (S.g 0 rfl)))) rfl fun a w G S=>?_
 replace S:=S.d4
 refine S.q rfl (S.g 0 rfl) rfl fun a w G S=>?_
 refine wn hK ?_;clear hK K
 replace S:=S.d6.d5.d4.d3.d2.d1
 exact wp_ret (S.retTmp rfl ((S.e 0 rfl).trans (iv_eq cmp_sub)))
theorem rMul_ok {n m : Nat} {x y : Int} {v1 v2 : Value} {W0 : World} {G0 : Gh} (hok : Gok W0 G0) (h1 : (W n x).t v1 G0) (h2 : (W m y).t v2 G0) (hn : n + m ≤ BIG) : Calls Tryz.prog 90 #[v1,v2] W0 (Ret W0 G0 (WC (n + m) (x * y))):=by
 refine St.enter (N:=16) (L:=[(1,W m y),(0,W n x)]) (args:=[v1,v2]) Tryz.func90 rfl rfl rfl hok (enter2 h1 h2) fun a S=>?_
 refine wp_reg fun K hK=>?_
 refine S.boxop (x:=.tmp 0) (τ:=W n x) (S.g 1 rfl) (sh (τ:=W n x) (S.g 1 rfl)) rfl rfl rfl rfl rfl fun b2 a w G S=>?_
 refine S.boxop (x:=.tmp 1) (τ:=W m y) (S.g 1 rfl) (sh (τ:=W m y) (S.g 1 rfl)) rfl rfl rfl rfl rfl fun b3 a w G S=>?_
 refine S.alloc rfl rfl rfl z_112 zs_112 rfl rfl fun b4 a w G S=>?_
 refine wn hK ?_;clear hK K
 replace S:=S.d4.d3
 refine wp_seq_k fun K hK=>?_
 refine S.drawn [⟨5,.g (W n x),[]⟩,⟨6,.g (BT (decide (x < 0))),[0]⟩,⟨7,.g (W m y),[]⟩,⟨8,.g (BT (decide (y < 0))),[2]⟩,⟨9,.g (BT (!((decide (x < 0)) == (decide (y < 0))))),[1,3]⟩,⟨10,.g (W n x),[]⟩,⟨11,.g (SN n x.natAbs),[5]⟩,⟨12,.g (W m y),[]⟩,⟨13,.g (SN m y.natAbs),[7]⟩,⟨14,.g (SN (n + m) ((x.natAbs) * (y.natAbs))),[6,8]⟩,⟨15,.g (WC (n + m) (sg (!((decide (x < 0)) == (decide (y < 0)))) ((x.natAbs) * (y.natAbs)))),[4,9]⟩] mixedOrders (by kernel_rfl)
  ⟨fun a w G S=>.of rfl (OpR.ldBox S.ok rfl (S.e 2 rfl) (S.box 2 rfl) tS_112),
   fun a w G S=>.of rfl (OpR.call1 rfl c_93 (rneg_ok S.ok (S.g 0 rfl))),
   fun a w G S=>.of rfl (OpR.ldBox S.ok rfl (S.e 1 rfl) (S.box 1 rfl) tS_112),
   fun a w G S=>.of rfl (OpR.call1 rfl c_93 (rneg_ok S.ok (S.g 0 rfl))),
   fun a w G S=>.of rfl (OpR.bneq S.ok rfl (S.e 0 rfl) (S.e 1 rfl) Tryz.underlying4 MT.self),
   fun a w G S=>.of rfl (OpR.ldBox S.ok rfl (S.e 2 rfl) (S.box 2 rfl) tS_112),
   fun a w G S=>.of rfl (OpR.call1 rfl c_92 (rmag_ok S.ok (S.g 0 rfl))),
   fun a w G S=>.of rfl (OpR.ldBox S.ok rfl (S.e 1 rfl) (S.box 1 rfl) tS_112),
   fun a w G S=>.of rfl (OpR.call1 rfl c_92 (rmag_ok S.ok (S.g 0 rfl))),
   fun a w G S=>.of rfl (OpR.call2 rfl c_117 (rtimes_ok S.ok (S.g 0 rfl) (S.g 1 rfl) (by omega))),
   fun a w G S=>.of rfl (OpR.call2 rfl c_102 (rform_ok S.ok (S.g 0 rfl) (SN.toSV (S.g 1 rfl)))),trivial⟩ fun β a w G S=>?_
 replace S : St W0 G0 16 [(15,WC (n + m) (sg (!((decide (x < 0)) == (decide (y < 0)))) ((x.natAbs) * (y.natAbs)))),(4,PB b4)] [⟨b4,112,some 2,MT.ex ((.agg #[.bool false,.slice none 0 0] : Value))⟩,⟨b3,112,some 2,W m y⟩,⟨b2,112,some 2,W n x⟩] a _ _:=S.keep [0,11]
 refine S.store (τ:=WC (n + m) (sg (!((decide (x < 0)) == (decide (y < 0)))) ((x.natAbs) * (y.natAbs)))) 0 rfl rfl rfl rfl (S.e 1 rfl) tS_112 (S.g 0 rfl) (sh (τ:=WC (n + m) (sg (!((decide (x < 0)) == (decide (y < 0)))) ((x.natAbs) * (y.natAbs)))) (S.g 0 rfl)) fun w S=>?_
 replace S:=S.n0
 refine wn hK ?_;clear hK K
 replace S:=S.d0
 exact wp_ret (S.retCell (i:=0) rfl (S.e 0 rfl) rfl tS_112 (fun _ h=>(WC.eq h mul_sg)))
theorem rOf_ok {z : Int} {v1 : Value} {W0 : World} {G0 : Gh} (hok : Gok W0 G0) (h1 : (IT z).t v1 G0) (hz : -9223372036854775808 ≤ z ∧ z ≤ 9223372036854775807) : Calls Tryz.prog 83 #[v1] W0 (Ret W0 G0 (WC 64 z)):=by
 refine St.enter (N:=19) (L:=[(0,IT z)]) (args:=[v1]) Tryz.func83 rfl rfl rfl hok (enter1 h1) fun a S=>?_
 refine wp_reg fun K hK=>?_
 refine S.alloc rfl rfl rfl z_112 zs_112 rfl rfl fun b2 a w G S=>?_
 refine wn hK ?_;clear hK K
 refine wp_reg fun K hK=>?_
 refine S.m rfl (S.g 1 rfl) rfl fun a w G S=>?_
 refine S.s (τ:=MT.ex (nv .u64 ((z % 18446744073709551616).toNat))) (OpR.conv S.ok rfl (S.e 0 rfl) it_3 it_147 (iv_eq (of_wrap hz))) rfl fun a w G S=>?_
 refine S.q rfl (S.g 0 rfl) rfl fun a w G S=>?_
 refine wn hK ?_;clear hK K
 replace S:=S.d2.d1
 refine wp_seq_k fun K hK=>?_
 refine wp_reg fun K hK=>?_
 refine S.m rfl (S.g 2 rfl) rfl fun a w G S=>?_
 refine S.s (OpR.ilss S.ok rfl (S.e 0 rfl) (rfl : _ = nv .i64 0) MT.self) rfl fun a w G S=>?_
 refine wn hK ?_;clear hK K
 replace S:=S.d1
 refine S.cond 0 rfl (fun hc1=>?_) (fun hc1=>?_)
 ·
  have hp2:=of_decide_eq_true hc1
  refine wp_region_lit ?_
  refine S.m rfl (S.g 1 rfl) rfl fun a w G S=>?_
  refine S.s (τ:=MT.ex (nv .u64 (z.natAbs))) (OpR.ineg S.ok rfl (S.e 0 rfl) (iv_eq ((of_neg (by omega) (by omega)).trans (by omega)))) rfl fun a w G S=>?_
  replace S:=S.d3
  refine S.q rfl (S.g 0 rfl) rfl fun a w G S=>?_
  refine wpList_nil ?_
  replace S:=S.d2.d1
  refine hK _ _ ?_;clear hK K
  refine wp_reg fun K hK=>?_
  refine S.m rfl (S.g 3 rfl) rfl fun a w G S=>?_
  refine S.s (OpR.ilss S.ok rfl (S.e 0 rfl) (rfl : _ = nv .i64 0) MT.self) rfl fun a w G S=>?_
  refine S.m rfl (S.g 2 rfl) rfl fun a w G S=>?_
  refine S.s (OpR.nconv32 S.ok rfl (S.e 0 rfl) it_147 it_141 MT.self) rfl fun a w G S=>?_
  refine S.m rfl (S.g 4 rfl) rfl fun a w G S=>?_
  refine S.s (OpR.nshr S.ok rfl (S.e 0 rfl) (rfl : _ = nv .u64 32) (by decide) MT.self) rfl fun a w G S=>?_
  refine S.s (OpR.nconv32 S.ok rfl (S.e 0 rfl) it_147 it_141 MT.self) rfl fun a w G S=>?_
  refine S.s (τ:=SL ([z.natAbs % 4294967296,(z.natAbs / 2 ^ 32) % 4294967296])) (OpR.build32 S.ok rfl Tryz.underlying22 el_141 (by omega) rfl (by simp [wfl] <;> omega) (fill2 (S.e 3 rfl) (S.e 0 rfl))) rfl fun a w G S=>?_
  refine S.s (τ:=WC 64 (sg (decide (z < 0)) (z.natAbs))) (OpR.call2 rfl c_102 (rform_ok S.ok (S.g 6 rfl) (SL.asSV (S.g 0 rfl) ⟨by simp only [val];omega,by omega⟩))) rfl fun a w G S=>?_
  refine S.store (τ:=WC 64 (sg (decide (z < 0)) (z.natAbs))) 0 rfl rfl rfl rfl (S.e 11 rfl) tS_112 (S.g 0 rfl) (sh (τ:=WC 64 (sg (decide (z < 0)) (z.natAbs))) (S.g 0 rfl)) fun w S=>?_
  replace S:=S.n0
  refine wn hK ?_;clear hK K
  replace S:=S.d8.d7.d6.d5.d4.d3.d2.d1.d0
  exact wp_ret (S.retCell (i:=0) rfl (S.e 2 rfl) rfl tS_112 (fun _ h=>(WC.eq h (by unfold sg;split <;> simp_all <;> omega))))
 ·
  have hp3:=of_decide_eq_false hc1
  refine wp_skip ?_
  refine hK _ _ ?_;clear hK K
  refine wp_reg fun K hK=>?_
  refine S.m rfl (S.g 3 rfl) rfl fun a w G S=>?_
  refine S.s (OpR.ilss S.ok rfl (S.e 0 rfl) (rfl : _ = nv .i64 0) MT.self) rfl fun a w G S=>?_
  refine S.m rfl (S.g 3 rfl) rfl fun a w G S=>?_
  refine S.s (OpR.nconv32 S.ok rfl (S.e 0 rfl) it_147 it_141 MT.self) rfl fun a w G S=>?_
  refine S.m rfl (S.g 5 rfl) rfl fun a w G S=>?_
  refine S.s (OpR.nshr S.ok rfl (S.e 0 rfl) (rfl : _ = nv .u64 32) (by decide) MT.self) rfl fun a w G S=>?_
  refine S.s (OpR.nconv32 S.ok rfl (S.e 0 rfl) it_147 it_141 MT.self) rfl fun a w G S=>?_
  refine S.s (τ:=SL ([((z % 18446744073709551616).toNat) % 4294967296,(((z % 18446744073709551616).toNat) / 2 ^ 32) % 4294967296])) (OpR.build32 S.ok rfl Tryz.underlying22 el_141 (by omega) rfl (by simp [wfl] <;> omega) (fill2 (S.e 3 rfl) (S.e 0 rfl))) rfl fun a w G S=>?_
  refine S.s (τ:=WC 64 (sg (decide (z < 0)) (z.natAbs))) (OpR.call2 rfl c_102 (rform_ok S.ok (S.g 6 rfl) (SL.asSV (S.g 0 rfl) ⟨by simp only [val];omega,by omega⟩))) rfl fun a w G S=>?_
  refine S.store (τ:=WC 64 (sg (decide (z < 0)) (z.natAbs))) 0 rfl rfl rfl rfl (S.e 11 rfl) tS_112 (S.g 0 rfl) (sh (τ:=WC 64 (sg (decide (z < 0)) (z.natAbs))) (S.g 0 rfl)) fun w S=>?_
  replace S:=S.n0
  refine wn hK ?_;clear hK K
  replace S:=S.d8.d7.d6.d5.d4.d3.d2.d1.d0
  exact wp_ret (S.retCell (i:=0) rfl (S.e 2 rfl) rfl tS_112 (fun _ h=>(WC.eq h (by unfold sg;split <;> simp_all <;> omega))))
end Go.Proofs.YtpbkcbnghhodiaaGreat
namespace Go.Proofs.YtpbkcbnghhodiaaGreat
set_option maxHeartbeats 1000000
set_option maxRecDepth 100000
open Go.RowKit (Below)
theorem rtrimO_ok {l : List Nat} {v1 : Value} {W0 : World} {G0 : Gh} (hok : Gok W0 G0) (h1 : (SL l).t v1 G0)  : Calls Tryz.prog 123 #[v1] W0 (RetO W0 G0 141 (fun n c q=>wfl q ∧ n ≤ c ∧ q.take n = words (val l))):=by
 have hlim:=SL.lim h1
 have hwf:=SL.wf h1
 simp only [LIM] at hlim
 refine St.enter (N:=25) (L:=[(0,SL l)]) (args:=[v1]) Tryz.func123 rfl rfl rfl hok (enter1 h1) fun a S=>?_
 refine wp_reg fun K hK=>?_
 refine S.s (τ:=MT.ex (Value.slice none 0 0)) (OpR.asn S.ok rfl rfl) rfl fun a w G S=>?_
 refine wn hK ?_;clear hK K
 refine wp_reg fun K hK=>?_
 refine S.build0 rfl rfl rfl Tryz.underlying22 el_141 rfl rfl fun b4 a w G S=>?_
 refine S.m rfl (S.g 2 rfl) rfl fun a w G S=>?_
 refine S.appO rfl rfl rfl Tryz.underlying22 el_141 (S.e 1 rfl) (S.g 0 rfl) rfl rfl fun b6 c6 q6 a w G hqc6 hlc6 hqt6 hqw6 S=>?_
 replace S : St W0 G0 25 [(6,MT.ex (Value.slice (some ⟨b6,0,none⟩) (l.length) (c6))),(5,SL l),(2,MT.ex (Value.slice none 0 0)),(0,SL l)] [⟨b6,141,some (c6),MT.ex (Value.agg (ucells (q6)).toArray)⟩] a _ _:=S.keep [0,1,3,4]
 refine S.q rfl (S.g 0 rfl) rfl fun a w G S=>?_
 refine wn hK ?_;clear hK K
 replace S:=S.d4.d2.d1
 refine wp_seq_k fun K hK=>?_
 refine wp_block ?_
 refine wp_loopJ (fun μ a w=>∃ (k : Nat) (G : Gh),μ = k ∧ (k ≤ l.length) ∧ (val (l.take k) = val l) ∧  St W0 G0 25 [(3,MT.ex (Value.slice (some ⟨b6,0,none⟩) (k) (c6))),(2,MT.ex (Value.slice none 0 0))] [⟨b6,141,some (c6),MT.ex (Value.agg (ucells (q6)).toArray)⟩] a w G) (l.length) ⟨l.length,_,rfl,(Nat.le_refl _),(by rw [List.take_length]),(S.keep [0,1]).keepB [0] (by decide)⟩ ?_
 clear S
 intro μ a w ⟨k,G,hm,hk,hv,S⟩
 refine wp_seq_k fun K hK=>?_
 refine wp_reg fun K hK=>?_
 refine S.m rfl (S.g 0 rfl) rfl fun a w G S=>?_
 refine S.s (OpR.lenA S.ok rfl Tryz.underlying22 (S.e 0 rfl) MT.self) rfl fun a w G S=>?_
 refine S.s (OpR.ngtr S.ok rfl (S.e 0 rfl) (rfl : _ = nv .i64 0) MT.self) rfl fun a w G S=>?_
 refine S.m rfl (S.g 0 rfl) rfl fun a w G S=>?_
 rcases Bool.eq_false_or_eq_true (decide (0 < k)) with hc1 | hc1
 ·
  have hp2:=of_decide_eq_true hc1
  replace S:=S.boolIs 0 rfl hc1
  refine S.stepG 0 (OpR.mv S.ok rfl (S.g 5 rfl)) rfl rfl rfl rfl rfl rfl fun a w G S=>?_
  refine S.stepG 1 (OpR.mv S.ok rfl (S.g 6 rfl)) rfl rfl rfl rfl rfl rfl fun a w G S=>?_
  refine S.stepG 2 (OpR.lenA S.ok rfl Tryz.underlying22 (S.e 0 rfl) MT.self) rfl rfl rfl rfl rfl rfl fun a w G S=>?_
  refine S.stepG 3 (OpR.nsub S.ok rfl (S.e 0 rfl) (rfl : _ = nv .i64 1) (by omega) (wr_i64 (by omega)) MT.self) rfl rfl rfl rfl rfl rfl fun a w G S=>?_
  refine S.stepG (τ:=MT.ex (Value.pointer (some ⟨b6,k - 1,none⟩))) 4 (OpR.ixA (i:=k - 1) S.ok rfl Tryz.underlying22 tS_141 (S.e 3 rfl) (S.e 0 rfl) rfl (by first | omega | (simp;omega)) (ptr_eq (by simp only [Option.getD_none] <;> omega))) rfl rfl rfl rfl rfl rfl fun a w G S=>?_
  refine S.stepG 5 (OpR.ldElem S.ok rfl (S.e 0 rfl) (S.box 0 rfl) tS_141 (dig_get (by first | omega | (simp;omega)))) rfl rfl rfl rfl rfl rfl fun a w G S=>?_
  refine S.stepG 6 (OpR.neql S.ok rfl (S.e 0 rfl) (rfl : _ = nv .u32 0) MT.self) rfl rfl rfl rfl rfl rfl fun a w G S=>?_
  refine S.s (τ:=BT (decide ((dig (q6) (k - 1)) = 0))) (OpR.pick S.ok rfl (S.e 7 rfl) (S.g 0 rfl)) rfl fun a w G S=>?_
  refine wn hK ?_;clear hK K
  replace S:=S.d12.d11.d10.d9.d8.d7.d6.d5.d4.d3.d2.d1
  refine S.cond 0 rfl (fun hc3=>?_) (fun hc3=>?_)
  ·
   have hp4:=of_decide_eq_true hc3
   refine wp_skip ?_
   refine hK _ _ ?_;clear hK K
   refine wp_block ?_
   refine wp_region_lit ?_
   refine S.m rfl (S.g 1 rfl) rfl fun a w G S=>?_
   refine S.m rfl (S.g 2 rfl) rfl fun a w G S=>?_
   refine S.s (OpR.lenA S.ok rfl Tryz.underlying22 (S.e 0 rfl) MT.self) rfl fun a w G S=>?_
   refine S.s (OpR.nsub S.ok rfl (S.e 0 rfl) (rfl : _ = nv .i64 1) (by omega) (wr_i64 (by omega)) MT.self) rfl fun a w G S=>?_
   refine S.s (τ:=MT.ex (Value.slice (some ⟨b6,0,none⟩) (k - 1) (c6))) (OpR.cutX0 S.ok rfl Tryz.underlying22 tS_141 (S.e 3 rfl) (S.e 0 rfl) rfl (by first | omega | (simp;omega)) rfl) rfl fun a w G S=>?_
   replace S:=S.d6
   refine S.q rfl (S.g 0 rfl) rfl fun a w G S=>?_
   refine wpList_nil ?_
   replace S:=S.d5.d4.d3.d2.d1
   replace S:=S.also (t:=3) (τ:=MT.ex (Value.slice (some ⟨b6,0,none⟩) ((k - 1)) (c6))) ((S.e 0 rfl).trans (by first | rfl | omega | (simp only [Nat.zero_add,Nat.add_zero];done) | (simp;done) | (push_cast;omega)))
   exact ⟨(k - 1),(by omega),(k - 1),_,rfl,(by omega),(trim_step ‹_› ((dig_of_take hqt6 (by omega)).symm.trans ‹_›) hv),(S.keep [0,3]).keepB [0] (by decide)⟩
  ·
   have hp5:=of_decide_eq_false hc3
   refine wp_exit (then_exit (then_exit (exit_same ?_)))
   clear hK K
   refine hK _ _ ?_;clear hK K
   refine wp_reg fun K hK=>?_
   refine S.m rfl (S.g 1 rfl) rfl fun a w G S=>?_
   replace S:=S.d3
   refine S.q rfl (S.g 0 rfl) rfl fun a w G S=>?_
   refine wn hK ?_;clear hK K
   replace S:=S.d1
   exact wp_ret (S.retO 0 rfl (S.e 0 rfl) rfl hqc6 ⟨hqw6,by omega,by rw [take_of_take hqt6 hk];first | exact rtrim_zero ‹_› hv rfl | exact trim_words (by omega) (fun h=>absurd ((dig_of_take hqt6 (by omega)).trans h.2) ‹_›) hk hv rfl hwf⟩)
 ·
  have hp6:=of_decide_eq_false hc1
  replace S:=S.boolIs 0 rfl hc1
  refine S.skipG 0 rfl rfl rfl rfl rfl rfl fun a w G S=>?_
  refine S.skipG 1 rfl rfl rfl rfl rfl rfl fun a w G S=>?_
  refine S.skipG 2 rfl rfl rfl rfl rfl rfl fun a w G S=>?_
  refine S.skipG 3 rfl rfl rfl rfl rfl rfl fun a w G S=>?_
  refine S.skipG 4 rfl rfl rfl rfl rfl rfl fun a w G S=>?_
  refine S.skipG 5 rfl rfl rfl rfl rfl rfl fun a w G S=>?_
  refine S.skipG 6 rfl rfl rfl rfl rfl rfl fun a w G S=>?_
  refine S.s (τ:=BT false) (OpR.pick S.ok rfl (S.e 7 rfl) rfl) rfl fun a w G S=>?_
  refine wn hK ?_;clear hK K
  replace S:=S.d12.d11.d10.d9.d8.d7.d6.d5.d4.d3.d2.d1
  refine wp_cond_false (S.e 0 rfl) ?_
  refine wp_exit (then_exit (then_exit (exit_same ?_)))
  clear hK K
  refine hK _ _ ?_;clear hK K
  refine wp_reg fun K hK=>?_
  refine S.m rfl (S.g 1 rfl) rfl fun a w G S=>?_
  replace S:=S.d3
  refine S.q rfl (S.g 0 rfl) rfl fun a w G S=>?_
  refine wn hK ?_;clear hK K
  replace S:=S.d1
  exact wp_ret (S.retO 0 rfl (S.e 0 rfl) rfl hqc6 ⟨hqw6,by omega,by rw [take_of_take hqt6 hk];first | exact rtrim_zero ‹_› hv rfl | exact trim_words (by omega) (fun h=>absurd ((dig_of_take hqt6 (by omega)).trans h.2) ‹_›) hk hv rfl hwf⟩)
theorem rcutO_ok {nn nu : Nat} {us : List Nat} {v1 : Value} {ws : World} {Gs : Gh} {W0 : World} {G0 : Gh} {bu : Nat} {Br : List BX} (S0 : St W0 G0 0 [] (⟨bu,141,some (nu),MT.ex (Value.agg (ucells us).toArray)⟩ :: Br) ⟨#[],[]⟩ ws Gs) (h1 : (MT.ex (Value.slice (some ⟨bu,0,none⟩) (nn) (nu))).t v1 Gs) (husl : us.length = nu) (husw : wfl us) (hnn : nn ≤ nu) (hnu : nn ≤ LIM) : Calls Tryz.prog 126 #[v1] ws (RetM W0 G0 Gs (⟨bu,141,some (nu),MT.ex (Value.agg (ucells us).toArray)⟩ :: Br) 0 bu 141 (nu) (fun v l=>l = us ∧ ∃ k,k ≤ nn ∧ v = Value.slice (some ⟨bu,0,none⟩) k nu ∧ us.take k = words (val (us.take nn)))):=by
 simp only [LIM] at hnu
 refine St.enterM (N:=21) (L:=[(0,MT.ex (Value.slice (some ⟨bu,0,none⟩) (nn) (nu)))]) (args:=[v1]) S0 Tryz.func126 rfl rfl rfl (enter1 h1) fun a S=>?_
 replace S:=S.also (t:=9999) (τ:=GLE Gs) (Gle.refl Gs)
 refine wp_reg fun K hK=>?_
 refine S.s (τ:=MT.ex (Value.slice none 0 0)) (OpR.asn S.ok rfl rfl) rfl fun a w G S=>?_
 refine wn hK ?_;clear hK K
 refine wp_seq_k fun K hK=>?_
 refine wp_block ?_
 refine wp_loopJ (fun μ a w=>∃ (k : Nat) (G : Gh),μ = k ∧ (k ≤ nn) ∧ (val (us.take k) = val (us.take nn)) ∧  St W0 G0 21 [(2,MT.ex (Value.slice none 0 0)),(9999,GLE Gs),(0,MT.ex (Value.slice (some ⟨bu,0,none⟩) (k) (nu)))] (⟨bu,141,some (nu),MT.ex (Value.agg (ucells (us)).toArray)⟩ :: Br) a w G) (nn) ⟨nn,_,rfl,(Nat.le_refl _),rfl,S.keep [0,1,2]⟩ ?_
 clear S
 intro μ a w ⟨k,G,hm,hk,hv,S⟩
 refine wp_seq_k fun K hK=>?_
 refine wp_reg fun K hK=>?_
 refine S.m rfl (S.g 2 rfl) rfl fun a w G S=>?_
 refine S.s (OpR.lenA S.ok rfl Tryz.underlying22 (S.e 0 rfl) MT.self) rfl fun a w G S=>?_
 refine S.s (OpR.ngtr S.ok rfl (S.e 0 rfl) (rfl : _ = nv .i64 0) MT.self) rfl fun a w G S=>?_
 refine S.m rfl (S.g 0 rfl) rfl fun a w G S=>?_
 rcases Bool.eq_false_or_eq_true (decide (0 < k)) with hc1 | hc1
 ·
  have hp2:=of_decide_eq_true hc1
  replace S:=S.boolIs 0 rfl hc1
  refine S.stepG 0 (OpR.mv S.ok rfl (S.g 7 rfl)) rfl rfl rfl rfl rfl rfl fun a w G S=>?_
  refine S.stepG 1 (OpR.mv S.ok rfl (S.g 8 rfl)) rfl rfl rfl rfl rfl rfl fun a w G S=>?_
  refine S.stepG 2 (OpR.lenA S.ok rfl Tryz.underlying22 (S.e 0 rfl) MT.self) rfl rfl rfl rfl rfl rfl fun a w G S=>?_
  refine S.stepG 3 (OpR.nsub S.ok rfl (S.e 0 rfl) (rfl : _ = nv .i64 1) (by omega) (wr_i64 (by omega)) MT.self) rfl rfl rfl rfl rfl rfl fun a w G S=>?_
  refine S.stepG (τ:=MT.ex (Value.pointer (some ⟨bu,k - 1,none⟩))) 4 (OpR.ixA (i:=k - 1) S.ok rfl Tryz.underlying22 tS_141 (S.e 3 rfl) (S.e 0 rfl) rfl (by first | omega | (simp;omega)) (ptr_eq (by simp only [Option.getD_none] <;> omega))) rfl rfl rfl rfl rfl rfl fun a w G S=>?_
  refine S.stepG 5 (OpR.ldElem S.ok rfl (S.e 0 rfl) (S.box 0 rfl) tS_141 (dig_get (by first | omega | (simp;omega)))) rfl rfl rfl rfl rfl rfl fun a w G S=>?_
  refine S.stepG 6 (OpR.neql S.ok rfl (S.e 0 rfl) (rfl : _ = nv .u32 0) MT.self) rfl rfl rfl rfl rfl rfl fun a w G S=>?_
  refine S.s (τ:=BT (decide ((dig (us) (k - 1)) = 0))) (OpR.pick S.ok rfl (S.e 7 rfl) (S.g 0 rfl)) rfl fun a w G S=>?_
  refine wn hK ?_;clear hK K
  replace S:=S.d12.d11.d10.d9.d8.d7.d6.d5.d4.d3.d2.d1
  refine S.cond 0 rfl (fun hc3=>?_) (fun hc3=>?_)
  ·
   have hp4:=of_decide_eq_true hc3
   refine wp_skip ?_
   refine hK _ _ ?_;clear hK K
   refine wp_block ?_
   refine wp_region_lit ?_
   refine S.m rfl (S.g 3 rfl) rfl fun a w G S=>?_
   refine S.m rfl (S.g 4 rfl) rfl fun a w G S=>?_
   refine S.s (OpR.lenA S.ok rfl Tryz.underlying22 (S.e 0 rfl) MT.self) rfl fun a w G S=>?_
   refine S.s (OpR.nsub S.ok rfl (S.e 0 rfl) (rfl : _ = nv .i64 1) (by omega) (wr_i64 (by omega)) MT.self) rfl fun a w G S=>?_
   refine S.s (τ:=MT.ex (Value.slice (some ⟨bu,0,none⟩) (k - 1) (nu))) (OpR.cutX0 S.ok rfl Tryz.underlying22 tS_141 (S.e 3 rfl) (S.e 0 rfl) rfl (by first | omega | (simp;omega)) rfl) rfl fun a w G S=>?_
   replace S:=S.d8
   refine S.q rfl (S.g 0 rfl) rfl fun a w G S=>?_
   refine wpList_nil ?_
   replace S:=S.d5.d4.d3.d2.d1
   replace S:=S.also (t:=0) (τ:=MT.ex (Value.slice (some ⟨bu,0,none⟩) ((k - 1)) (nu))) ((S.e 0 rfl).trans (by first | rfl | omega | (simp only [Nat.zero_add,Nat.add_zero];done) | (simp;done) | (push_cast;omega)))
   exact ⟨(k - 1),(by omega),(k - 1),_,rfl,(by omega),(cut_step ‹_› ‹_› hv),S.keep [3,4,0]⟩
  ·
   have hp5:=of_decide_eq_false hc3
   refine wp_exit (then_exit (then_exit (exit_same ?_)))
   clear hK K
   refine hK _ _ ?_;clear hK K
   refine wp_reg fun K hK=>?_
   refine S.m rfl (S.g 3 rfl) rfl fun a w G S=>?_
   replace S:=S.d2
   refine S.q rfl (S.g 0 rfl) rfl fun a w G S=>?_
   refine wn hK ?_;clear hK K
   replace S:=S.d1
   exact wp_ret (S.retM rfl (S.e 0 rfl) ⟨rfl,k,hk,rfl,by first | exact cut_zero ‹_› hv | exact cut_top ‹_› (by omega) ‹_› hv husw⟩ husl (S.g 2 rfl))
 ·
  have hp6:=of_decide_eq_false hc1
  replace S:=S.boolIs 0 rfl hc1
  refine S.skipG 0 rfl rfl rfl rfl rfl rfl fun a w G S=>?_
  refine S.skipG 1 rfl rfl rfl rfl rfl rfl fun a w G S=>?_
  refine S.skipG 2 rfl rfl rfl rfl rfl rfl fun a w G S=>?_
  refine S.skipG 3 rfl rfl rfl rfl rfl rfl fun a w G S=>?_
  refine S.skipG 4 rfl rfl rfl rfl rfl rfl fun a w G S=>?_
  refine S.skipG 5 rfl rfl rfl rfl rfl rfl fun a w G S=>?_
  refine S.skipG 6 rfl rfl rfl rfl rfl rfl fun a w G S=>?_
  refine S.s (τ:=BT false) (OpR.pick S.ok rfl (S.e 7 rfl) rfl) rfl fun a w G S=>?_
  refine wn hK ?_;clear hK K
  replace S:=S.d12.d11.d10.d9.d8.d7.d6.d5.d4.d3.d2.d1
  refine wp_cond_false (S.e 0 rfl) ?_
  refine wp_exit (then_exit (then_exit (exit_same ?_)))
  clear hK K
  refine hK _ _ ?_;clear hK K
  refine wp_reg fun K hK=>?_
  refine S.m rfl (S.g 3 rfl) rfl fun a w G S=>?_
  replace S:=S.d2
  refine S.q rfl (S.g 0 rfl) rfl fun a w G S=>?_
  refine wn hK ?_;clear hK K
  replace S:=S.d1
  exact wp_ret (S.retM rfl (S.e 0 rfl) ⟨rfl,k,hk,rfl,by first | exact cut_zero ‹_› hv | exact cut_top ‹_› (by omega) ‹_› hv husw⟩ husl (S.g 2 rfl))
end Go.Proofs.YtpbkcbnghhodiaaGreat
namespace Go.Proofs.YtpbkcbnghhodiaaGreat
set_option maxHeartbeats 1000000
set_option maxRecDepth 100000
open Go.RowKit (Below)
private theorem c_126 : callable Tryz.prog 126 = true:=by kernel_rfl
private theorem c_130 : callable Tryz.prog 130 = true:=by kernel_rfl
theorem rhalve_ok {nn nu : Nat} {us : List Nat} {v1 : Value} {ws : World} {Gs : Gh} {W0 : World} {G0 : Gh} {bu : Nat} {Br : List BX} (S0 : St W0 G0 0 [] (⟨bu,141,some (nu),MT.ex (Value.agg (ucells us).toArray)⟩ :: Br) ⟨#[],[]⟩ ws Gs) (h1 : (MT.ex (Value.slice (some ⟨bu,0,none⟩) (nn) (nu))).t v1 Gs) (husl : us.length = nu) (husw : wfl us) (hnn : nn ≤ nu) (hnu : nn ≤ LIM) : Calls Tryz.prog 124 #[v1] ws (RetM W0 G0 Gs (⟨bu,141,some (nu),MT.ex (Value.agg (ucells us).toArray)⟩ :: Br) 0 bu 141 (nu) (fun v l=>wfl l ∧ ∃ k,k ≤ nn ∧ v = Value.slice (some ⟨bu,0,none⟩) k nu ∧ l.take k = words (val (us.take nn) / 2))):=by
 simp only [LIM] at hnu
 refine St.enterM (N:=26) (L:=[(0,MT.ex (Value.slice (some ⟨bu,0,none⟩) (nn) (nu)))]) (args:=[v1]) S0 Tryz.func124 rfl rfl rfl (enter1 h1) fun a S=>?_
 replace S:=S.also (t:=9999) (τ:=GLE Gs) (Gle.refl Gs)
 refine wp_reg fun K hK=>?_
 refine S.s (τ:=MT.ex (Value.slice none 0 0)) (OpR.asn S.ok rfl rfl) rfl fun a w G S=>?_
 refine wn hK ?_;clear hK K
 refine wp_seq_k fun K hK=>?_
 refine wp_reg fun K hK=>?_
 refine S.m rfl (S.g 2 rfl) rfl fun a w G S=>?_
 refine S.s (OpR.lenA S.ok rfl Tryz.underlying22 (S.e 0 rfl) MT.self) rfl fun a w G S=>?_
 refine S.s (τ:=NT 0) (OpR.mv S.ok rfl (rfl : _ = nv .i64 0)) rfl fun a w G S=>?_
 refine wn hK ?_;clear hK K
 replace S:=S.d2
 refine wp_block ?_
 refine wp_loopJ (fun μ a w=>∃ (k : Nat) (l : List Nat) (G : Gh),μ = nn - k ∧ (k ≤ nn) ∧ (l.length = nu) ∧ (wfl l) ∧ (l.drop k = us.drop k) ∧ (2 * val (l.take k) + dig (us.take nn) 0 % 2 = val (us.take k) + 4294967296 ^ k * (dig (us.take nn) k % 2)) ∧  St W0 G0 26 [(6,NT k),(5,NT nn),(2,MT.ex (Value.slice none 0 0)),(9999,GLE Gs),(0,MT.ex (Value.slice (some ⟨bu,0,none⟩) (nn) (nu)))] (⟨bu,141,some (nu),MT.ex (Value.agg (ucells (l)).toArray)⟩ :: Br) a w G) (nn - 0) ⟨0,us,_,rfl,(by omega),husl,husw,rfl,(by simp [val]),S.keep [0,1,2,3,4]⟩ ?_
 clear S
 intro μ a w ⟨k,l,G,hm,hk,hl,hw,hB,hv,S⟩
 have hda:=dig_lt (husw.take nn) k
 have hdb:=dig_lt (husw.take nn) (k + 1)
 have hea:=halve_dig (nn:=nn) hB (Nat.le_refl k)
 have heb:=halve_dig (nn:=nn) (j:=k + 1) hB (by omega)
 refine wp_reg fun K hK=>?_
 refine S.s (OpR.nlss S.ok rfl (S.e 0 rfl) (S.e 1 rfl) MT.self) rfl fun a w G S=>?_
 refine wn hK ?_;clear hK K
 refine wp_seq_k fun K hK=>?_
 refine S.cond 0 rfl (fun hc1=>?_) (fun hc1=>?_)
 ·
  have hp2:=of_decide_eq_true hc1
  refine wp_skip ?_
  refine hK _ _ ?_;clear hK K
  refine wp_seq_k fun K hK=>?_
  refine wp_block ?_
  refine wp_reg fun K hK=>?_
  refine S.m rfl (S.g 1 rfl) rfl fun a w G S=>?_
  refine S.q rfl (S.g 0 rfl) rfl fun a w G S=>?_
  refine wn hK ?_;clear hK K
  replace S:=S.d1
  refine wp_region_lit ?_
  refine S.m rfl (S.g 6 rfl) rfl fun a w G S=>?_
  refine S.m rfl (S.g 1 rfl) rfl fun a w G S=>?_
  refine S.m rfl (S.g 8 rfl) rfl fun a w G S=>?_
  refine S.m rfl (S.g 3 rfl) rfl fun a w G S=>?_
  refine S.s (τ:=MT.ex (nv .u64 (dig (l.take (nn)) k))) (OpR.lendP (n:=nn) (c:=nu) (q:=l) S.ok rfl c_130 (S.box 0 rfl) (by omega) (by omega) (by simp only [LIM];omega) (by assumption) fun G1 hle hok1 hsl=>(rat_ok hok1 (of_val (S.e 1 rfl) hsl) ((NT k).mono hle (S.g 0 rfl)))) rfl fun a w G S=>?_
  refine S.s (OpR.nshr S.ok rfl (S.e 0 rfl) (rfl : _ = nv .u64 1) (by decide) MT.self) rfl fun a w G S=>?_
  refine S.m rfl (S.g 12 rfl) rfl fun a w G S=>?_
  refine S.m rfl (S.g 7 rfl) rfl fun a w G S=>?_
  refine S.s (OpR.nadd S.ok rfl (S.e 0 rfl) (rfl : _ = nv .i64 1) (wr_i64 (by omega)) MT.self) rfl fun a w G S=>?_
  refine S.s (τ:=MT.ex (nv .u64 (dig (l.take (nn)) (k + 1)))) (OpR.lendP (n:=nn) (c:=nu) (q:=l) S.ok rfl c_130 (S.box 0 rfl) (by omega) (by omega) (by simp only [LIM];omega) (by assumption) fun G1 hle hok1 hsl=>(rat_ok hok1 (of_val (S.e 2 rfl) hsl) ((NT (k + 1)).mono hle (S.g 0 rfl)))) rfl fun a w G S=>?_
  refine S.s (OpR.nshl S.ok rfl (S.e 0 rfl) (rfl : _ = nv .u64 31) (by decide) (wr_u64 (by omega)) MT.self) rfl fun a w G S=>?_
  refine S.s (OpR.nor S.ok rfl (S.e 5 rfl) (S.e 0 rfl) (by omega) (by omega) MT.self) rfl fun a w G S=>?_
  refine S.s (OpR.nconv32 S.ok rfl (S.e 0 rfl) it_147 it_141 MT.self) rfl fun a w G S=>?_
  refine S.s (τ:=MT.ex (Value.pointer (some ⟨bu,k,none⟩))) (OpR.ixA (i:=k) S.ok rfl Tryz.underlying22 tS_141 (S.e 12 rfl) (S.e 11 rfl) rfl (by first | omega | (simp;omega)) (ptr_eq (by simp only [Option.getD_none] <;> omega))) rfl fun a w G S=>?_
  refine S.setElem 0 (z:=(((dig (l.take (nn)) k) / 2 ^ 1) ||| ((dig (l.take (nn)) (k + 1)) * 2 ^ 31)) % 4294967296) rfl rfl rfl rfl (S.e 0 rfl) tS_141 (S.e 1 rfl) rfl (by first | omega | (simp;omega)) fun w S=>?_
  replace S:=S.n0
  refine wpList_nil ?_
  replace S:=S.d14.d13.d12.d11.d10.d9.d8.d7.d6.d5.d4.d3.d2.d1.d0
  refine hK _ _ ?_;clear hK K
  refine wp_region_lit ?_
  refine S.s (OpR.nadd S.ok rfl (S.e 1 rfl) (rfl : _ = nv .i64 1) (wr_i64 (by omega)) MT.self) rfl fun a w G S=>?_
  replace S:=S.d2
  refine S.m rfl (S.g 0 rfl) rfl fun a w G S=>?_
  refine wpList_nil ?_
  replace S:=S.d1
  replace S:=S.castBox (τ':=MT.ex (Value.agg (ucells ((l.set (k) ((((dig (l.take (nn)) k) / 2 ^ 1) ||| ((dig (l.take (nn)) (k + 1)) * 2 ^ 31)) % 4294967296)))).toArray)) 0 rfl fun _ h _=>Eq.trans h (congrArg (fun l=>Value.agg (ucells l).toArray) (by simp))
  replace S:=S.n0
  exact ⟨nn - (k + 1),(by omega),k + 1,l.set (k) ((((dig (l.take (nn)) k) / 2 ^ 1) ||| ((dig (l.take (nn)) (k + 1)) * 2 ^ 31)) % 4294967296),_,rfl,(by omega),(by simpa using hl),(hw.set (Nat.mod_lt _ (by decide))),(by rw [drop_set_far (by omega)];exact drop_eq_succ hB),(halve_step (by omega) (by omega) husl hB (halve_or hda hea heb) hv),S.keep [0,2,3,4,5]⟩
 ·
  have hp3:=of_decide_eq_false hc1
  refine wp_exit (then_exit (then_exit (exit_same ?_)))
  clear hK K
  refine hK _ _ ?_;clear hK K
  refine wp_reg fun K hK=>?_
  refine S.m rfl (S.g 5 rfl) rfl fun a w G S=>?_
  refine S.stepM1 0 rfl rfl rfl c_126 (rcutO_ok S.world (S.g 0 rfl) hl hw hnn (by simp only [LIM];omega)) rfl rfl fun vR lR a w G hR hlR S=>?_
  obtain ⟨rfl,j,hj,rfl,hjv⟩:=hR
  replace S:=S.d5
  refine S.q rfl (S.g 0 rfl) rfl fun a w G S=>?_
  refine wn hK ?_;clear hK K
  replace S:=S.d2.d1
  exact wp_ret (S.retM rfl (S.e 0 rfl) ⟨hw,j,hj,rfl,hjv.trans (congrArg words (halve_end hl husl ‹_› hk hv))⟩ hl (S.g 4 rfl))
end Go.Proofs.YtpbkcbnghhodiaaGreat
namespace Go.Proofs.YtpbkcbnghhodiaaGreat
open Go.RowKit (Below)
def ROW (n c : Nat) (q : List Nat) (z M : Nat) : Prop:=q.length = c ∧ n ≤ c ∧ wfl q ∧ q.take n = words z ∧ n ≤ LIM ∧ z < 2 ^ M
section
variable {n c z M : Nat} {q : List Nat}
theorem ROW.len (h : ROW n c q z M) : q.length = c:=h.1
theorem ROW.le (h : ROW n c q z M) : n ≤ c:=h.2.1
theorem ROW.wf (h : ROW n c q z M) : wfl q:=h.2.2.1
theorem ROW.eq (h : ROW n c q z M) : q.take n = words z:=h.2.2.2.1
theorem ROW.lim (h : ROW n c q z M) : n ≤ LIM:=h.2.2.2.2.1
theorem ROW.lt (h : ROW n c q z M) : z < 2 ^ M:=h.2.2.2.2.2
theorem ROW.cnt (h : ROW n c q z M) : n = (words z).length:=by
  have:=congrArg List.length h.eq
  rw [List.length_take,h.len] at this;have:=h.le;omega
theorem ROW.zero (h : ROW n c q z M) (h0 : n = 0) : z = 0:=len_zero (by rw [← h.cnt];exact h0)
theorem ROW.nz (h : ROW n c q z M) (h0 : ¬ n = 0) : z ≠ 0:=fun e=>h0 (by rw [h.cnt,e,words_zero];rfl)
theorem ROW.pos (h : ROW n c q z M) (h0 : z ≠ 0) : 0 < n:=by rw [h.cnt];exact len_pos_iff.2 h0
theorem ROW.val (h : ROW n c q z M) : val (q.take n) = z:=by rw [h.eq,val_words]
theorem ROW.mk {M n c : Nat} {q : List Nat} {z : Nat} (hq : q.length = c) (hn : n ≤ c) (hw : wfl q) (he : q.take n = words z) (hM : M ≤ BIG) (hz : z < 2 ^ M) : ROW n c q z M:=by
  refine ⟨hq,hn,hw,he,?_,hz⟩
  have:=congrArg List.length he
  rw [List.length_take,hq] at this
  have h2:=words_length_bits hz
  simp only [BIG] at hM;simp only [LIM];omega
theorem ROW.odd (h : ROW n c q z M) (h0 : 0 < n) : dig q 0 % 2 = z % 2:=by
  have e:=h.val
  obtain ⟨x,r,hxr⟩ : ∃ x r,q.take n = x :: r:=by
    cases hq : q.take n with
    | nil=>have h5:=congrArg List.length hq;rw [List.length_take,h.len] at h5;have h6:=h.le;simp only [List.length_nil] at h5;omega
    | cons x r=>exact ⟨x,r,rfl⟩
  have e2 : dig q 0 = x:=by rw [← dig_take h0,hxr];rfl
  rw [hxr] at e
  have e3 : Go.Proofs.YtpbkcbnghhodiaaGreat.val (x :: r) = x + 4294967296 * Go.Proofs.YtpbkcbnghhodiaaGreat.val r:=rfl
  rw [e3] at e
  rw [e2,← e];omega
theorem ROW.half {n c : Nat} {q l : List Nat} {j : Nat} (h : ROW n c q z M) (hl : l.length = c) (hw : wfl l) (hj : j ≤ n) (he : l.take j = words (Go.Proofs.YtpbkcbnghhodiaaGreat.val (q.take n) / 2)) (hM : M ≤ BIG) : ROW j c l (z / 2) M:=by
  rw [h.val] at he
  exact ROW.mk hl (by have:=h.le;omega) hw he hM (by have:=h.lt;omega)
end
theorem wfl_val_lt {l : List Nat} (h : wfl l) : val l < 4294967296 ^ l.length:=val_lt h
theorem take_ge {us vs l : List Nat} {nn c A B : Nat} (hl : (l.take nn).length ≤ nn) (hwl : wfl l) (hA : val (us.take nn) = A) (hB : val (vs.take nn) = B) (hle : B ≤ A) (hc : c ≤ 1) (h : val (l.take nn) + val (vs.take nn) = val (us.take nn) + 4294967296 ^ nn * c) : val (l.take nn) = A - B:=by
  have h1:=wfl_val_lt (hwl.take nn)
  have h2 : 4294967296 ^ (l.take nn).length ≤ 4294967296 ^ nn:=Nat.pow_le_pow_right (by decide) hl
  generalize 4294967296 ^ nn = D at *
  generalize 4294967296 ^ (l.take nn).length = E at *
  rcases Nat.eq_zero_or_pos c with h3 | h3
  · subst h3;rw [Nat.mul_zero] at h;omega
  · have : c = 1:=by omega
    subst this;rw [Nat.mul_one] at h;omega
theorem take_take_words {n nn B : Nat} {q : List Nat} (h : q.take n = words B) (hn : n ≤ nn) : val ((q.take n).take nn) = B:=by
  rw [List.take_take,Nat.min_eq_right hn,h,val_words]
theorem words_len_mono {x y : Nat} (h : x ≤ y) : (words x).length ≤ (words y).length:=by
  rcases Nat.lt_or_ge (words y).length (words x).length with h1 | h1
  · have:=lt_of_len (a:=y) (b:=x) h1;omega
  · exact h1
theorem takeO_step {l us vs : List Nat} {nn k c : Nat} (hk : k < l.length) (hn : k < nn) (ha : dig l k < 4294967296) (hb : dig vs k < 4294967296) (hc : c ≤ 1) (hd : l.drop k = us.drop k) (h : val (l.take k) + val (vs.take k) = val (us.take k) + 4294967296 ^ k * c) :
    val ((l.set k ((4294967296 + dig (l.take nn) k - dig vs k - c) % 4294967296)).take (k + 1)) + val (vs.take (k + 1)) = val (us.take (k + 1)) + 4294967296 ^ (k + 1) * (1 - (4294967296 + dig (l.take nn) k - dig vs k - c) / 2 ^ 32):=by
  rw [dig_take hn];exact rtake_step hk ha hb hc hd h
theorem takeO_end {l us vs : List Nat} {nn k c : Nat} (hk : ¬ k < nn) (hk' : k ≤ nn) (h : val (l.take k) + val (vs.take k) = val (us.take k) + 4294967296 ^ k * c) : val (l.take nn) + val (vs.take nn) = val (us.take nn) + 4294967296 ^ nn * c:=by
  obtain rfl : k = nn:=by omega
  exact h
theorem gcd_half_odd {u w : Nat} (h : Nat.gcd (2 * u) w % 2 = 1) : Nat.gcd u w = Nat.gcd (2 * u) w:=by
  refine Nat.dvd_antisymm (Nat.gcd_dvd_gcd_of_dvd_left w (Nat.dvd_mul_left u 2)) (Nat.dvd_gcd ?_ (Nat.gcd_dvd_right _ _))
  have h1 : Nat.gcd (2 * u) w ∣ 2 * u:=Nat.gcd_dvd_left _ _
  have h2 : Nat.Coprime (Nat.gcd (2 * u) w) 2:=by
    generalize Nat.gcd (2 * u) w = g at *
    unfold Nat.Coprime
    rw [Nat.gcd_comm,Nat.gcd_rec,h];rfl
  exact h2.dvd_of_dvd_mul_left h1
theorem gcd_half {z w g : Nat} (he : z % 2 = 0) (hg : Nat.gcd z w = g) (ho : g % 2 = 1) : Nat.gcd (z / 2) w = g:=by
  have e : z = 2 * (z / 2):=by omega
  rw [e] at hg
  rw [gcd_half_odd (by rw [hg];exact ho),hg]
theorem gcd_half' {z w g : Nat} (he : w % 2 = 0) (hg : Nat.gcd z w = g) (ho : g % 2 = 1) : Nat.gcd z (w / 2) = g:=by
  rw [Nat.gcd_comm];exact gcd_half he (by rw [Nat.gcd_comm];exact hg) ho
theorem gcd_both {u w k x y : Nat} (hu : u % 2 = 0) (hw : w % 2 = 0) (hx : u * 2 ^ k = x) (hy : w * 2 ^ k = y) : u / 2 * 2 ^ (k + 1) = x ∧ w / 2 * 2 ^ (k + 1) = y:=by
  have e1 : u = u / 2 * 2:=by omega
  have e2 : w = w / 2 * 2:=by omega
  constructor
  · rw [Nat.pow_succ,← hx];conv=>rhs;rw [e1]
    rw [Nat.mul_assoc,Nat.mul_comm (2 ^ k) 2,← Nat.mul_assoc]
  · rw [Nat.pow_succ,← hy];conv=>rhs;rw [e2]
    rw [Nat.mul_assoc,Nat.mul_comm (2 ^ k) 2,← Nat.mul_assoc]
theorem gcd_minus {u w g : Nat} (hg : Nat.gcd u w = g) (h : w ≤ u) : Nat.gcd (u - w) w = g:=by
  rw [Nat.gcd_sub_self_left h];exact hg
theorem gcd_odd {u w : Nat} (h : ¬ (u % 2 = 0 ∧ w % 2 = 0)) : Nat.gcd u w % 2 = 1:=by
  rcases Nat.mod_two_eq_zero_or_one (Nat.gcd u w) with h1 | h1
  · exact absurd ⟨Nat.mod_eq_zero_of_dvd (Nat.dvd_trans (Nat.dvd_of_mod_eq_zero h1) (Nat.gcd_dvd_left _ _)),Nat.mod_eq_zero_of_dvd (Nat.dvd_trans (Nat.dvd_of_mod_eq_zero h1) (Nat.gcd_dvd_right _ _))⟩ h
  · exact h1
theorem gcd_scale {u w k x y : Nat} (hx : u * 2 ^ k = x) (hy : w * 2 ^ k = y) : Nat.gcd u w * 2 ^ k = Nat.gcd x y:=by rw [← hx,← hy,Nat.gcd_mul_right]
theorem pow_lt_of {u k x M : Nat} (h0 : u ≠ 0) (hx : u * 2 ^ k = x) (hM : x < 2 ^ M) : k < M:=by
  have : 2 ^ k ≤ x:=by rw [← hx];exact Nat.le_mul_of_pos_left _ (Nat.pos_of_ne_zero h0)
  exact (Nat.pow_lt_pow_iff_right (by decide : 1 < 2)).1 (Nat.lt_of_le_of_lt this hM)
theorem gcd_lt_pow {x y M : Nat} (hx : x ≠ 0) (h : x < 2 ^ M) : Nat.gcd x y < 2 ^ M:=Nat.lt_of_le_of_lt (Nat.gcd_le_left _ (Nat.pos_of_ne_zero hx)) h
theorem twos_lt {g i k t M : Nat} (h : g * 2 ^ k = t) (hi : i < k) (ht : t < 2 ^ M) : g * 2 ^ i + g * 2 ^ i = g * 2 ^ (i + 1) ∧ g * 2 ^ i + g * 2 ^ i < 2 ^ M:=by
  have e : g * 2 ^ i + g * 2 ^ i = g * 2 ^ (i + 1):=by rw [Nat.pow_succ];grind
  refine ⟨e,?_⟩
  rw [e]
  refine Nat.lt_of_le_of_lt ?_ ht
  rw [← h];exact Nat.mul_le_mul_left _ (Nat.pow_le_pow_right (by decide) hi)
section
variable {P : Program} {o : Oper} {a : Act} {w : World} {G : Gh} {τ : MT} {x y : Operand} {k k' : IntKind} {t t' : TypeId} {m n : Nat}
theorem OpR.nand1 (hok : Gok w G) (ho : o.op = .binOp .and t x y t') (hx : a.eval x = nv .u32 m) (hy : a.eval y = nv .u32 1) (hm : m < 4294967296) (h : τ.t (nv .u32 (m % 2)) G) : OpR P o a w G τ :=
  .bits hok ho hx hy (.inl ⟨rfl,by
    have h1 : (BitVec.ofInt 32 (m : Int)).toNat = m:=by simp;omega
    have e : (Value.int .u32 (IntKind.u32.wrap ((BitVec.ofInt IntKind.u32.bits (m : Int) &&& BitVec.ofInt IntKind.u32.bits ((1 : Nat) : Int)).toNat : Int))) = nv .u32 (m % 2):=by
      show Value.int .u32 (IntKind.u32.wrap ((BitVec.ofInt 32 (m : Int) &&& BitVec.ofInt 32 ((1 : Nat) : Int)).toNat : Int)) = _
      rw [BitVec.toNat_and,h1,show (BitVec.ofInt 32 ((1 : Nat) : Int)).toNat = 1 from rfl,Nat.and_one_is_mod]
      congr 1;exact wr_u32 (by omega)
    rw [e];exact h⟩)
theorem OpR.nshlw (hok : Gok w G) (ho : o.op = .binOp .shl t x y t') (hx : a.eval x = nv .u32 m) (hy : a.eval y = nv k' n) (hn : n ≤ IntKind.u32.bits) (h : τ.t (nv .u32 (m * 2 ^ n % 4294967296)) G) : OpR P o a w G τ :=
  .shl hok ho hx hy (by omega) (by
    have e : (m : Int) * (2 : Int) ^ (min (n : Int).toNat IntKind.u32.bits) = ((m * 2 ^ n : Nat) : Int):=by rw [Int.toNat_natCast,Nat.min_eq_left hn];simp
    rw [e];have:=nw_u32 (z:=((m * 2 ^ n : Nat) : Int)) (n:=m * 2 ^ n) rfl;rw [this];exact h)
end
end Go.Proofs.YtpbkcbnghhodiaaGreat
namespace Go.Proofs.YtpbkcbnghhodiaaGreat
set_option maxHeartbeats 1000000
set_option maxRecDepth 100000
open Go.RowKit (Below)
theorem rcompareL_ok {l q : List Nat} {v1 v2 : Value} {W0 : World} {G0 : Gh} (hok : Gok W0 G0) (h1 : (SL l).t v1 G0) (h2 : (SL q).t v2 G0)  : Calls Tryz.prog 115 #[v1,v2] W0 (Ret W0 G0 (IT (cmpN (val l) (val q)))):=by
 have hla:=SL.lim h1
 have hlb:=SL.lim h2
 have hwl:=SL.wf h1
 have hwq:=SL.wf h2
 simp only [LIM] at hla hlb
 refine St.enter (N:=30) (L:=[(1,SL q),(0,SL l)]) (args:=[v1,v2]) Tryz.func115 rfl rfl rfl hok (enter2 h1 h2) fun a S=>?_
 refine wp_reg fun K hK=>?_
 refine S.s (τ:=NT 0) (OpR.asn S.ok rfl (rfl : _ = nv .i64 0)) rfl fun a w G S=>?_
 refine wn hK ?_;clear hK K
 refine wp_seq_k fun K hK=>?_
 refine wp_reg fun K hK=>?_
 refine S.m rfl (S.g 2 rfl) rfl fun a w G S=>?_
 refine S.s (OpR.lenL S.ok rfl Tryz.underlying22 (S.g 0 rfl) MT.self) rfl fun a w G S=>?_
 refine S.m rfl (S.g 3 rfl) rfl fun a w G S=>?_
 refine S.s (OpR.lenL S.ok rfl Tryz.underlying22 (S.g 0 rfl) MT.self) rfl fun a w G S=>?_
 refine S.s (OpR.nmax S.ok rfl (S.e 2 rfl) (S.e 0 rfl) MT.self) rfl fun a w G S=>?_
 refine S.s (τ:=IT (((max l.length q.length : Nat) : Int) - ((1 : Nat) : Int))) (OpR.isub S.ok rfl (S.e 0 rfl) (rfl : _ = nv .i64 1) (iw_i64 (by omega) (by omega))) rfl fun a w G S=>?_
 refine S.q rfl (S.g 0 rfl) rfl fun a w G S=>?_
 refine wn hK ?_;clear hK K
 replace S:=S.d6.d5.d4.d3.d2.d1
 refine wp_block ?_
 replace S:=S.also (t:=5) (τ:=IT ((((max l.length q.length) : Nat) : Int) - ((1 : Nat) : Int))) ((S.e 0 rfl).trans (iv_eq (by first | rfl | omega | (simp only [Nat.zero_add,Nat.add_zero];done) | (simp;done) | (push_cast;omega))))
 refine wp_loopJ (fun μ a w=>∃ (k : Nat) (G : Gh),μ = k ∧ (k ≤ max l.length q.length) ∧ (val (l.drop k) = val (q.drop k)) ∧  St W0 G0 30 [(5,IT (((k : Nat) : Int) - ((1 : Nat) : Int))),(4,NT 0),(1,SL q),(0,SL l)] [] a w G) ((max l.length q.length)) ⟨(max l.length q.length),_,rfl,(Nat.le_refl _),(by rw [List.drop_of_length_le (by omega),List.drop_of_length_le (by omega)]),(S.keep [0,2,3,4]).keepB [] (by decide)⟩ ?_
 clear S
 intro μ a w ⟨k,G,hm,hkm,he,S⟩
 refine wp_seq_k fun K hK=>?_
 refine wp_reg fun K hK=>?_
 refine S.m rfl (S.g 0 rfl) rfl fun a w G S=>?_
 refine S.s (OpR.igeq S.ok rfl (S.e 0 rfl) (rfl : _ = nv .i64 0) MT.self) rfl fun a w G S=>?_
 refine wn hK ?_;clear hK K
 replace S:=S.d1
 refine S.cond 0 rfl (fun hc1=>?_) (fun hc1=>?_)
 ·
  have hp2:=of_decide_eq_true hc1
  refine wp_skip ?_
  refine hK _ _ ?_;clear hK K
  refine wp_seq_k fun K hK=>?_
  refine wp_block ?_
  refine wp_reg fun K hK=>?_
  have hkk : ((k : Nat) : Int) - ((1 : Nat) : Int) = ((k - 1 : Nat) : Int):=by omega
  refine S.m rfl (S.g 4 rfl) rfl fun a w G S=>?_
  refine S.m rfl (S.g 2 rfl) rfl fun a w G S=>?_
  refine S.s (τ:=MT.ex (nv .u64 (dig l (k - 1)))) (OpR.call2 rfl c_130 (rat_ok S.ok (S.g 1 rfl) (iv_at (S.g 0 rfl) (by omega)))) rfl fun a w G S=>?_
  refine S.m rfl (S.g 6 rfl) rfl fun a w G S=>?_
  refine S.m rfl (S.g 5 rfl) rfl fun a w G S=>?_
  refine S.s (τ:=MT.ex (nv .u64 (dig q (k - 1)))) (OpR.call2 rfl c_130 (rat_ok S.ok (S.g 1 rfl) (iv_at (S.g 0 rfl) (by omega)))) rfl fun a w G S=>?_
  refine S.s (OpR.nneq S.ok rfl (S.e 3 rfl) (S.e 0 rfl) MT.self) rfl fun a w G S=>?_
  refine wn hK ?_;clear hK K
  replace S:=S.d6.d5.d4.d3.d2.d1
  refine S.cond 0 rfl (fun hc3=>?_) (fun hc3=>?_)
  ·
   have hp4:=of_decide_eq_true hc3
   refine wp_seq_k fun K hK=>?_
   refine wp_reg fun K hK=>?_
   refine S.m rfl (S.g 5 rfl) rfl fun a w G S=>?_
   refine S.m rfl (S.g 3 rfl) rfl fun a w G S=>?_
   refine S.s (τ:=MT.ex (nv .u64 (dig l (k - 1)))) (OpR.call2 rfl c_130 (rat_ok S.ok (S.g 1 rfl) (iv_at (S.g 0 rfl) (by omega)))) rfl fun a w G S=>?_
   refine S.m rfl (S.g 7 rfl) rfl fun a w G S=>?_
   refine S.m rfl (S.g 6 rfl) rfl fun a w G S=>?_
   refine S.s (τ:=MT.ex (nv .u64 (dig q (k - 1)))) (OpR.call2 rfl c_130 (rat_ok S.ok (S.g 1 rfl) (iv_at (S.g 0 rfl) (by omega)))) rfl fun a w G S=>?_
   refine S.s (OpR.nlss S.ok rfl (S.e 3 rfl) (S.e 0 rfl) MT.self) rfl fun a w G S=>?_
   refine wn hK ?_;clear hK K
   replace S:=S.d6.d5.d4.d3.d2.d1
   refine S.cond 0 rfl (fun hc5=>?_) (fun hc5=>?_)
   ·
    have hp6:=of_decide_eq_true hc5
    refine wp_reg fun K hK=>?_
    replace S:=S.d4
    refine S.s (τ:=IT (-1)) (OpR.asn S.ok rfl (rfl : _ = Value.int .i64 (-1))) rfl fun a w G S=>?_
    refine wn hK ?_;clear hK K
    exact wp_ret (then_ret (block_ret (then_ret (then_ret (block_ret (then_ret (S.retTmp rfl ((S.e 0 rfl).trans (iv_eq (cmp_of_lt (ltL_of_dig hwl (by omega) he ‹_›)))))))))))
   ·
    have hp7:=of_decide_eq_false hc5
    refine wp_skip ?_
    refine hK _ _ ?_;clear hK K
    refine wp_reg fun K hK=>?_
    replace S:=S.d4
    refine S.s (τ:=NT 1) (OpR.asn S.ok rfl (rfl : _ = nv .i64 1)) rfl fun a w G S=>?_
    refine wn hK ?_;clear hK K
    exact wp_ret (block_ret (then_ret (then_ret (block_ret (then_ret (S.retTmp rfl ((S.e 0 rfl).trans (iv_eq (cmp_of_gt (ltL_of_dig hwq (by omega) he.symm (by omega)))))))))))
  ·
   have hp8:=of_decide_eq_false hc3
   refine wp_skip ?_
   refine hK _ _ ?_;clear hK K
   refine wp_region_lit ?_
   refine S.m rfl (S.g 2 rfl) rfl fun a w G S=>?_
   refine S.s (τ:=IT ((((k : Nat) : Int) - ((1 : Nat) : Int)) - 1)) (OpR.isub S.ok rfl (S.e 0 rfl) (rfl : _ = nv .i64 1) (iw_i64 (by omega) (by omega))) rfl fun a w G S=>?_
   replace S:=S.d4
   refine S.q rfl (S.g 0 rfl) rfl fun a w G S=>?_
   refine wpList_nil ?_
   replace S:=S.d2.d1
   replace S:=S.also (t:=5) (τ:=IT ((((k - 1) : Nat) : Int) - ((1 : Nat) : Int))) ((S.e 0 rfl).trans (iv_eq (by first | rfl | omega | (simp only [Nat.zero_add,Nat.add_zero];done) | (simp;done) | (push_cast;omega))))
   exact ⟨(k - 1),(by omega),(k - 1),_,rfl,(by omega),(dropL_step (by omega) he ‹_›),(S.keep [0,4,5,6]).keepB [] (by decide)⟩
 ·
  have hp9:=of_decide_eq_false hc1
  refine wp_exit (then_exit (then_exit (exit_same ?_)))
  clear hK K
  refine hK _ _ ?_;clear hK K
  refine wp_reg fun K hK=>?_
  replace S:=S.d2
  refine S.s (τ:=NT 0) (OpR.asn S.ok rfl (rfl : _ = nv .i64 0)) rfl fun a w G S=>?_
  refine wn hK ?_;clear hK K
  exact wp_ret (S.retTmp rfl ((S.e 0 rfl).trans (iv_eq (cmp_of_eq (eqL_of_drop (by omega) he)))))
end Go.Proofs.YtpbkcbnghhodiaaGreat
namespace Go.Proofs.YtpbkcbnghhodiaaGreat
set_option maxHeartbeats 1000000
set_option maxRecDepth 100000
open Go.RowKit (Below)
theorem rtakeO_ok {nn nu : Nat} {us vs : List Nat} {v1 v2 : Value} {ws : World} {Gs : Gh} {W0 : World} {G0 : Gh} {bu : Nat} {Br : List BX} (S0 : St W0 G0 0 [] (⟨bu,141,some (nu),MT.ex (Value.agg (ucells us).toArray)⟩ :: Br) ⟨#[],[]⟩ ws Gs) (h1 : (MT.ex (Value.slice (some ⟨bu,0,none⟩) (nn) (nu))).t v1 Gs) (h2 : (SL vs).t v2 Gs) (husl : us.length = nu) (husw : wfl us) (hnn : nn ≤ nu) (hnu : nn ≤ LIM) : Calls Tryz.prog 125 #[v1,v2] ws (RetM W0 G0 Gs (⟨bu,141,some (nu),MT.ex (Value.agg (ucells us).toArray)⟩ :: Br) 0 bu 141 (nu) (fun v l=>wfl l ∧ ∃ c,c ≤ 1 ∧ val (l.take nn) + val (vs.take nn) = val (us.take nn) + 4294967296 ^ nn * c)):=by
 have hwf:=SL.wf h2
 simp only [LIM] at hnu
 refine St.enterM (N:=31) (L:=[(1,SL vs),(0,MT.ex (Value.slice (some ⟨bu,0,none⟩) (nn) (nu)))]) (args:=[v1,v2]) S0 Tryz.func125 rfl rfl rfl (enter2 h1 h2) fun a S=>?_
 replace S:=S.also (t:=9999) (τ:=GLE Gs) (Gle.refl Gs)
 refine wp_reg fun K hK=>?_
 refine S.s (τ:=MT.ex (nv .u64 (0))) (OpR.asn S.ok rfl (rfl : _ = nv .u64 0)) rfl fun a w G S=>?_
 refine wn hK ?_;clear hK K
 refine wp_reg fun K hK=>?_
 refine S.m rfl (S.g 3 rfl) rfl fun a w G S=>?_
 refine S.s (OpR.lenA S.ok rfl Tryz.underlying22 (S.e 0 rfl) MT.self) rfl fun a w G S=>?_
 refine S.s (τ:=NT 0) (OpR.mv S.ok rfl (rfl : _ = nv .i64 0)) rfl fun a w G S=>?_
 refine wn hK ?_;clear hK K
 replace S:=S.d2
 refine wp_block ?_
 refine wp_loopJ (fun μ a w=>∃ (k : Nat) (c : Nat) (l : List Nat) (G : Gh),μ = nn - k ∧ (k ≤ nn) ∧ (c ≤ 1) ∧ (l.length = nu) ∧ (wfl l) ∧ (l.drop k = us.drop k) ∧ (val (l.take k) + val (vs.take k) = val (us.take k) + 4294967296 ^ k * c) ∧  St W0 G0 31 [(9,NT k),(8,NT nn),(4,MT.ex (nv .u64 (c))),(9999,GLE Gs),(1,SL vs),(0,MT.ex (Value.slice (some ⟨bu,0,none⟩) (nn) (nu)))] (⟨bu,141,some (nu),MT.ex (Value.agg (ucells (l)).toArray)⟩ :: Br) a w G) (nn - 0) ⟨0,0,us,_,rfl,(by omega),(by omega),husl,husw,rfl,(by simp [val]),S.keep [0,1,2,3,4,5]⟩ ?_
 clear S
 intro μ a w ⟨k,c,l,G,hm,hk,hc,hl,hw,hB,hv,S⟩
 have hdv:=dig_lt hwf k
 have hdl:=dig_lt (hw.take nn) k
 have hdq:=dig_lt hw k
 refine wp_reg fun K hK=>?_
 refine S.s (OpR.nlss S.ok rfl (S.e 0 rfl) (S.e 1 rfl) MT.self) rfl fun a w G S=>?_
 refine wn hK ?_;clear hK K
 refine wp_seq_k fun K hK=>?_
 refine S.cond 0 rfl (fun hc1=>?_) (fun hc1=>?_)
 ·
  have hp2:=of_decide_eq_true hc1
  refine wp_skip ?_
  refine hK _ _ ?_;clear hK K
  refine wp_seq_k fun K hK=>?_
  refine wp_block ?_
  refine wp_reg fun K hK=>?_
  refine S.m rfl (S.g 1 rfl) rfl fun a w G S=>?_
  refine S.q rfl (S.g 0 rfl) rfl fun a w G S=>?_
  refine wn hK ?_;clear hK K
  replace S:=S.d1
  refine wp_reg fun K hK=>?_
  refine S.m rfl (S.g 7 rfl) rfl fun a w G S=>?_
  refine S.m rfl (S.g 1 rfl) rfl fun a w G S=>?_
  refine S.s (τ:=MT.ex (nv .u64 (dig (l.take (nn)) k))) (OpR.lendP (n:=nn) (c:=nu) (q:=l) S.ok rfl c_130 (S.box 0 rfl) (by omega) (by omega) (by simp only [LIM];omega) (by assumption) fun G1 hle hok1 hsl=>(rat_ok hok1 (of_val (S.e 1 rfl) hsl) ((NT k).mono hle (S.g 0 rfl)))) rfl fun a w G S=>?_
  refine S.s (OpR.nadd S.ok rfl (rfl : _ = nv .u64 4294967296) (S.e 0 rfl) (wr_u64 (by omega)) MT.self) rfl fun a w G S=>?_
  refine S.m rfl (S.g 10 rfl) rfl fun a w G S=>?_
  refine S.m rfl (S.g 5 rfl) rfl fun a w G S=>?_
  refine S.s (τ:=MT.ex (nv .u64 (dig vs k))) (OpR.call2 rfl c_130 (rat_ok S.ok (S.g 1 rfl) (S.g 0 rfl))) rfl fun a w G S=>?_
  refine S.s (OpR.nsub S.ok rfl (S.e 3 rfl) (S.e 0 rfl) (by omega) (wr_u64 (by omega)) MT.self) rfl fun a w G S=>?_
  refine S.m rfl (S.g 12 rfl) rfl fun a w G S=>?_
  refine S.s (OpR.nsub S.ok rfl (S.e 1 rfl) (S.e 0 rfl) (by omega) (wr_u64 (by omega)) MT.self) rfl fun a w G S=>?_
  refine S.q rfl (S.g 0 rfl) rfl fun a w G S=>?_
  refine wn hK ?_;clear hK K
  replace S:=S.d10.d9.d8.d7.d6.d5.d4.d3.d2.d1
  refine wp_region_lit ?_
  refine S.m rfl (S.g 8 rfl) rfl fun a w G S=>?_
  refine S.m rfl (S.g 2 rfl) rfl fun a w G S=>?_
  refine S.m rfl (S.g 2 rfl) rfl fun a w G S=>?_
  refine S.s (OpR.nconv32 S.ok rfl (S.e 0 rfl) it_147 it_141 MT.self) rfl fun a w G S=>?_
  refine S.m rfl (S.g 4 rfl) rfl fun a w G S=>?_
  refine S.s (OpR.nshr S.ok rfl (S.e 0 rfl) (rfl : _ = nv .u64 32) (by decide) MT.self) rfl fun a w G S=>?_
  refine S.s (OpR.nsub S.ok rfl (rfl : _ = nv .u64 1) (S.e 0 rfl) (by omega) (wr_u64 (by omega)) MT.self) rfl fun a w G S=>?_
  refine S.s (τ:=MT.ex (Value.pointer (some ⟨bu,k,none⟩))) (OpR.ixA (i:=k) S.ok rfl Tryz.underlying22 tS_141 (S.e 6 rfl) (S.e 5 rfl) rfl (by first | omega | (simp;omega)) (ptr_eq (by simp only [Option.getD_none] <;> omega))) rfl fun a w G S=>?_
  refine S.setElem 0 (z:=(((4294967296 + (dig (l.take (nn)) k)) - (dig vs k)) - c) % 4294967296) rfl rfl rfl rfl (S.e 0 rfl) tS_141 (S.e 4 rfl) rfl (by first | omega | (simp;omega)) fun w S=>?_
  replace S:=S.n0
  replace S:=S.d13
  refine S.q rfl (S.g 1 rfl) rfl fun a w G S=>?_
  refine wpList_nil ?_
  replace S:=S.d9.d8.d7.d6.d5.d4.d3.d2.d1
  refine hK _ _ ?_;clear hK K
  refine wp_region_lit ?_
  refine S.s (OpR.nadd S.ok rfl (S.e 3 rfl) (rfl : _ = nv .i64 1) (wr_i64 (by omega)) MT.self) rfl fun a w G S=>?_
  replace S:=S.d4
  refine S.m rfl (S.g 0 rfl) rfl fun a w G S=>?_
  refine wpList_nil ?_
  replace S:=S.d1
  replace S:=S.also (t:=4) (τ:=MT.ex (nv .u64 ((1 - ((((4294967296 + (dig (l.take (nn)) k)) - (dig vs k)) - c) / 2 ^ 32))))) ((S.e 1 rfl).trans (nv_eq (by first | rfl | omega | (simp only [Nat.zero_add,Nat.add_zero];done) | (simp;done) | (push_cast;omega))))
  replace S:=S.castBox (τ':=MT.ex (Value.agg (ucells ((l.set (k) ((((4294967296 + (dig (l.take (nn)) k)) - (dig vs k)) - c) % 4294967296)))).toArray)) 0 rfl fun _ h _=>Eq.trans h (congrArg (fun l=>Value.agg (ucells l).toArray) (by simp))
  replace S:=S.n0
  exact ⟨nn - (k + 1),(by omega),k + 1,1 - ((((4294967296 + (dig (l.take (nn)) k)) - (dig vs k)) - c) / 2 ^ 32),l.set (k) ((((4294967296 + (dig (l.take (nn)) k)) - (dig vs k)) - c) % 4294967296),_,rfl,(by omega),(by omega),(by simpa using hl),(hw.set (Nat.mod_lt _ (by decide))),(by rw [drop_set_far (by omega)];exact drop_eq_succ hB),(takeO_step (by omega) ‹_› hdq hdv hc hB hv),S.keep [1,5,0,6,7,8]⟩
 ·
  have hp3:=of_decide_eq_false hc1
  refine wp_exit (then_exit (then_exit (exit_same ?_)))
  clear hK K
  exact ret_of_normal (S.retM0 rfl ⟨hw,c,hc,takeO_end ‹_› hk hv⟩ hl (S.g 4 rfl))
end Go.Proofs.YtpbkcbnghhodiaaGreat
namespace Go.Proofs.YtpbkcbnghhodiaaGreat
set_option maxHeartbeats 1000000
set_option maxRecDepth 100000
open Go.RowKit (Below)
private theorem c_124 : callable Tryz.prog 124 = true:=by kernel_rfl
private theorem c_125 : callable Tryz.prog 125 = true:=by kernel_rfl
theorem rgcd_ok {na nb x y : Nat} {v1 v2 : Value} {W0 : World} {G0 : Gh} (hok : Gok W0 G0) (h1 : (SN na x).t v1 G0) (h2 : (SN nb y).t v2 G0) (hna : na ≤ BIG) (hnb : nb ≤ BIG) : Calls Tryz.prog 103 #[v1,v2] W0 (Ret W0 G0 (SN (max na nb) (Nat.gcd x y))):=by
 have hx:=SN.lt h1
 have hy:=SN.lt h2
 have hxM : x < 2 ^ max na nb:=Nat.lt_of_lt_of_le hx (Nat.pow_le_pow_right (by decide) (by omega))
 have hyM : y < 2 ^ max na nb:=Nat.lt_of_lt_of_le hy (Nat.pow_le_pow_right (by decide) (by omega))
 have hMB : max na nb ≤ BIG:=by omega
 generalize max na nb = M at *
 have hMI:=hMB
 simp only [BIG] at hMI
 clear hna hnb
 refine St.enter (N:=72) (L:=[(1,SN nb y),(0,SN na x)]) (args:=[v1,v2]) Tryz.func103 rfl rfl rfl hok (enter2 h1 h2) fun a S=>?_
 refine wp_reg fun K hK=>?_
 refine S.s (τ:=MT.ex (Value.slice none 0 0)) (OpR.asn S.ok rfl rfl) rfl fun a w G S=>?_
 refine wn hK ?_;clear hK K
 refine wp_reg fun K hK=>?_
 refine S.m rfl (S.g 2 rfl) rfl fun a w G S=>?_
 refine S.stepO rfl rfl rfl c_123 (rtrimO_ok S.ok (SN.toSL (S.g 0 rfl))) rfl rfl fun b7 n7 c7 q7 a w G hqq7 hR S=>?_
 rw [val_words] at hR
 have hX : ROW n7 c7 q7 x M:=ROW.mk hqq7 hR.2.1 hR.1 hR.2.2 hMB hxM
 refine S.m rfl (S.g 3 rfl) rfl fun a w G S=>?_
 refine S.stepO rfl rfl rfl c_123 (rtrimO_ok S.ok (SN.toSL (S.g 0 rfl))) rfl rfl fun b9 n9 c9 q9 a w G hqq9 hR S=>?_
 rw [val_words] at hR
 have hY : ROW n9 c9 q9 y M:=ROW.mk hqq9 hR.2.1 hR.1 hR.2.2 hMB hyM
 replace S:=S.d6
 refine S.q rfl (S.g 2 rfl) rfl fun a w G S=>?_
 replace S:=S.d6
 refine S.q rfl (S.g 1 rfl) rfl fun a w G S=>?_
 refine wn hK ?_;clear hK K
 replace S:=S.d5.d4.d3.d2
 refine wp_seq_k fun K hK=>?_
 refine wp_reg fun K hK=>?_
 refine S.m rfl (S.g 1 rfl) rfl fun a w G S=>?_
 refine S.s (OpR.lenA S.ok rfl Tryz.underlying22 (S.e 0 rfl) MT.self) rfl fun a w G S=>?_
 refine S.s (OpR.neql S.ok rfl (S.e 0 rfl) (rfl : _ = nv .i64 0) MT.self) rfl fun a w G S=>?_
 refine wn hK ?_;clear hK K
 replace S:=S.d2.d1
 refine S.cond 0 rfl (fun hc1=>?_) (fun hc1=>?_)
 ·
  have hp2:=of_decide_eq_true hc1
  have hx0:=hX.zero hp2
  refine wp_reg fun K hK=>?_
  obtain ⟨vz3,Gz3,hz3,hs3,hg3,hle3,S⟩:=S.freeze 0 rfl
  have hsl3:=SL_prefix hz3 hg3 (by rw [hY.len];exact hY.le) hY.le hY.lim hY.wf (rfl : _ = Value.slice (some ⟨b9,0,none⟩) (n9) (c9))
  replace S:=S.also (t:=1) (τ:=SN M y) ((S.e 1 rfl).symm ▸ (SL.toSN hsl3 hY.eq hyM))
  replace S : St W0 G0 72 [(1,SN M y),(12,BT (decide (n7 = 0))),(0,MT.ex (Value.slice (some ⟨b7,0,none⟩) (n7) (c7))),(4,MT.ex (Value.slice none 0 0))] [⟨b7,141,some (c7),MT.ex (Value.agg (ucells (q7)).toArray)⟩] a _ _:=S.keep [0,1,3,4]
  refine S.m rfl (S.g 0 rfl) rfl fun a w G S=>?_
  replace S:=S.d4
  refine S.q rfl (S.g 0 rfl) rfl fun a w G S=>?_
  refine wn hK ?_;clear hK K
  replace S:=S.d1
  exact wp_ret (then_ret (S.retTmp rfl (SN.eq (SN.up (S.g 0 rfl) (by omega)) (by rw [hx0,Nat.gcd_zero_left]))))
 ·
  have hp4:=of_decide_eq_false hc1
  have hx0:=hX.nz hp4
  refine wp_skip ?_
  refine hK _ _ ?_;clear hK K
  refine wp_seq_k fun K hK=>?_
  refine wp_reg fun K hK=>?_
  refine S.m rfl (S.g 1 rfl) rfl fun a w G S=>?_
  refine S.s (OpR.lenA S.ok rfl Tryz.underlying22 (S.e 0 rfl) MT.self) rfl fun a w G S=>?_
  refine S.s (OpR.neql S.ok rfl (S.e 0 rfl) (rfl : _ = nv .i64 0) MT.self) rfl fun a w G S=>?_
  refine wn hK ?_;clear hK K
  replace S:=S.d2.d1
  refine S.cond 0 rfl (fun hc5=>?_) (fun hc5=>?_)
  ·
   have hp6:=of_decide_eq_true hc5
   have hy0:=hY.zero hp6
   refine wp_reg fun K hK=>?_
   obtain ⟨vz7,Gz7,hz7,hs7,hg7,hle7,S⟩:=S.freeze 1 rfl
   have hsl7:=SL_prefix hz7 hg7 (by rw [hX.len];exact hX.le) hX.le hX.lim hX.wf (rfl : _ = Value.slice (some ⟨b7,0,none⟩) (n7) (c7))
   replace S:=S.also (t:=0) (τ:=SN M x) ((S.e 3 rfl).symm ▸ (SL.toSN hsl7 hX.eq hxM))
   replace S : St W0 G0 72 [(0,SN M x),(16,BT (decide (n9 = 0))),(12,BT (decide (n7 = 0))),(1,MT.ex (Value.slice (some ⟨b9,0,none⟩) (n9) (c9))),(4,MT.ex (Value.slice none 0 0))] [⟨b9,141,some (c9),MT.ex (Value.agg (ucells (q9)).toArray)⟩] a _ _:=S.keep [0,1,2,3,5]
   refine S.m rfl (S.g 0 rfl) rfl fun a w G S=>?_
   replace S:=S.d5
   refine S.q rfl (S.g 0 rfl) rfl fun a w G S=>?_
   refine wn hK ?_;clear hK K
   replace S:=S.d1
   exact wp_ret (then_ret (S.retTmp rfl (SN.eq (SN.up (S.g 0 rfl) (by omega)) (by rw [hy0,Nat.gcd_zero_right]))))
  ·
   have hp8:=of_decide_eq_false hc5
   have hy0:=hY.nz hp8
   refine wp_skip ?_
   refine hK _ _ ?_;clear hK K
   refine wp_reg fun K hK=>?_
   refine S.s (τ:=NT 0) (OpR.asn S.ok rfl (rfl : _ = nv .i64 0)) rfl fun a w G S=>?_
   refine wn hK ?_;clear hK K
   refine wp_seq_k fun K hK=>?_
   refine wp_block ?_
   refine wp_loopJ (fun μ a w=>∃ (bxA : Nat) (nA : Nat) (cA : Nat) (qA : List Nat) (zA : Nat) (bxB : Nat) (nB : Nat) (cB : Nat) (qB : List Nat) (zB : Nat) (k : Nat) (G : Gh),μ = zA ∧ (ROW nA cA qA zA M) ∧ (ROW nB cB qB zB M) ∧ (zA ≠ 0) ∧ (zB ≠ 0) ∧ (zA * 2 ^ k = x) ∧ (zB * 2 ^ k = y) ∧  St W0 G0 72 [(5,NT k),(16,BT (decide (n9 = 0))),(12,BT (decide (n7 = 0))),(1,MT.ex (Value.slice (some ⟨bxB,0,none⟩) (nB) (cB))),(0,MT.ex (Value.slice (some ⟨bxA,0,none⟩) (nA) (cA))),(4,MT.ex (Value.slice none 0 0))] [⟨bxB,141,some (cB),MT.ex (Value.agg (ucells (qB)).toArray)⟩,⟨bxA,141,some (cA),MT.ex (Value.agg (ucells (qA)).toArray)⟩] a w G) (x) ⟨b7,n7,c7,q7,x,b9,n9,c9,q9,y,0,_,rfl,hX,hY,hx0,hy0,(by simp),(by simp),(S.keep [0,1,2,3,4,5]).keepB [0,1] (by decide)⟩ ?_
   clear S
   intro μ a w ⟨bxA,nA,cA,qA,zA,bxB,nB,cB,qB,zB,k,G,hm,hA,hB,hA0,hB0,hax,hby,S⟩
   refine wp_seq_k fun K hK=>?_
   refine wp_reg fun K hK=>?_
   have hpA:=hA.pos hA0
   have hpB:=hB.pos hB0
   have hdA:=hA.odd hpA
   have hdB:=hB.odd hpB
   have hkM:=pow_lt_of hA0 hax hxM
   have hdqA:=dig_lt hA.wf 0
   have hdqB:=dig_lt hB.wf 0
   have hlA:=hA.len
   have hlB:=hB.len
   have hcA:=hA.le
   have hcB:=hB.le
   refine S.m rfl (S.g 4 rfl) rfl fun a w G S=>?_
   refine S.s (τ:=PB bxA) (OpR.ixA (i:=0) S.ok rfl Tryz.underlying22 tS_141 (S.e 0 rfl) (rfl : _ = nv .i64 0) rfl (by first | omega | (simp;omega)) (ptr_eq (by simp only [Option.getD_none] <;> omega))) rfl fun a w G S=>?_
   refine S.s (OpR.ldElem S.ok rfl (S.e 0 rfl) (S.box 1 rfl) tS_141 (dig_get (by first | omega | (simp;omega)))) rfl fun a w G S=>?_
   refine S.s (OpR.nand1 S.ok rfl (S.e 0 rfl) (rfl : _ = nv .u32 1) (by omega) MT.self) rfl fun a w G S=>?_
   refine S.s (OpR.neql S.ok rfl (S.e 0 rfl) (rfl : _ = nv .u32 0) MT.self) rfl fun a w G S=>?_
   refine S.m rfl (S.g 0 rfl) rfl fun a w G S=>?_
   rcases Bool.eq_false_or_eq_true (decide (((dig (qA) (0)) % 2) = 0)) with hc9 | hc9
   ·
    have hp10:=of_decide_eq_true hc9
    replace S:=S.boolIs 0 rfl hc9
    refine S.stepG 0 (OpR.mv S.ok rfl (S.g 10 rfl)) rfl rfl rfl rfl rfl rfl fun a w G S=>?_
    refine S.stepG (τ:=PB bxB) 1 (OpR.ixA (i:=0) S.ok rfl Tryz.underlying22 tS_141 (S.e 0 rfl) (rfl : _ = nv .i64 0) rfl (by first | omega | (simp;omega)) (ptr_eq (by simp only [Option.getD_none] <;> omega))) rfl rfl rfl rfl rfl rfl fun a w G S=>?_
    refine S.stepG 2 (OpR.ldElem S.ok rfl (S.e 0 rfl) (S.box 0 rfl) tS_141 (dig_get (by first | omega | (simp;omega)))) rfl rfl rfl rfl rfl rfl fun a w G S=>?_
    refine S.stepG 3 (OpR.nand1 S.ok rfl (S.e 0 rfl) (rfl : _ = nv .u32 1) (by omega) MT.self) rfl rfl rfl rfl rfl rfl fun a w G S=>?_
    refine S.stepG 4 (OpR.neql S.ok rfl (S.e 0 rfl) (rfl : _ = nv .u32 0) MT.self) rfl rfl rfl rfl rfl rfl fun a w G S=>?_
    refine S.s (τ:=BT (decide (((dig (qB) (0)) % 2) = 0))) (OpR.pick S.ok rfl (S.e 5 rfl) (S.g 0 rfl)) rfl fun a w G S=>?_
    refine wn hK ?_;clear hK K
    replace S:=S.d12.d11.d10.d9.d8.d7.d6.d5.d4.d3.d2.d1
    refine S.cond 0 rfl (fun hc11=>?_) (fun hc11=>?_)
    ·
     have hp12:=of_decide_eq_true hc11
     refine wp_skip ?_
     refine hK _ _ ?_;clear hK K
     refine wp_block ?_
     refine wp_reg fun K hK=>?_
     refine S.m rfl (S.g 5 rfl) rfl fun a w G S=>?_
     replace S : St W0 G0 72 [(30,MT.ex (Value.slice (some ⟨bxA,0,none⟩) (nA) (cA))),(29,BT (decide (((dig (qB) (0)) % 2) = 0))),(5,NT k),(16,BT (decide (n9 = 0))),(12,BT (decide (n7 = 0))),(1,MT.ex (Value.slice (some ⟨bxB,0,none⟩) (nB) (cB))),(0,MT.ex (Value.slice (some ⟨bxA,0,none⟩) (nA) (cA))),(4,MT.ex (Value.slice none 0 0))] [⟨bxA,141,some (cA),MT.ex (Value.agg (ucells (qA)).toArray)⟩,⟨bxB,141,some (cB),MT.ex (Value.agg (ucells (qB)).toArray)⟩] a _ _:=S.keepB [1,0] (by decide)
     refine S.stepM1 0 rfl rfl rfl c_124 (rhalve_ok S.world (S.g 0 rfl) hA.len hA.wf hA.le hA.lim) rfl rfl fun vR lR a w G hR hlR S=>?_
     obtain ⟨hRw,j31,hRj,rfl,hRe⟩:=hR
     have hA2:=hA.half hlR hRw hRj hRe hMB
     generalize lR = q31 at *
     refine S.m rfl (S.g 6 rfl) rfl fun a w G S=>?_
     replace S : St W0 G0 72 [(32,MT.ex (Value.slice (some ⟨bxB,0,none⟩) (nB) (cB))),(31,MT.ex (Value.slice (some ⟨bxA,0,none⟩) (j31) (cA))),(30,MT.ex (Value.slice (some ⟨bxA,0,none⟩) (nA) (cA))),(29,BT (decide (((dig (qB) (0)) % 2) = 0))),(5,NT k),(16,BT (decide (n9 = 0))),(12,BT (decide (n7 = 0))),(1,MT.ex (Value.slice (some ⟨bxB,0,none⟩) (nB) (cB))),(0,MT.ex (Value.slice (some ⟨bxA,0,none⟩) (nA) (cA))),(4,MT.ex (Value.slice none 0 0))] [⟨bxB,141,some (cB),MT.ex (Value.agg (ucells (qB)).toArray)⟩,⟨bxA,141,some (cA),MT.ex (Value.agg (ucells (q31)).toArray)⟩] a _ _:=S.keepB [1,0] (by decide)
     refine S.stepM1 0 rfl rfl rfl c_124 (rhalve_ok S.world (S.g 0 rfl) hB.len hB.wf hB.le hB.lim) rfl rfl fun vR lR a w G hR hlR S=>?_
     obtain ⟨hRw,j33,hRj,rfl,hRe⟩:=hR
     have hB2:=hB.half hlR hRw hRj hRe hMB
     generalize lR = q33 at *
     have hgb:=gcd_both (by omega) (by omega) hax hby
     replace S:=S.d9
     refine S.q rfl (S.g 2 rfl) rfl fun a w G S=>?_
     replace S:=S.d9
     refine S.q rfl (S.g 1 rfl) rfl fun a w G S=>?_
     refine wn hK ?_;clear hK K
     replace S:=S.d5.d4.d3.d2
     refine wp_region_lit ?_
     refine S.m rfl (S.g 3 rfl) rfl fun a w G S=>?_
     refine S.s (OpR.nadd S.ok rfl (S.e 0 rfl) (rfl : _ = nv .i64 1) (wr_i64 (by omega)) MT.self) rfl fun a w G S=>?_
     replace S:=S.d5
     refine S.q rfl (S.g 0 rfl) rfl fun a w G S=>?_
     refine wpList_nil ?_
     replace S:=S.d2.d1
     exact ⟨(zA / 2),(by omega),bxA,j31,cA,q31,(zA / 2),bxB,j33,cB,q33,(zB / 2),k + 1,_,rfl,hA2,hB2,(by omega),(by omega),hgb.1,hgb.2,(S.keep [0,4,5,1,2,6]).keepB [0,1] (by decide)⟩
    ·
     have hp13:=of_decide_eq_false hc11
     refine wp_exit (then_exit (then_exit (exit_same ?_)))
     clear hK K
     refine hK _ _ ?_;clear hK K
     refine wp_seq_k fun K hK=>?_
     refine wp_block ?_
     have hgo : Nat.gcd zA zB % 2 = 1:=gcd_odd (by omega)
     refine wp_loopJ (fun μ a w=>∃ (bxP : Nat) (nP : Nat) (cP : Nat) (qP : List Nat) (zP : Nat) (bxR : Nat) (nR : Nat) (cR : Nat) (qR : List Nat) (zR : Nat) (G : Gh),μ = zP + zR ∧ (ROW nP cP qP zP M) ∧ (ROW nR cR qR zR M) ∧ (zR ≠ 0) ∧ (Nat.gcd zP zR = Nat.gcd zA zB) ∧  St W0 G0 72 [(29,BT (decide (((dig (qB) (0)) % 2) = 0))),(5,NT k),(16,BT (decide (n9 = 0))),(12,BT (decide (n7 = 0))),(1,MT.ex (Value.slice (some ⟨bxR,0,none⟩) (nR) (cR))),(0,MT.ex (Value.slice (some ⟨bxP,0,none⟩) (nP) (cP))),(4,MT.ex (Value.slice none 0 0))] [⟨bxR,141,some (cR),MT.ex (Value.agg (ucells (qR)).toArray)⟩,⟨bxP,141,some (cP),MT.ex (Value.agg (ucells (qP)).toArray)⟩] a w G) (zA + zB) ⟨bxA,nA,cA,qA,zA,bxB,nB,cB,qB,zB,_,rfl,hA,hB,hB0,rfl,(S.keep [0,1,2,3,4,5,6]).keepB [0,1] (by decide)⟩ ?_
     clear S
     intro μ a w ⟨bxP,nP,cP,qP,zP,bxR,nR,cR,qR,zR,G,hm,hP_,hR_,hR0,hg,S⟩
     refine wp_seq_k fun K hK=>?_
     refine wp_reg fun K hK=>?_
     refine S.m rfl (S.g 5 rfl) rfl fun a w G S=>?_
     refine S.s (OpR.lenA S.ok rfl Tryz.underlying22 (S.e 0 rfl) MT.self) rfl fun a w G S=>?_
     refine S.s (OpR.ngtr S.ok rfl (S.e 0 rfl) (rfl : _ = nv .i64 0) MT.self) rfl fun a w G S=>?_
     refine wn hK ?_;clear hK K
     replace S:=S.d2.d1
     refine S.cond 0 rfl (fun hc14=>?_) (fun hc14=>?_)
     ·
      have hp15:=of_decide_eq_true hc14
      have hP0:=hP_.nz (by omega)
      refine wp_skip ?_
      refine hK _ _ ?_;clear hK K
      refine wp_block ?_
      refine wp_seq_k fun K hK=>?_
      refine wp_block ?_
      refine wp_loopJ (fun μ a w=>∃ (nE : Nat) (qE : List Nat) (zE : Nat) (G : Gh),μ = zE ∧ (ROW nE cP qE zE M) ∧ (zE ≠ 0) ∧ (Nat.gcd zE zR = Nat.gcd zA zB) ∧ (zE ≤ zP) ∧  St W0 G0 72 [(38,BT (decide (0 < nP))),(29,BT (decide (((dig (qB) (0)) % 2) = 0))),(5,NT k),(16,BT (decide (n9 = 0))),(12,BT (decide (n7 = 0))),(1,MT.ex (Value.slice (some ⟨bxR,0,none⟩) (nR) (cR))),(0,MT.ex (Value.slice (some ⟨bxP,0,none⟩) (nE) (cP))),(4,MT.ex (Value.slice none 0 0))] [⟨bxR,141,some (cR),MT.ex (Value.agg (ucells (qR)).toArray)⟩,⟨bxP,141,some (cP),MT.ex (Value.agg (ucells (qE)).toArray)⟩] a w G) (zP) ⟨nP,qP,zP,_,rfl,hP_,hP0,hg,(by omega),(S.keep [0,1,2,3,4,5,6,7]).keepB [0,1] (by decide)⟩ ?_
      clear S
      intro μ a w ⟨nE,qE,zE,G,hm,hE,hE0,hgE,hEP,S⟩
      refine wp_seq_k fun K hK=>?_
      refine wp_reg fun K hK=>?_
      have hpE:=hE.pos hE0
      have hdE:=hE.odd hpE
      have hdqE:=dig_lt hE.wf 0
      have hlE:=hE.len
      have hcE:=hE.le
      refine S.m rfl (S.g 6 rfl) rfl fun a w G S=>?_
      refine S.s (τ:=PB bxP) (OpR.ixA (i:=0) S.ok rfl Tryz.underlying22 tS_141 (S.e 0 rfl) (rfl : _ = nv .i64 0) rfl (by first | omega | (simp;omega)) (ptr_eq (by simp only [Option.getD_none] <;> omega))) rfl fun a w G S=>?_
      refine S.s (OpR.ldElem S.ok rfl (S.e 0 rfl) (S.box 1 rfl) tS_141 (dig_get (by first | omega | (simp;omega)))) rfl fun a w G S=>?_
      refine S.s (OpR.nand1 S.ok rfl (S.e 0 rfl) (rfl : _ = nv .u32 1) (by omega) MT.self) rfl fun a w G S=>?_
      refine S.s (OpR.neql S.ok rfl (S.e 0 rfl) (rfl : _ = nv .u32 0) MT.self) rfl fun a w G S=>?_
      refine wn hK ?_;clear hK K
      replace S:=S.d4.d3.d2.d1
      refine S.cond 0 rfl (fun hc16=>?_) (fun hc16=>?_)
      ·
       have hp17:=of_decide_eq_true hc16
       refine wp_skip ?_
       refine hK _ _ ?_;clear hK K
       refine wp_block ?_
       refine wp_region_lit ?_
       refine S.m rfl (S.g 7 rfl) rfl fun a w G S=>?_
       replace S : St W0 G0 72 [(44,MT.ex (Value.slice (some ⟨bxP,0,none⟩) (nE) (cP))),(43,BT (decide (((dig (qE) (0)) % 2) = 0))),(38,BT (decide (0 < nP))),(29,BT (decide (((dig (qB) (0)) % 2) = 0))),(5,NT k),(16,BT (decide (n9 = 0))),(12,BT (decide (n7 = 0))),(1,MT.ex (Value.slice (some ⟨bxR,0,none⟩) (nR) (cR))),(0,MT.ex (Value.slice (some ⟨bxP,0,none⟩) (nE) (cP))),(4,MT.ex (Value.slice none 0 0))] [⟨bxP,141,some (cP),MT.ex (Value.agg (ucells (qE)).toArray)⟩,⟨bxR,141,some (cR),MT.ex (Value.agg (ucells (qR)).toArray)⟩] a _ _:=S.keepB [1,0] (by decide)
       refine S.stepM1 0 rfl rfl rfl c_124 (rhalve_ok S.world (S.g 0 rfl) hE.len hE.wf hE.le hE.lim) rfl rfl fun vR lR a w G hR hlR S=>?_
       obtain ⟨hRw,j45,hRj,rfl,hRe⟩:=hR
       have hE2:=hE.half hlR hRw hRj hRe hMB
       generalize lR = q45 at *
       replace S:=S.d9
       refine S.q rfl (S.g 0 rfl) rfl fun a w G S=>?_
       refine wpList_nil ?_
       replace S:=S.d2.d1
       exact ⟨(zE / 2),(by omega),j45,q45,(zE / 2),_,rfl,hE2,(by omega),(gcd_half (by omega) hgE hgo),(by omega),(S.keep [2,3,4,5,6,7,0,8]).keepB [1,0] (by decide)⟩
      ·
       have hp18:=of_decide_eq_false hc16
       refine wp_exit (then_exit (then_exit (exit_same ?_)))
       clear hK K
       refine hK _ _ ?_;clear hK K
       refine wp_seq_k fun K hK=>?_
       refine wp_block ?_
       refine wp_loopJ (fun μ a w=>∃ (nF : Nat) (qF : List Nat) (zF : Nat) (G : Gh),μ = zF ∧ (ROW nF cR qF zF M) ∧ (zF ≠ 0) ∧ (Nat.gcd zE zF = Nat.gcd zA zB) ∧ (zF ≤ zR) ∧  St W0 G0 72 [(43,BT (decide (((dig (qE) (0)) % 2) = 0))),(38,BT (decide (0 < nP))),(29,BT (decide (((dig (qB) (0)) % 2) = 0))),(5,NT k),(16,BT (decide (n9 = 0))),(12,BT (decide (n7 = 0))),(1,MT.ex (Value.slice (some ⟨bxR,0,none⟩) (nF) (cR))),(0,MT.ex (Value.slice (some ⟨bxP,0,none⟩) (nE) (cP))),(4,MT.ex (Value.slice none 0 0))] [⟨bxR,141,some (cR),MT.ex (Value.agg (ucells (qF)).toArray)⟩,⟨bxP,141,some (cP),MT.ex (Value.agg (ucells (qE)).toArray)⟩] a w G) (zR) ⟨nR,qR,zR,_,rfl,hR_,hR0,hgE,(by omega),(S.keep [0,1,2,3,4,5,6,7,8]).keepB [0,1] (by decide)⟩ ?_
       clear S
       intro μ a w ⟨nF,qF,zF,G,hm,hF,hF0,hgF,hFR,S⟩
       refine wp_seq_k fun K hK=>?_
       refine wp_reg fun K hK=>?_
       have hpF:=hF.pos hF0
       have hdF:=hF.odd hpF
       have hdqF:=dig_lt hF.wf 0
       have hlF:=hF.len
       have hcF:=hF.le
       refine S.m rfl (S.g 6 rfl) rfl fun a w G S=>?_
       refine S.s (τ:=PB bxR) (OpR.ixA (i:=0) S.ok rfl Tryz.underlying22 tS_141 (S.e 0 rfl) (rfl : _ = nv .i64 0) rfl (by first | omega | (simp;omega)) (ptr_eq (by simp only [Option.getD_none] <;> omega))) rfl fun a w G S=>?_
       refine S.s (OpR.ldElem S.ok rfl (S.e 0 rfl) (S.box 0 rfl) tS_141 (dig_get (by first | omega | (simp;omega)))) rfl fun a w G S=>?_
       refine S.s (OpR.nand1 S.ok rfl (S.e 0 rfl) (rfl : _ = nv .u32 1) (by omega) MT.self) rfl fun a w G S=>?_
       refine S.s (OpR.neql S.ok rfl (S.e 0 rfl) (rfl : _ = nv .u32 0) MT.self) rfl fun a w G S=>?_
       refine wn hK ?_;clear hK K
       replace S:=S.d4.d3.d2.d1
       refine S.cond 0 rfl (fun hc19=>?_) (fun hc19=>?_)
       ·
        have hp20:=of_decide_eq_true hc19
        refine wp_skip ?_
        refine hK _ _ ?_;clear hK K
        refine wp_block ?_
        refine wp_region_lit ?_
        refine S.m rfl (S.g 7 rfl) rfl fun a w G S=>?_
        refine S.stepM1 0 rfl rfl rfl c_124 (rhalve_ok S.world (S.g 0 rfl) hF.len hF.wf hF.le hF.lim) rfl rfl fun vR lR a w G hR hlR S=>?_
        obtain ⟨hRw,j52,hRj,rfl,hRe⟩:=hR
        have hF2:=hF.half hlR hRw hRj hRe hMB
        generalize lR = q52 at *
        replace S:=S.d9
        refine S.q rfl (S.g 0 rfl) rfl fun a w G S=>?_
        refine wpList_nil ?_
        replace S:=S.d2.d1
        exact ⟨(zF / 2),(by omega),j52,q52,(zF / 2),_,rfl,hF2,(by omega),(gcd_half' (by omega) hgF hgo),(by omega),(S.keep [2,3,4,5,6,7,0,8,9]).keepB [0,1] (by decide)⟩
       ·
        have hp21:=of_decide_eq_false hc19
        refine wp_exit (then_exit (then_exit (exit_same ?_)))
        clear hK K
        refine hK _ _ ?_;clear hK K
        refine wp_seq_k fun K hK=>?_
        refine wp_reg fun K hK=>?_
        have hE1:=hE.len
        have hE2:=hE.le
        have hE3:=hE.lim
        have hE4:=hE.wf
        have hF1:=hF.len
        have hF2:=hF.le
        have hF3:=hF.lim
        have hF4:=hF.wf
        simp only [LIM] at hE3 hF3
        refine S.m rfl (S.g 8 rfl) rfl fun a w G S=>?_
        refine S.m rfl (S.g 8 rfl) rfl fun a w G S=>?_
        refine S.s (τ:=IT (cmpN (val (qE.take (nE))) (val (qF.take (nF))))) (OpR.lendPP S rfl c_115 (i:=1) (j:=0) rfl rfl (by decide) (S.e 1 rfl) (S.e 0 rfl) (by omega) (by omega) (by simp only [LIM];omega) (by assumption) (by omega) (by omega) (by simp only [LIM];omega) (by assumption) fun G1 hok1 hsl1 hsl2=>(rcompareL_ok hok1 hsl1 hsl2 )) rfl fun a w G S=>?_
        refine S.s (OpR.ilss S.ok rfl (S.e 0 rfl) (rfl : _ = nv .i64 0) MT.self) rfl fun a w G S=>?_
        refine wn hK ?_;clear hK K
        replace S:=S.d3.d2.d1
        refine S.cond 0 rfl (fun hc22=>?_) (fun hc22=>?_)
        ·
         have hp23:=of_decide_eq_true hc22
         rw [hE.val,hF.val] at hp23
         have hlt : zE < zF:=cmpN_neg.1 hp23
         refine wp_region_lit ?_
         refine S.m rfl (S.g 8 rfl) rfl fun a w G S=>?_
         refine S.m rfl (S.g 10 rfl) rfl fun a w G S=>?_
         replace S:=S.d11
         refine S.q rfl (S.g 1 rfl) rfl fun a w G S=>?_
         replace S:=S.d11
         refine S.q rfl (S.g 1 rfl) rfl fun a w G S=>?_
         refine wpList_nil ?_
         replace S:=S.d3.d2
         refine hK _ _ ?_;clear hK K
         refine wp_reg fun K hK=>?_
         refine S.m rfl (S.g 1 rfl) rfl fun a w G S=>?_
         refine S.m rfl (S.g 1 rfl) rfl fun a w G S=>?_
         refine S.stepML rfl rfl rfl c_125 (S.e 0 rfl) (by rw [hE.len];exact hE.le) hE.le hE.lim hE.wf (fun G1 hleG SW hsl=>rtakeO_ok SW ((MT.ex (Value.slice (some ⟨bxR,0,none⟩) (nF) (cR))).mono hleG (S.g 1 rfl)) hsl hF.len hF.wf hF.le hF.lim) rfl rfl fun vR lR a w G hR hlR S=>?_
         obtain ⟨hTw,cT,hcT,hTv⟩:=hR
         have hT:=take_ge (by rw [List.length_take];omega) hTw hF.val (take_take_words hE.eq (by rw [hE.cnt,hF.cnt];exact words_len_mono (Nat.le_of_lt_succ (by omega)))) (by omega) hcT hTv
         refine wn hK ?_;clear hK K
         replace S:=S.d2.d1.d0
         refine wp_region_lit ?_
         refine S.m rfl (S.g 1 rfl) rfl fun a w G S=>?_
         refine S.stepM1 0 rfl rfl rfl c_126 (rcutO_ok S.world (S.g 0 rfl) hlR hTw hF.le hF.lim) rfl rfl fun vC lC a w G hR hlC S=>?_
         obtain ⟨rfl,jC,hjC,rfl,hjv⟩:=hR
         rw [hT] at hjv
         have hN : ROW jC cR lC (zF - zE) M:=ROW.mk hlC (by have:=hF.le;omega) hTw hjv hMB (by have:=hF.lt;omega)
         replace S:=S.d3
         refine S.q rfl (S.g 0 rfl) rfl fun a w G S=>?_
         refine wpList_nil ?_
         replace S:=S.d2.d1
         exact ⟨(zF - zE) + zE,(by omega),bxR,jC,cR,lC,(zF - zE),bxP,nE,cP,qE,zE,_,rfl,hN,(by first | exact hF | exact hE),(by omega),(by first | exact gcd_minus hgF (by omega) | exact gcd_minus (by rw [Nat.gcd_comm];exact hgF) (by omega)),(S.keep [6,7,8,9,1,0,10]).keepB [1,0] (by decide)⟩
        ·
         have hp24:=of_decide_eq_false hc22
         rw [hE.val,hF.val] at hp24
         have hge : zF ≤ zE:=Nat.not_lt.1 fun h=>hp24 (cmpN_neg.2 h)
         refine wp_skip ?_
         refine hK _ _ ?_;clear hK K
         refine wp_reg fun K hK=>?_
         refine S.m rfl (S.g 9 rfl) rfl fun a w G S=>?_
         refine S.m rfl (S.g 9 rfl) rfl fun a w G S=>?_
         replace S : St W0 G0 72 [(60,MT.ex (Value.slice (some ⟨bxR,0,none⟩) (nF) (cR))),(59,MT.ex (Value.slice (some ⟨bxP,0,none⟩) (nE) (cP))),(56,BT (decide ((cmpN (val (qE.take (nE))) (val (qF.take (nF)))) < 0))),(50,BT (decide (((dig (qF) (0)) % 2) = 0))),(43,BT (decide (((dig (qE) (0)) % 2) = 0))),(38,BT (decide (0 < nP))),(29,BT (decide (((dig (qB) (0)) % 2) = 0))),(5,NT k),(16,BT (decide (n9 = 0))),(12,BT (decide (n7 = 0))),(1,MT.ex (Value.slice (some ⟨bxR,0,none⟩) (nF) (cR))),(0,MT.ex (Value.slice (some ⟨bxP,0,none⟩) (nE) (cP))),(4,MT.ex (Value.slice none 0 0))] [⟨bxP,141,some (cP),MT.ex (Value.agg (ucells (qE)).toArray)⟩,⟨bxR,141,some (cR),MT.ex (Value.agg (ucells (qF)).toArray)⟩] a _ _:=S.keepB [1,0] (by decide)
         refine S.stepML rfl rfl rfl c_125 (S.e 0 rfl) (by rw [hF.len];exact hF.le) hF.le hF.lim hF.wf (fun G1 hleG SW hsl=>rtakeO_ok SW ((MT.ex (Value.slice (some ⟨bxP,0,none⟩) (nE) (cP))).mono hleG (S.g 1 rfl)) hsl hE.len hE.wf hE.le hE.lim) rfl rfl fun vR lR a w G hR hlR S=>?_
         obtain ⟨hTw,cT,hcT,hTv⟩:=hR
         have hT:=take_ge (by rw [List.length_take];omega) hTw hE.val (take_take_words hF.eq (by rw [hF.cnt,hE.cnt];exact words_len_mono (Nat.le_of_lt_succ (by omega)))) (by omega) hcT hTv
         refine wn hK ?_;clear hK K
         replace S:=S.d2.d1.d0
         refine wp_region_lit ?_
         refine S.m rfl (S.g 9 rfl) rfl fun a w G S=>?_
         refine S.stepM1 0 rfl rfl rfl c_126 (rcutO_ok S.world (S.g 0 rfl) hlR hTw hE.le hE.lim) rfl rfl fun vC lC a w G hR hlC S=>?_
         obtain ⟨rfl,jC,hjC,rfl,hjv⟩:=hR
         rw [hT] at hjv
         have hN : ROW jC cP lC (zE - zF) M:=ROW.mk hlC (by have:=hE.le;omega) hTw hjv hMB (by have:=hE.lt;omega)
         replace S:=S.d11
         refine S.q rfl (S.g 0 rfl) rfl fun a w G S=>?_
         refine wpList_nil ?_
         replace S:=S.d2.d1
         exact ⟨(zE - zF) + zF,(by omega),bxP,jC,cP,lC,(zE - zF),bxR,nF,cR,qF,zF,_,rfl,hN,(by first | exact hF | exact hE),(by omega),(by first | exact gcd_minus hgF (by omega) | exact gcd_minus (by rw [Nat.gcd_comm];exact hgF) (by omega)),(S.keep [5,6,7,8,9,0,10]).keepB [1,0] (by decide)⟩
     ·
      have hp25:=of_decide_eq_false hc14
      have hP0:=hP_.zero (by omega)
      refine wp_exit (then_exit (then_exit (exit_same ?_)))
      clear hK K
      refine hK _ _ ?_;clear hK K
      refine wp_seq_k fun K hK=>?_
      refine wp_reg fun K hK=>?_
      obtain ⟨vz26,Gz26,hz26,hs26,hg26,hle26,S⟩:=S.freeze 0 rfl
      have hsl26:=SL_prefix hz26 hg26 (by rw [hR_.len];exact hR_.le) hR_.le hR_.lim hR_.wf (rfl : _ = Value.slice (some ⟨bxR,0,none⟩) (nR) (cR))
      replace S:=S.also (t:=1) (τ:=SN M zR) ((S.e 5 rfl).symm ▸ (SL.toSN hsl26 hR_.eq hR_.lt))
      replace S : St W0 G0 72 [(1,SN M zR),(38,BT (decide (0 < nP))),(29,BT (decide (((dig (qB) (0)) % 2) = 0))),(5,NT k),(16,BT (decide (n9 = 0))),(12,BT (decide (n7 = 0))),(0,MT.ex (Value.slice (some ⟨bxP,0,none⟩) (nP) (cP))),(4,MT.ex (Value.slice none 0 0))] [⟨bxP,141,some (cP),MT.ex (Value.agg (ucells (qP)).toArray)⟩] a _ _:=S.keep [0,1,2,3,4,5,7,8]
      have hkM:=pow_lt_of hA0 hax hxM
      have hsc : zR * 2 ^ k = Nat.gcd x y:=by rw [← gcd_scale hax hby,← hg,hP0,Nat.gcd_zero_left]
      have hgl : Nat.gcd x y < 2 ^ M:=gcd_lt_pow hx0 hxM
      refine S.m rfl (S.g 3 rfl) rfl fun a w G S=>?_
      refine S.s (τ:=NT 0) (OpR.mv S.ok rfl (rfl : _ = nv .i64 0)) rfl fun a w G S=>?_
      refine wn hK ?_;clear hK K
      refine wp_block ?_
      refine wp_loopJ (fun μ a w=>∃ (i : Nat) (zz : Nat) (G : Gh),μ = k - i ∧ (i ≤ k) ∧ (zz = zR * 2 ^ i) ∧  St W0 G0 72 [(65,NT i),(64,NT k),(1,SN M zz),(38,BT (decide (0 < nP))),(29,BT (decide (((dig (qB) (0)) % 2) = 0))),(5,NT k),(16,BT (decide (n9 = 0))),(12,BT (decide (n7 = 0))),(0,MT.ex (Value.slice (some ⟨bxP,0,none⟩) (nP) (cP))),(4,MT.ex (Value.slice none 0 0))] [] a w G) (k - 0) ⟨0,zR,_,rfl,(by omega),(by simp),(S.keep [0,1,2,3,4,5,6,7,8,9]).keepB [] (by decide)⟩ ?_
      clear S
      intro μ a w ⟨i,zz,G,hm,hi,hzz,S⟩
      refine wp_reg fun K hK=>?_
      refine S.s (OpR.nlss S.ok rfl (S.e 0 rfl) (S.e 1 rfl) MT.self) rfl fun a w G S=>?_
      refine wn hK ?_;clear hK K
      refine wp_seq_k fun K hK=>?_
      refine S.cond 0 rfl (fun hc27=>?_) (fun hc27=>?_)
      ·
       have hp28:=of_decide_eq_true hc27
       refine wp_skip ?_
       refine hK _ _ ?_;clear hK K
       refine wp_seq_k fun K hK=>?_
       refine wp_block ?_
       refine wp_region_lit ?_
       have htw:=twos_lt hsc ‹i < k› hgl
       rw [← hzz] at htw
       refine S.m rfl (S.g 3 rfl) rfl fun a w G S=>?_
       refine S.m rfl (S.g 4 rfl) rfl fun a w G S=>?_
       refine S.s (τ:=SN M (zz + zz)) (OpR.conv' (OpR.call2 rfl c_114 (rplus_ok S.ok (S.g 1 rfl) (S.g 0 rfl) (by omega) (by omega))) fun _ _ h=>(SN.cast h rfl htw.2)) rfl fun a w G S=>?_
       replace S:=S.d6
       refine S.q rfl (S.g 0 rfl) rfl fun a w G S=>?_
       refine wpList_nil ?_
       replace S:=S.d3.d2.d1
       refine hK _ _ ?_;clear hK K
       refine wp_region_lit ?_
       refine S.s (OpR.nadd S.ok rfl (S.e 2 rfl) (rfl : _ = nv .i64 1) (wr_i64 (by omega)) MT.self) rfl fun a w G S=>?_
       replace S:=S.d3
       refine S.m rfl (S.g 0 rfl) rfl fun a w G S=>?_
       refine wpList_nil ?_
       replace S:=S.d1
       exact ⟨k - (i + 1),(by omega),i + 1,zz + zz,_,rfl,(by omega),htw.1,(S.keep [0,3,1,4,5,6,7,8,9,10]).keepB [] (by decide)⟩
      ·
       have hp29:=of_decide_eq_false hc27
       refine wp_exit (then_exit (then_exit (exit_same ?_)))
       clear hK K
       refine hK _ _ ?_;clear hK K
       refine wp_reg fun K hK=>?_
       refine S.m rfl (S.g 3 rfl) rfl fun a w G S=>?_
       replace S:=S.d11
       refine S.q rfl (S.g 0 rfl) rfl fun a w G S=>?_
       refine wn hK ?_;clear hK K
       replace S:=S.d1
       exact wp_ret (S.retTmp rfl (SN.eq (SN.up (S.g 0 rfl) (by omega)) (by rw [hzz,show i = k from by omega];exact hsc)))
   ·
    have hp30:=of_decide_eq_false hc9
    replace S:=S.boolIs 0 rfl hc9
    refine S.skipG 0 rfl rfl rfl rfl rfl rfl fun a w G S=>?_
    refine S.skipG 1 rfl rfl rfl rfl rfl rfl fun a w G S=>?_
    refine S.skipG 2 rfl rfl rfl rfl rfl rfl fun a w G S=>?_
    refine S.skipG 3 rfl rfl rfl rfl rfl rfl fun a w G S=>?_
    refine S.skipG 4 rfl rfl rfl rfl rfl rfl fun a w G S=>?_
    refine S.s (τ:=BT false) (OpR.pick S.ok rfl (S.e 5 rfl) rfl) rfl fun a w G S=>?_
    refine wn hK ?_;clear hK K
    replace S:=S.d12.d11.d10.d9.d8.d7.d6.d5.d4.d3.d2.d1
    refine wp_cond_false (S.e 0 rfl) ?_
    refine wp_exit (then_exit (then_exit (exit_same ?_)))
    clear hK K
    refine hK _ _ ?_;clear hK K
    refine wp_seq_k fun K hK=>?_
    refine wp_block ?_
    have hgo : Nat.gcd zA zB % 2 = 1:=gcd_odd (by omega)
    refine wp_loopJ (fun μ a w=>∃ (bxP : Nat) (nP : Nat) (cP : Nat) (qP : List Nat) (zP : Nat) (bxR : Nat) (nR : Nat) (cR : Nat) (qR : List Nat) (zR : Nat) (G : Gh),μ = zP + zR ∧ (ROW nP cP qP zP M) ∧ (ROW nR cR qR zR M) ∧ (zR ≠ 0) ∧ (Nat.gcd zP zR = Nat.gcd zA zB) ∧  St W0 G0 72 [(29,BT false),(5,NT k),(16,BT (decide (n9 = 0))),(12,BT (decide (n7 = 0))),(1,MT.ex (Value.slice (some ⟨bxR,0,none⟩) (nR) (cR))),(0,MT.ex (Value.slice (some ⟨bxP,0,none⟩) (nP) (cP))),(4,MT.ex (Value.slice none 0 0))] [⟨bxR,141,some (cR),MT.ex (Value.agg (ucells (qR)).toArray)⟩,⟨bxP,141,some (cP),MT.ex (Value.agg (ucells (qP)).toArray)⟩] a w G) (zA + zB) ⟨bxA,nA,cA,qA,zA,bxB,nB,cB,qB,zB,_,rfl,hA,hB,hB0,rfl,(S.keep [0,1,2,3,4,5,6]).keepB [0,1] (by decide)⟩ ?_
    clear S
    intro μ a w ⟨bxP,nP,cP,qP,zP,bxR,nR,cR,qR,zR,G,hm,hP_,hR_,hR0,hg,S⟩
    refine wp_seq_k fun K hK=>?_
    refine wp_reg fun K hK=>?_
    refine S.m rfl (S.g 5 rfl) rfl fun a w G S=>?_
    refine S.s (OpR.lenA S.ok rfl Tryz.underlying22 (S.e 0 rfl) MT.self) rfl fun a w G S=>?_
    refine S.s (OpR.ngtr S.ok rfl (S.e 0 rfl) (rfl : _ = nv .i64 0) MT.self) rfl fun a w G S=>?_
    refine wn hK ?_;clear hK K
    replace S:=S.d2.d1
    refine S.cond 0 rfl (fun hc31=>?_) (fun hc31=>?_)
    ·
     have hp32:=of_decide_eq_true hc31
     have hP0:=hP_.nz (by omega)
     refine wp_skip ?_
     refine hK _ _ ?_;clear hK K
     refine wp_block ?_
     refine wp_seq_k fun K hK=>?_
     refine wp_block ?_
     refine wp_loopJ (fun μ a w=>∃ (nE : Nat) (qE : List Nat) (zE : Nat) (G : Gh),μ = zE ∧ (ROW nE cP qE zE M) ∧ (zE ≠ 0) ∧ (Nat.gcd zE zR = Nat.gcd zA zB) ∧ (zE ≤ zP) ∧  St W0 G0 72 [(38,BT (decide (0 < nP))),(29,BT false),(5,NT k),(16,BT (decide (n9 = 0))),(12,BT (decide (n7 = 0))),(1,MT.ex (Value.slice (some ⟨bxR,0,none⟩) (nR) (cR))),(0,MT.ex (Value.slice (some ⟨bxP,0,none⟩) (nE) (cP))),(4,MT.ex (Value.slice none 0 0))] [⟨bxR,141,some (cR),MT.ex (Value.agg (ucells (qR)).toArray)⟩,⟨bxP,141,some (cP),MT.ex (Value.agg (ucells (qE)).toArray)⟩] a w G) (zP) ⟨nP,qP,zP,_,rfl,hP_,hP0,hg,(by omega),(S.keep [0,1,2,3,4,5,6,7]).keepB [0,1] (by decide)⟩ ?_
     clear S
     intro μ a w ⟨nE,qE,zE,G,hm,hE,hE0,hgE,hEP,S⟩
     refine wp_seq_k fun K hK=>?_
     refine wp_reg fun K hK=>?_
     have hpE:=hE.pos hE0
     have hdE:=hE.odd hpE
     have hdqE:=dig_lt hE.wf 0
     have hlE:=hE.len
     have hcE:=hE.le
     refine S.m rfl (S.g 6 rfl) rfl fun a w G S=>?_
     refine S.s (τ:=PB bxP) (OpR.ixA (i:=0) S.ok rfl Tryz.underlying22 tS_141 (S.e 0 rfl) (rfl : _ = nv .i64 0) rfl (by first | omega | (simp;omega)) (ptr_eq (by simp only [Option.getD_none] <;> omega))) rfl fun a w G S=>?_
     refine S.s (OpR.ldElem S.ok rfl (S.e 0 rfl) (S.box 1 rfl) tS_141 (dig_get (by first | omega | (simp;omega)))) rfl fun a w G S=>?_
     refine S.s (OpR.nand1 S.ok rfl (S.e 0 rfl) (rfl : _ = nv .u32 1) (by omega) MT.self) rfl fun a w G S=>?_
     refine S.s (OpR.neql S.ok rfl (S.e 0 rfl) (rfl : _ = nv .u32 0) MT.self) rfl fun a w G S=>?_
     refine wn hK ?_;clear hK K
     replace S:=S.d4.d3.d2.d1
     refine S.cond 0 rfl (fun hc33=>?_) (fun hc33=>?_)
     ·
      have hp34:=of_decide_eq_true hc33
      refine wp_skip ?_
      refine hK _ _ ?_;clear hK K
      refine wp_block ?_
      refine wp_region_lit ?_
      refine S.m rfl (S.g 7 rfl) rfl fun a w G S=>?_
      replace S : St W0 G0 72 [(44,MT.ex (Value.slice (some ⟨bxP,0,none⟩) (nE) (cP))),(43,BT (decide (((dig (qE) (0)) % 2) = 0))),(38,BT (decide (0 < nP))),(29,BT false),(5,NT k),(16,BT (decide (n9 = 0))),(12,BT (decide (n7 = 0))),(1,MT.ex (Value.slice (some ⟨bxR,0,none⟩) (nR) (cR))),(0,MT.ex (Value.slice (some ⟨bxP,0,none⟩) (nE) (cP))),(4,MT.ex (Value.slice none 0 0))] [⟨bxP,141,some (cP),MT.ex (Value.agg (ucells (qE)).toArray)⟩,⟨bxR,141,some (cR),MT.ex (Value.agg (ucells (qR)).toArray)⟩] a _ _:=S.keepB [1,0] (by decide)
      refine S.stepM1 0 rfl rfl rfl c_124 (rhalve_ok S.world (S.g 0 rfl) hE.len hE.wf hE.le hE.lim) rfl rfl fun vR lR a w G hR hlR S=>?_
      obtain ⟨hRw,j45,hRj,rfl,hRe⟩:=hR
      have hE2:=hE.half hlR hRw hRj hRe hMB
      generalize lR = q45 at *
      replace S:=S.d9
      refine S.q rfl (S.g 0 rfl) rfl fun a w G S=>?_
      refine wpList_nil ?_
      replace S:=S.d2.d1
      exact ⟨(zE / 2),(by omega),j45,q45,(zE / 2),_,rfl,hE2,(by omega),(gcd_half (by omega) hgE hgo),(by omega),(S.keep [2,3,4,5,6,7,0,8]).keepB [1,0] (by decide)⟩
     ·
      have hp35:=of_decide_eq_false hc33
      refine wp_exit (then_exit (then_exit (exit_same ?_)))
      clear hK K
      refine hK _ _ ?_;clear hK K
      refine wp_seq_k fun K hK=>?_
      refine wp_block ?_
      refine wp_loopJ (fun μ a w=>∃ (nF : Nat) (qF : List Nat) (zF : Nat) (G : Gh),μ = zF ∧ (ROW nF cR qF zF M) ∧ (zF ≠ 0) ∧ (Nat.gcd zE zF = Nat.gcd zA zB) ∧ (zF ≤ zR) ∧  St W0 G0 72 [(43,BT (decide (((dig (qE) (0)) % 2) = 0))),(38,BT (decide (0 < nP))),(29,BT false),(5,NT k),(16,BT (decide (n9 = 0))),(12,BT (decide (n7 = 0))),(1,MT.ex (Value.slice (some ⟨bxR,0,none⟩) (nF) (cR))),(0,MT.ex (Value.slice (some ⟨bxP,0,none⟩) (nE) (cP))),(4,MT.ex (Value.slice none 0 0))] [⟨bxR,141,some (cR),MT.ex (Value.agg (ucells (qF)).toArray)⟩,⟨bxP,141,some (cP),MT.ex (Value.agg (ucells (qE)).toArray)⟩] a w G) (zR) ⟨nR,qR,zR,_,rfl,hR_,hR0,hgE,(by omega),(S.keep [0,1,2,3,4,5,6,7,8]).keepB [0,1] (by decide)⟩ ?_
      clear S
      intro μ a w ⟨nF,qF,zF,G,hm,hF,hF0,hgF,hFR,S⟩
      refine wp_seq_k fun K hK=>?_
      refine wp_reg fun K hK=>?_
      have hpF:=hF.pos hF0
      have hdF:=hF.odd hpF
      have hdqF:=dig_lt hF.wf 0
      have hlF:=hF.len
      have hcF:=hF.le
      refine S.m rfl (S.g 6 rfl) rfl fun a w G S=>?_
      refine S.s (τ:=PB bxR) (OpR.ixA (i:=0) S.ok rfl Tryz.underlying22 tS_141 (S.e 0 rfl) (rfl : _ = nv .i64 0) rfl (by first | omega | (simp;omega)) (ptr_eq (by simp only [Option.getD_none] <;> omega))) rfl fun a w G S=>?_
      refine S.s (OpR.ldElem S.ok rfl (S.e 0 rfl) (S.box 0 rfl) tS_141 (dig_get (by first | omega | (simp;omega)))) rfl fun a w G S=>?_
      refine S.s (OpR.nand1 S.ok rfl (S.e 0 rfl) (rfl : _ = nv .u32 1) (by omega) MT.self) rfl fun a w G S=>?_
      refine S.s (OpR.neql S.ok rfl (S.e 0 rfl) (rfl : _ = nv .u32 0) MT.self) rfl fun a w G S=>?_
      refine wn hK ?_;clear hK K
      replace S:=S.d4.d3.d2.d1
      refine S.cond 0 rfl (fun hc36=>?_) (fun hc36=>?_)
      ·
       have hp37:=of_decide_eq_true hc36
       refine wp_skip ?_
       refine hK _ _ ?_;clear hK K
       refine wp_block ?_
       refine wp_region_lit ?_
       refine S.m rfl (S.g 7 rfl) rfl fun a w G S=>?_
       refine S.stepM1 0 rfl rfl rfl c_124 (rhalve_ok S.world (S.g 0 rfl) hF.len hF.wf hF.le hF.lim) rfl rfl fun vR lR a w G hR hlR S=>?_
       obtain ⟨hRw,j52,hRj,rfl,hRe⟩:=hR
       have hF2:=hF.half hlR hRw hRj hRe hMB
       generalize lR = q52 at *
       replace S:=S.d9
       refine S.q rfl (S.g 0 rfl) rfl fun a w G S=>?_
       refine wpList_nil ?_
       replace S:=S.d2.d1
       exact ⟨(zF / 2),(by omega),j52,q52,(zF / 2),_,rfl,hF2,(by omega),(gcd_half' (by omega) hgF hgo),(by omega),(S.keep [2,3,4,5,6,7,0,8,9]).keepB [0,1] (by decide)⟩
      ·
       have hp38:=of_decide_eq_false hc36
       refine wp_exit (then_exit (then_exit (exit_same ?_)))
       clear hK K
       refine hK _ _ ?_;clear hK K
       refine wp_seq_k fun K hK=>?_
       refine wp_reg fun K hK=>?_
       have hE1:=hE.len
       have hE2:=hE.le
       have hE3:=hE.lim
       have hE4:=hE.wf
       have hF1:=hF.len
       have hF2:=hF.le
       have hF3:=hF.lim
       have hF4:=hF.wf
       simp only [LIM] at hE3 hF3
       refine S.m rfl (S.g 8 rfl) rfl fun a w G S=>?_
       refine S.m rfl (S.g 8 rfl) rfl fun a w G S=>?_
       refine S.s (τ:=IT (cmpN (val (qE.take (nE))) (val (qF.take (nF))))) (OpR.lendPP S rfl c_115 (i:=1) (j:=0) rfl rfl (by decide) (S.e 1 rfl) (S.e 0 rfl) (by omega) (by omega) (by simp only [LIM];omega) (by assumption) (by omega) (by omega) (by simp only [LIM];omega) (by assumption) fun G1 hok1 hsl1 hsl2=>(rcompareL_ok hok1 hsl1 hsl2 )) rfl fun a w G S=>?_
       refine S.s (OpR.ilss S.ok rfl (S.e 0 rfl) (rfl : _ = nv .i64 0) MT.self) rfl fun a w G S=>?_
       refine wn hK ?_;clear hK K
       replace S:=S.d3.d2.d1
       refine S.cond 0 rfl (fun hc39=>?_) (fun hc39=>?_)
       ·
        have hp40:=of_decide_eq_true hc39
        rw [hE.val,hF.val] at hp40
        have hlt : zE < zF:=cmpN_neg.1 hp40
        refine wp_region_lit ?_
        refine S.m rfl (S.g 8 rfl) rfl fun a w G S=>?_
        refine S.m rfl (S.g 10 rfl) rfl fun a w G S=>?_
        replace S:=S.d11
        refine S.q rfl (S.g 1 rfl) rfl fun a w G S=>?_
        replace S:=S.d11
        refine S.q rfl (S.g 1 rfl) rfl fun a w G S=>?_
        refine wpList_nil ?_
        replace S:=S.d3.d2
        refine hK _ _ ?_;clear hK K
        refine wp_reg fun K hK=>?_
        refine S.m rfl (S.g 1 rfl) rfl fun a w G S=>?_
        refine S.m rfl (S.g 1 rfl) rfl fun a w G S=>?_
        refine S.stepML rfl rfl rfl c_125 (S.e 0 rfl) (by rw [hE.len];exact hE.le) hE.le hE.lim hE.wf (fun G1 hleG SW hsl=>rtakeO_ok SW ((MT.ex (Value.slice (some ⟨bxR,0,none⟩) (nF) (cR))).mono hleG (S.g 1 rfl)) hsl hF.len hF.wf hF.le hF.lim) rfl rfl fun vR lR a w G hR hlR S=>?_
        obtain ⟨hTw,cT,hcT,hTv⟩:=hR
        have hT:=take_ge (by rw [List.length_take];omega) hTw hF.val (take_take_words hE.eq (by rw [hE.cnt,hF.cnt];exact words_len_mono (Nat.le_of_lt_succ (by omega)))) (by omega) hcT hTv
        refine wn hK ?_;clear hK K
        replace S:=S.d2.d1.d0
        refine wp_region_lit ?_
        refine S.m rfl (S.g 1 rfl) rfl fun a w G S=>?_
        refine S.stepM1 0 rfl rfl rfl c_126 (rcutO_ok S.world (S.g 0 rfl) hlR hTw hF.le hF.lim) rfl rfl fun vC lC a w G hR hlC S=>?_
        obtain ⟨rfl,jC,hjC,rfl,hjv⟩:=hR
        rw [hT] at hjv
        have hN : ROW jC cR lC (zF - zE) M:=ROW.mk hlC (by have:=hF.le;omega) hTw hjv hMB (by have:=hF.lt;omega)
        replace S:=S.d3
        refine S.q rfl (S.g 0 rfl) rfl fun a w G S=>?_
        refine wpList_nil ?_
        replace S:=S.d2.d1
        exact ⟨(zF - zE) + zE,(by omega),bxR,jC,cR,lC,(zF - zE),bxP,nE,cP,qE,zE,_,rfl,hN,(by first | exact hF | exact hE),(by omega),(by first | exact gcd_minus hgF (by omega) | exact gcd_minus (by rw [Nat.gcd_comm];exact hgF) (by omega)),(S.keep [6,7,8,9,1,0,10]).keepB [1,0] (by decide)⟩
       ·
        have hp41:=of_decide_eq_false hc39
        rw [hE.val,hF.val] at hp41
        have hge : zF ≤ zE:=Nat.not_lt.1 fun h=>hp41 (cmpN_neg.2 h)
        refine wp_skip ?_
        refine hK _ _ ?_;clear hK K
        refine wp_reg fun K hK=>?_
        refine S.m rfl (S.g 9 rfl) rfl fun a w G S=>?_
        refine S.m rfl (S.g 9 rfl) rfl fun a w G S=>?_
        replace S : St W0 G0 72 [(60,MT.ex (Value.slice (some ⟨bxR,0,none⟩) (nF) (cR))),(59,MT.ex (Value.slice (some ⟨bxP,0,none⟩) (nE) (cP))),(56,BT (decide ((cmpN (val (qE.take (nE))) (val (qF.take (nF)))) < 0))),(50,BT (decide (((dig (qF) (0)) % 2) = 0))),(43,BT (decide (((dig (qE) (0)) % 2) = 0))),(38,BT (decide (0 < nP))),(29,BT false),(5,NT k),(16,BT (decide (n9 = 0))),(12,BT (decide (n7 = 0))),(1,MT.ex (Value.slice (some ⟨bxR,0,none⟩) (nF) (cR))),(0,MT.ex (Value.slice (some ⟨bxP,0,none⟩) (nE) (cP))),(4,MT.ex (Value.slice none 0 0))] [⟨bxP,141,some (cP),MT.ex (Value.agg (ucells (qE)).toArray)⟩,⟨bxR,141,some (cR),MT.ex (Value.agg (ucells (qF)).toArray)⟩] a _ _:=S.keepB [1,0] (by decide)
        refine S.stepML rfl rfl rfl c_125 (S.e 0 rfl) (by rw [hF.len];exact hF.le) hF.le hF.lim hF.wf (fun G1 hleG SW hsl=>rtakeO_ok SW ((MT.ex (Value.slice (some ⟨bxP,0,none⟩) (nE) (cP))).mono hleG (S.g 1 rfl)) hsl hE.len hE.wf hE.le hE.lim) rfl rfl fun vR lR a w G hR hlR S=>?_
        obtain ⟨hTw,cT,hcT,hTv⟩:=hR
        have hT:=take_ge (by rw [List.length_take];omega) hTw hE.val (take_take_words hF.eq (by rw [hF.cnt,hE.cnt];exact words_len_mono (Nat.le_of_lt_succ (by omega)))) (by omega) hcT hTv
        refine wn hK ?_;clear hK K
        replace S:=S.d2.d1.d0
        refine wp_region_lit ?_
        refine S.m rfl (S.g 9 rfl) rfl fun a w G S=>?_
        refine S.stepM1 0 rfl rfl rfl c_126 (rcutO_ok S.world (S.g 0 rfl) hlR hTw hE.le hE.lim) rfl rfl fun vC lC a w G hR hlC S=>?_
        obtain ⟨rfl,jC,hjC,rfl,hjv⟩:=hR
        rw [hT] at hjv
        have hN : ROW jC cP lC (zE - zF) M:=ROW.mk hlC (by have:=hE.le;omega) hTw hjv hMB (by have:=hE.lt;omega)
        replace S:=S.d11
        refine S.q rfl (S.g 0 rfl) rfl fun a w G S=>?_
        refine wpList_nil ?_
        replace S:=S.d2.d1
        exact ⟨(zE - zF) + zF,(by omega),bxP,jC,cP,lC,(zE - zF),bxR,nF,cR,qF,zF,_,rfl,hN,(by first | exact hF | exact hE),(by omega),(by first | exact gcd_minus hgF (by omega) | exact gcd_minus (by rw [Nat.gcd_comm];exact hgF) (by omega)),(S.keep [5,6,7,8,9,0,10]).keepB [1,0] (by decide)⟩
    ·
     have hp42:=of_decide_eq_false hc31
     have hP0:=hP_.zero (by omega)
     refine wp_exit (then_exit (then_exit (exit_same ?_)))
     clear hK K
     refine hK _ _ ?_;clear hK K
     refine wp_seq_k fun K hK=>?_
     refine wp_reg fun K hK=>?_
     obtain ⟨vz43,Gz43,hz43,hs43,hg43,hle43,S⟩:=S.freeze 0 rfl
     have hsl43:=SL_prefix hz43 hg43 (by rw [hR_.len];exact hR_.le) hR_.le hR_.lim hR_.wf (rfl : _ = Value.slice (some ⟨bxR,0,none⟩) (nR) (cR))
     replace S:=S.also (t:=1) (τ:=SN M zR) ((S.e 5 rfl).symm ▸ (SL.toSN hsl43 hR_.eq hR_.lt))
     replace S : St W0 G0 72 [(1,SN M zR),(38,BT (decide (0 < nP))),(29,BT false),(5,NT k),(16,BT (decide (n9 = 0))),(12,BT (decide (n7 = 0))),(0,MT.ex (Value.slice (some ⟨bxP,0,none⟩) (nP) (cP))),(4,MT.ex (Value.slice none 0 0))] [⟨bxP,141,some (cP),MT.ex (Value.agg (ucells (qP)).toArray)⟩] a _ _:=S.keep [0,1,2,3,4,5,7,8]
     have hkM:=pow_lt_of hA0 hax hxM
     have hsc : zR * 2 ^ k = Nat.gcd x y:=by rw [← gcd_scale hax hby,← hg,hP0,Nat.gcd_zero_left]
     have hgl : Nat.gcd x y < 2 ^ M:=gcd_lt_pow hx0 hxM
     refine S.m rfl (S.g 3 rfl) rfl fun a w G S=>?_
     refine S.s (τ:=NT 0) (OpR.mv S.ok rfl (rfl : _ = nv .i64 0)) rfl fun a w G S=>?_
     refine wn hK ?_;clear hK K
     refine wp_block ?_
     refine wp_loopJ (fun μ a w=>∃ (i : Nat) (zz : Nat) (G : Gh),μ = k - i ∧ (i ≤ k) ∧ (zz = zR * 2 ^ i) ∧  St W0 G0 72 [(65,NT i),(64,NT k),(1,SN M zz),(38,BT (decide (0 < nP))),(29,BT false),(5,NT k),(16,BT (decide (n9 = 0))),(12,BT (decide (n7 = 0))),(0,MT.ex (Value.slice (some ⟨bxP,0,none⟩) (nP) (cP))),(4,MT.ex (Value.slice none 0 0))] [] a w G) (k - 0) ⟨0,zR,_,rfl,(by omega),(by simp),(S.keep [0,1,2,3,4,5,6,7,8,9]).keepB [] (by decide)⟩ ?_
     clear S
     intro μ a w ⟨i,zz,G,hm,hi,hzz,S⟩
     refine wp_reg fun K hK=>?_
     refine S.s (OpR.nlss S.ok rfl (S.e 0 rfl) (S.e 1 rfl) MT.self) rfl fun a w G S=>?_
     refine wn hK ?_;clear hK K
     refine wp_seq_k fun K hK=>?_
     refine S.cond 0 rfl (fun hc44=>?_) (fun hc44=>?_)
     ·
      have hp45:=of_decide_eq_true hc44
      refine wp_skip ?_
      refine hK _ _ ?_;clear hK K
      refine wp_seq_k fun K hK=>?_
      refine wp_block ?_
      refine wp_region_lit ?_
      have htw:=twos_lt hsc ‹i < k› hgl
      rw [← hzz] at htw
      refine S.m rfl (S.g 3 rfl) rfl fun a w G S=>?_
      refine S.m rfl (S.g 4 rfl) rfl fun a w G S=>?_
      refine S.s (τ:=SN M (zz + zz)) (OpR.conv' (OpR.call2 rfl c_114 (rplus_ok S.ok (S.g 1 rfl) (S.g 0 rfl) (by omega) (by omega))) fun _ _ h=>(SN.cast h rfl htw.2)) rfl fun a w G S=>?_
      replace S:=S.d6
      refine S.q rfl (S.g 0 rfl) rfl fun a w G S=>?_
      refine wpList_nil ?_
      replace S:=S.d3.d2.d1
      refine hK _ _ ?_;clear hK K
      refine wp_region_lit ?_
      refine S.s (OpR.nadd S.ok rfl (S.e 2 rfl) (rfl : _ = nv .i64 1) (wr_i64 (by omega)) MT.self) rfl fun a w G S=>?_
      replace S:=S.d3
      refine S.m rfl (S.g 0 rfl) rfl fun a w G S=>?_
      refine wpList_nil ?_
      replace S:=S.d1
      exact ⟨k - (i + 1),(by omega),i + 1,zz + zz,_,rfl,(by omega),htw.1,(S.keep [0,3,1,4,5,6,7,8,9,10]).keepB [] (by decide)⟩
     ·
      have hp46:=of_decide_eq_false hc44
      refine wp_exit (then_exit (then_exit (exit_same ?_)))
      clear hK K
      refine hK _ _ ?_;clear hK K
      refine wp_reg fun K hK=>?_
      refine S.m rfl (S.g 3 rfl) rfl fun a w G S=>?_
      replace S:=S.d11
      refine S.q rfl (S.g 0 rfl) rfl fun a w G S=>?_
      refine wn hK ?_;clear hK K
      replace S:=S.d1
      exact wp_ret (S.retTmp rfl (SN.eq (SN.up (S.g 0 rfl) (by omega)) (by rw [hzz,show i = k from by omega];exact hsc)))
end Go.Proofs.YtpbkcbnghhodiaaGreat
namespace Go.Proofs.YtpbkcbnghhodiaaGreat
open Go.RowKit (Below)
theorem blen_len (x : Nat) : blen x ≤ 32 * (words x).length:=by
  rcases Nat.eq_zero_or_pos x with h | h
  · subst h;simp [words_zero];rfl
  · have h1:=blen_words (x:=x) (by omega)
    have h2:=blen_le (n:=dig (words x) ((words x).length - 1)) (k:=32) (dig_lt (wfl_words x) _)
    have h3:=len_pos_iff.2 (show x ≠ 0 by omega)
    omega
theorem lt_two_blen (x : Nat) : x / 2 ^ blen x = 0:=Nat.div_eq_of_lt (lt_blen x)
theorem dig_val (l : List Nat) (i : Nat) (h : wfl l) : dig l i = val l / 4294967296 ^ i % 4294967296:=by
  induction l generalizing i with
  | nil=>simp [dig,val]
  | cons x r ih =>
    have hx:=h x (by simp)
    have hr : wfl r:=fun y hy=>h y (by simp [hy])
    cases i with
    | zero=>simp only [dig,val,Nat.pow_zero,Nat.div_one];simp;omega
    | succ i =>
      have e : dig (x :: r) (i + 1) = dig r i:=by simp [dig]
      rw [e,ih i hr]
      show _ = (x + 4294967296 * val r) / 4294967296 ^ (i + 1) % _
      rw [Nat.pow_succ,Nat.mul_comm (4294967296 ^ i),← Nat.div_div_eq_div_mul,Nat.add_mul_div_left _ _ (by decide),Nat.div_eq_of_lt hx,Nat.zero_add]
theorem pow32 (i : Nat) : 4294967296 ^ i = 2 ^ (32 * i):=by rw [Nat.pow_mul]
theorem bit_of (x i : Nat) : dig (words x) (i / 32) / 2 ^ (i % 32) % 2 = x / 2 ^ i % 2:=by
  rw [dig_val _ _ (wfl_words x),val_words,pow32]
  have e : i = 32 * (i / 32) + i % 32:=by omega
  generalize hq : i / 32 = q at *
  generalize hs : i % 32 = s at *
  have hs32 : s < 32:=by omega
  rw [e,Nat.pow_add,← Nat.div_div_eq_div_mul]
  generalize x / 2 ^ (32 * q) = z
  rw [show 4294967296 = 2 ^ s * 2 ^ (32 - s) from by rw [← Nat.pow_add,show s + (32 - s) = 32 from by omega],Nat.mod_mul_right_div_self,show 32 - s = (31 - s) + 1 from by omega,Nat.pow_succ,Nat.mul_comm (2 ^ (31 - s)) 2,Nat.mod_mul_right_mod]
theorem dbl_step {l r : List Nat} {j c bit : Nat} (h1 : j < l.length) (hd : l.drop j = r.drop j) (hc : c ≤ 1) (hw : wfl l) (h : val (l.take j) + 4294967296 ^ j * c = 2 * val (r.take j) + bit) :
    val ((l.set j (dig l j * 2 % 4294967296 + c)).take (j + 1)) + 4294967296 ^ (j + 1) * (dig l j / 2 ^ 31) = 2 * val (r.take (j + 1)) + bit:=by
  have e1:=val_take_dig (l.set j (dig l j * 2 % 4294967296 + c)) j
  have e2:=val_take_dig r j
  have e3 : (l.set j (dig l j * 2 % 4294967296 + c)).take j = l.take j:=by rw [List.take_set_of_le (Nat.le_refl _)]
  have e4 : dig (l.set j (dig l j * 2 % 4294967296 + c)) j = dig l j * 2 % 4294967296 + c:=by rw [dig_set h1,if_pos rfl]
  have e5 : dig r j = dig l j:=by
    have k1 : (l.drop j)[0]? = (r.drop j)[0]?:=by rw [hd]
    rw [List.getElem?_drop,List.getElem?_drop,Nat.add_zero] at k1
    unfold dig;rw [List.getD_eq_getElem?_getD,List.getD_eq_getElem?_getD,k1]
  rw [e1,e3,e4,e2,e5,Nat.pow_succ]
  have hl:=dig_lt hw j
  generalize dig l j = d at *
  generalize 4294967296 ^ j = B at *
  have e6 : d * 2 = d * 2 % 4294967296 + 4294967296 * (d / 2 ^ 31):=by omega
  generalize d * 2 % 4294967296 = p at *
  generalize d / 2 ^ 31 = s at *
  have e7 : 2 * (B * d) = B * p + B * 4294967296 * s:=by
    have : 2 * (B * d) = B * (d * 2):=by grind
    rw [this,e6];grind
  have e8 : B * (p + c) = B * p + B * c:=Nat.mul_add ..
  omega
theorem dbl_or {d c : Nat} (hc : c ≤ 1) : (d * 2 ^ 1 % 4294967296 ||| c) = d * 2 % 4294967296 + c:=by
  have e : d * 2 ^ 1 % 4294967296 = d % 2147483648 * 2 ^ 1:=by omega
  rw [e]
  generalize d % 2147483648 = m
  exact or_shift (by omega)
theorem dbl_aux {D E v r y c bit : Nat} (hE : D ≤ E) (hy : y < D) (hr : r < y) (hb : bit ≤ 1) (h : v + E * c = 2 * r + bit) (h2 : 2 * D ≤ E) : v = 2 * r + bit:=by
  rcases Nat.eq_zero_or_pos c with h0 | h0
  · rw [h0,Nat.mul_zero] at h;omega
  · have h1 : E ≤ E * c:=Nat.le_mul_of_pos_right _ h0
    generalize E * c = T at *
    omega
theorem dbl_aux2 (D : Nat) : 2 * D ≤ D * 4294967296:=by omega
theorem dbl_fin {l r : List Nat} {j c bit y n : Nat} (hl : l.length = n + 1) (hr : r.length = n + 1) (hj : j = n + 1) (hy : y < 4294967296 ^ n) (hry : val r < y) (hb : bit ≤ 1) (h : val (l.take j) + 4294967296 ^ j * c = 2 * val (r.take j) + bit) : val l = 2 * val r + bit:=by
  rw [hj,List.take_of_length_le (Nat.le_of_eq hl),List.take_of_length_le (Nat.le_of_eq hr),Nat.pow_succ] at h
  generalize 4294967296 ^ n = D at *
  have e:=dbl_aux2 D
  generalize D * 4294967296 = E at *
  exact dbl_aux (by omega) hy hry hb h e
theorem or_bit {d s : Nat} (h : d % 2 ^ (s + 1) = 0) : (d ||| 1 * 2 ^ s) = d + 2 ^ s:=by
  have e : d = 2 ^ (s + 1) * (d / 2 ^ (s + 1)):=by have:=Nat.div_add_mod d (2 ^ (s + 1));omega
  rw [Nat.one_mul,e,← Nat.two_pow_add_eq_or_of_lt (Nat.pow_lt_pow_right (by decide) (Nat.lt_succ_self s))]
theorem q_low {q : List Nat} {i z : Nat} (hw : wfl q) (h : val q = z * 2 ^ (i + 1)) : dig q (i / 32) % 2 ^ (i % 32 + 1) = 0 ∧ dig q (i / 32) + 2 ^ (i % 32) < 4294967296:=by
  have h1 : dig q (i / 32) % 2 ^ (i % 32 + 1) = 0:=by
    rw [dig_val _ _ hw,h,pow32]
    have e : i + 1 = 32 * (i / 32) + (i % 32 + 1):=by omega
    have hs32 : i % 32 < 32:=Nat.mod_lt _ (by decide)
    rw [e,Nat.pow_add,← Nat.mul_assoc,Nat.mul_comm z,Nat.mul_assoc,Nat.mul_div_cancel_left _ (Nat.pow_pos (by decide))]
    have e2 : 4294967296 = 2 ^ (i % 32 + 1) * 2 ^ (31 - i % 32):=by rw [← Nat.pow_add,show i % 32 + 1 + (31 - i % 32) = 32 from by omega]
    conv=>lhs;lhs;rw [e2]
    rw [Nat.mod_mul_right_mod,Nat.mul_mod_left]
  refine ⟨h1,?_⟩
  have h2:=dig_lt hw (i / 32)
  generalize dig q (i / 32) = d at *
  have hs32 : i % 32 < 32:=Nat.mod_lt _ (by decide)
  generalize i % 32 = s at *
  have e2 : 4294967296 = 2 ^ (s + 1) * 2 ^ (31 - s):=by rw [← Nat.pow_add,show s + 1 + (31 - s) = 32 from by omega]
  have e3 : d = 2 ^ (s + 1) * (d / 2 ^ (s + 1)):=by have:=Nat.div_add_mod d (2 ^ (s + 1));omega
  generalize d / 2 ^ (s + 1) = m at *
  rw [e3,e2] at h2
  have h3 : m < 2 ^ (31 - s):=Nat.lt_of_mul_lt_mul_left h2
  have h4 : 2 ^ (s + 1) * (m + 1) ≤ 2 ^ (s + 1) * 2 ^ (31 - s):=Nat.mul_le_mul_left _ h3
  rw [← e2,Nat.mul_add] at h4
  have h5 : 2 ^ s < 2 ^ (s + 1):=Nat.pow_lt_pow_right (by decide) (Nat.lt_succ_self s)
  omega
theorem val_setadd {l : List Nat} {i z : Nat} (h : i < l.length) : val (l.set i (dig l i + z)) = val l + 4294967296 ^ i * z:=by
  induction l generalizing i with
  | nil=>simp at h
  | cons x r ih =>
    cases i with
    | zero=>simp [dig,val];omega
    | succ i =>
      have e : dig (x :: r) (i + 1) = dig r i:=by simp [dig]
      rw [e]
      show x + 4294967296 * val (r.set i (dig r i + z)) = x + 4294967296 * val r + _
      rw [ih (by simpa using h),Nat.pow_succ];grind
theorem q_set {q : List Nat} {i Z : Nat} (h : i / 32 < q.length) (hv : val q = Z) : val (q.set (i / 32) (dig q (i / 32) + 2 ^ (i % 32))) = Z + 2 ^ i:=by
  rw [val_setadd h,hv,pow32,← Nat.pow_add,show 32 * (i / 32) + i % 32 = i from by omega]
theorem pow_next {x k : Nat} (hk : 1 ≤ k) : x / 2 ^ (k - 1) = 2 * (x / 2 ^ k) + x / 2 ^ (k - 1) % 2:=by
  have e : x / 2 ^ k = x / 2 ^ (k - 1) / 2:=by
    rw [Nat.div_div_eq_div_mul,← Nat.pow_succ,show (k - 1).succ = k from by omega]
  rw [e];omega
theorem dv_lt {x y k : Nat} (hk : 1 ≤ k) (h : 2 * (x / 2 ^ k % y) + x / 2 ^ (k - 1) % 2 < y) : x / 2 ^ (k - 1) % y = 2 * (x / 2 ^ k % y) + x / 2 ^ (k - 1) % 2 ∧ x / 2 ^ (k - 1) / y * 2 ^ (k - 1) = x / 2 ^ k / y * 2 ^ k:=by
  have e:=pow_next (x:=x) hk
  have e2:=Nat.div_add_mod (x / 2 ^ k) y
  have e3 : 2 ^ k = 2 * 2 ^ (k - 1):=by rw [Nat.mul_comm,← Nat.pow_succ,show (k - 1).succ = k from by omega]
  generalize x / 2 ^ (k - 1) % 2 = b at *
  generalize x / 2 ^ k % y = r at *
  generalize x / 2 ^ k / y = Q at *
  generalize x / 2 ^ k = X at *
  have e4 : x / 2 ^ (k - 1) = y * (2 * Q) + (2 * r + b):=by rw [e,← e2];grind
  rw [e4]
  refine ⟨by rw [Nat.mul_add_mod,Nat.mod_eq_of_lt h],?_⟩
  rw [Nat.mul_add_div (by omega),Nat.div_eq_of_lt h,e3];grind
theorem dv_ge {x y k : Nat} (hy : 0 < y) (hk : 1 ≤ k) (h : y ≤ 2 * (x / 2 ^ k % y) + x / 2 ^ (k - 1) % 2) : x / 2 ^ (k - 1) % y = 2 * (x / 2 ^ k % y) + x / 2 ^ (k - 1) % 2 - y ∧ x / 2 ^ (k - 1) / y * 2 ^ (k - 1) = x / 2 ^ k / y * 2 ^ k + 2 ^ (k - 1):=by
  have e:=pow_next (x:=x) hk
  have e2:=Nat.div_add_mod (x / 2 ^ k) y
  have hr:=Nat.mod_lt (x / 2 ^ k) hy
  have hb:=Nat.mod_lt (x / 2 ^ (k - 1)) (show 0 < 2 by decide)
  have e3 : 2 ^ k = 2 * 2 ^ (k - 1):=by rw [Nat.mul_comm,← Nat.pow_succ,show (k - 1).succ = k from by omega]
  generalize x / 2 ^ (k - 1) % 2 = b at *
  generalize x / 2 ^ k % y = r at *
  generalize x / 2 ^ k / y = Q at *
  generalize x / 2 ^ k = X at *
  have e4 : x / 2 ^ (k - 1) = y * (2 * Q + 1) + (2 * r + b - y):=by
    have h5 : y * (2 * Q + 1) = 2 * (y * Q) + y:=by grind
    rw [e,← e2,h5];omega
  have h2 : 2 * r + b - y < y:=by omega
  rw [e4]
  refine ⟨by rw [Nat.mul_add_mod,Nat.mod_eq_of_lt h2],?_⟩
  rw [Nat.mul_add_div (by omega),Nat.div_eq_of_lt h2,e3];grind
theorem pow32_lt {s : Nat} (h : s < 32) : 1 * 2 ^ s < 4294967296:=by
  rw [Nat.one_mul];exact Nat.lt_of_lt_of_le (Nat.pow_lt_pow_right (by decide) h) (by decide)
theorem sg_false {g : Nat} : sg false g = (g : Int):=rfl
theorem val_take_all {l : List Nat} {n : Nat} (h : l.length = n) : val (l.take n) = val l:=by rw [List.take_of_length_le (by omega)]
theorem take_words_all {y n : Nat} (h : (words y).length ≤ n) : val ((words y).take n) = y:=by rw [List.take_of_length_le h,val_words]
end Go.Proofs.YtpbkcbnghhodiaaGreat
namespace Go.Proofs.YtpbkcbnghhodiaaGreat
set_option maxHeartbeats 1000000
set_option maxRecDepth 100000
open Go.RowKit (Below)
private theorem c_139 : callable Tryz.prog 139 = true:=by kernel_rfl
theorem rdivide_ok {na nb x y : Nat} {v1 v2 : Value} {W0 : World} {G0 : Gh} (hok : Gok W0 G0) (h1 : (SN na x).t v1 G0) (h2 : (SN nb y).t v2 G0) (hy : y ≠ 0) (hna : na ≤ BIG) (hnb : nb ≤ BIG) : Calls Tryz.prog 129 #[v1,v2] W0 (Ret W0 G0 (MT.tup2 (SN na (x / y)) (SN nb (x % y)))):=by
 have hla:=words_length_bits (SN.lt h1)
 have hlb:=words_length_bits (SN.lt h2)
 simp only [BIG] at hna hnb
 have hdb : x / y < 2 ^ na:=div_lt_pow (SN.lt h1)
 have hmb : x % y < 2 ^ nb:=Nat.lt_trans (Nat.mod_lt _ (Nat.pos_of_ne_zero hy)) (SN.lt h2)
 have hbl:=blen_len x
 have hyL : y < 4294967296 ^ (words y).length:=by have:=val_lt (wfl_words y);rwa [val_words] at this
 have hyv:=val_words y
 refine St.enter (N:=76) (L:=[(1,SN nb y),(0,SN na x)]) (args:=[v1,v2]) Tryz.func129 rfl rfl rfl hok (enter2 h1 h2) fun a S=>?_
 refine wp_reg fun K hK=>?_
 refine S.s (τ:=MT.ex (Value.slice none 0 0)) (OpR.asn S.ok rfl rfl) rfl fun a w G S=>?_
 refine S.s (τ:=MT.ex (Value.slice none 0 0)) (OpR.asn S.ok rfl rfl) rfl fun a w G S=>?_
 refine wn hK ?_;clear hK K
 refine wp_reg fun K hK=>?_
 refine S.m rfl (S.g 3 rfl) rfl fun a w G S=>?_
 refine S.s (OpR.lenL S.ok rfl Tryz.underlying22 (SN.toSL (S.g 0 rfl)) MT.self) rfl fun a w G S=>?_
 refine S.mkSlice (n:=(words (x)).length) rfl rfl rfl Tryz.underlying22 el_141 (S.e 0 rfl) (S.e 0 rfl) rfl rfl (by omega) (by omega) rfl rfl fun b13 a w G S=>?_
 refine S.q rfl (S.g 0 rfl) rfl fun a w G S=>?_
 refine wn hK ?_;clear hK K
 replace S:=S.d3.d2.d1
 refine wp_reg fun K hK=>?_
 refine S.m rfl (S.g 3 rfl) rfl fun a w G S=>?_
 refine S.s (OpR.lenL S.ok rfl Tryz.underlying22 (SN.toSL (S.g 0 rfl)) MT.self) rfl fun a w G S=>?_
 refine S.s (OpR.nadd S.ok rfl (S.e 0 rfl) (rfl : _ = nv .i64 1) (wr_i64 (by omega)) MT.self) rfl fun a w G S=>?_
 refine S.mkSlice (n:=((words (y)).length) + 1) rfl rfl rfl Tryz.underlying22 el_141 (S.e 0 rfl) (S.e 0 rfl) rfl rfl (by omega) (by omega) rfl rfl fun b17 a w G S=>?_
 refine S.q rfl (S.g 0 rfl) rfl fun a w G S=>?_
 refine wn hK ?_;clear hK K
 replace S:=S.d4.d3.d2.d1
 refine wp_seq_k fun K hK=>?_
 refine wp_reg fun K hK=>?_
 refine S.m rfl (S.g 5 rfl) rfl fun a w G S=>?_
 refine S.s (τ:=NT (blen x)) (OpR.call1 rfl c_139 (rbits_ok S.ok (S.g 0 rfl))) rfl fun a w G S=>?_
 refine S.s (τ:=IT (((blen x : Nat) : Int) - ((1 : Nat) : Int))) (OpR.isub S.ok rfl (S.e 0 rfl) (rfl : _ = nv .i64 1) (iw_i64 (by omega) (by omega))) rfl fun a w G S=>?_
 refine S.q rfl (S.g 0 rfl) rfl fun a w G S=>?_
 refine wn hK ?_;clear hK K
 replace S:=S.d3.d2.d1
 refine wp_block ?_
 replace S:=S.also (t:=8) (τ:=IT ((((blen x) : Nat) : Int) - ((1 : Nat) : Int))) ((S.e 0 rfl).trans (iv_eq (by first | rfl | omega | (simp only [Nat.zero_add,Nat.add_zero];done) | (simp;done) | (push_cast;omega))))
 replace S:=S.castBox (τ':=MT.ex (Value.agg (ucells ((List.replicate (((words (y)).length) + 1) 0))).toArray)) 0 rfl fun _ h _=>Eq.trans h (congrArg (fun l=>Value.agg (ucells l).toArray) (by simp))
 replace S:=S.n0
 replace S:=S.castBox (τ':=MT.ex (Value.agg (ucells ((List.replicate ((words (x)).length) 0))).toArray)) 1 rfl fun _ h _=>Eq.trans h (congrArg (fun l=>Value.agg (ucells l).toArray) (by simp))
 replace S:=S.n1
 refine wp_loopJ (fun μ a w=>∃ (k : Nat) (q : List Nat) (r : List Nat) (G : Gh),μ = k ∧ (k ≤ blen x) ∧ (q.length = (words x).length) ∧ (wfl q) ∧ (r.length = (words y).length + 1) ∧ (wfl r) ∧ (val q = x / 2 ^ k / y * 2 ^ k) ∧ (val r = x / 2 ^ k % y) ∧  St W0 G0 76 [(8,IT (((k : Nat) : Int) - ((1 : Nat) : Int))),(7,MT.ex (Value.slice (some ⟨b17,0,none⟩) (((words (y)).length) + 1) (((words (y)).length) + 1))),(6,MT.ex (Value.slice (some ⟨b13,0,none⟩) ((words (x)).length) ((words (x)).length))),(5,MT.ex (Value.slice none 0 0)),(4,MT.ex (Value.slice none 0 0)),(1,SN nb y),(0,SN na x)] [⟨b17,141,some (((words (y)).length) + 1),MT.ex (Value.agg (ucells (r)).toArray)⟩,⟨b13,141,some ((words (x)).length),MT.ex (Value.agg (ucells (q)).toArray)⟩] a w G) ((blen x)) ⟨(blen x),List.replicate ((words (x)).length) 0,List.replicate (((words (y)).length) + 1) 0,_,rfl,(Nat.le_refl _),(by simp),(wfl_replicate _),(by simp),(wfl_replicate _),(by rw [lt_two_blen];simp [val_replicate_zero]),(by rw [lt_two_blen];simp [val_replicate_zero]),(S.keep [0,2,3,4,5,6,7]).keepB [0,1] (by decide)⟩ ?_
 clear S
 intro μ a w ⟨k,q,r,G,hm,hk,hqq,hqw,hrl,hrw,hq,hr,S⟩
 refine wp_seq_k fun K hK=>?_
 refine wp_reg fun K hK=>?_
 refine S.m rfl (S.g 0 rfl) rfl fun a w G S=>?_
 refine S.s (OpR.igeq S.ok rfl (S.e 0 rfl) (rfl : _ = nv .i64 0) MT.self) rfl fun a w G S=>?_
 refine wn hK ?_;clear hK K
 replace S:=S.d1
 refine S.cond 0 rfl (fun hc1=>?_) (fun hc1=>?_)
 ·
  have hp2:=of_decide_eq_true hc1
  have hk1 : 1 ≤ k:=by omega
  refine wp_skip ?_
  refine hK _ _ ?_;clear hK K
  refine wp_seq_k fun K hK=>?_
  refine wp_block ?_
  refine wp_reg fun K hK=>?_
  have hdx:=dig_lt (wfl_words x) ((k - 1) / 32)
  have hbb : x / 2 ^ (k - 1) % 2 ≤ 1:=by omega
  have hkx : (k - 1) / 32 < (words x).length:=by omega
  have hrY : val r < y:=by rw [hr];exact Nat.mod_lt _ (Nat.pos_of_ne_zero hy)
  refine S.m rfl (S.g 7 rfl) rfl fun a w G S=>?_
  refine S.s (τ:=NT (k - 1)) (OpR.mv S.ok rfl ((S.e 2 rfl).trans (iv_eq (by omega)))) rfl fun a w G S=>?_
  refine S.s (OpR.nquo S.ok rfl (S.e 0 rfl) (rfl : _ = nv .i64 32) (by omega) (wr_i64 (by omega)) MT.self) rfl fun a w G S=>?_
  refine S.s (τ:=PE (none) (MT.ex (nv .u32 (dig (words (x)) ((k - 1) / 32))))) (OpR.ixL (i:=(k - 1) / 32) S.ok rfl Tryz.underlying22 tS_141 (SN.toSL (S.g 2 rfl)) (S.e 0 rfl) rfl (dig_get (by first | omega | (simp;omega)))) rfl fun a w G S=>?_
  refine S.s (OpR.ldE S.ok rfl tS_141 (S.g 0 rfl)) rfl fun a w G S=>?_
  refine S.s (τ:=NT (k - 1)) (OpR.mv S.ok rfl ((S.e 6 rfl).trans (iv_eq (by omega)))) rfl fun a w G S=>?_
  refine S.s (OpR.nrem S.ok rfl (S.e 0 rfl) (rfl : _ = nv .i64 32) (by omega) MT.self) rfl fun a w G S=>?_
  refine S.s (OpR.nshr S.ok rfl (S.e 2 rfl) (S.e 0 rfl) (by show _ ≤ 32;omega) MT.self) rfl fun a w G S=>?_
  refine S.s (OpR.nand1 S.ok rfl (S.e 0 rfl) (rfl : _ = nv .u32 1) (Nat.lt_of_le_of_lt (Nat.div_le_self _ _) hdx) MT.self) rfl fun a w G S=>?_
  refine S.s (τ:=MT.ex (nv .u32 (x / 2 ^ (k - 1) % 2))) (OpR.asn S.ok rfl ((S.e 0 rfl).trans (nv_eq (bit_of x (k - 1))))) rfl fun a w G S=>?_
  refine wn hK ?_;clear hK K
  replace S:=S.d9.d8.d7.d6.d5.d4.d3.d2.d1
  refine wp_seq_k fun K hK=>?_
  refine wp_reg fun K hK=>?_
  refine S.m rfl (S.g 3 rfl) rfl fun a w G S=>?_
  refine S.s (OpR.lenA S.ok rfl Tryz.underlying22 (S.e 0 rfl) MT.self) rfl fun a w G S=>?_
  refine S.s (τ:=NT 0) (OpR.mv S.ok rfl (rfl : _ = nv .i64 0)) rfl fun a w G S=>?_
  refine wn hK ?_;clear hK K
  replace S:=S.d2
  refine wp_block ?_
  replace S:=S.also (t:=9) (τ:=MT.ex (nv .u32 ((x / 2 ^ (k - 1) % 2)))) ((S.e 2 rfl).trans (nv_eq (by first | rfl | omega | (simp only [Nat.zero_add,Nat.add_zero];done) | (simp;done) | (push_cast;omega))))
  refine wp_loopJ (fun μ a w=>∃ (j : Nat) (c : Nat) (l : List Nat) (G : Gh),μ = (words y).length + 1 - j ∧ (j ≤ (words y).length + 1) ∧ (c ≤ 1) ∧ (l.length = (words y).length + 1) ∧ (wfl l) ∧ (l.drop j = r.drop j) ∧ (val (l.take j) + 4294967296 ^ j * c = 2 * val (r.take j) + x / 2 ^ (k - 1) % 2) ∧  St W0 G0 76 [(36,NT j),(35,NT (((words (y)).length) + 1)),(9,MT.ex (nv .u32 (c))),(22,BT (decide ((((k : Nat) : Int) - ((1 : Nat) : Int)) ≥ 0))),(8,IT (((k : Nat) : Int) - ((1 : Nat) : Int))),(7,MT.ex (Value.slice (some ⟨b17,0,none⟩) (((words (y)).length) + 1) (((words (y)).length) + 1))),(6,MT.ex (Value.slice (some ⟨b13,0,none⟩) ((words (x)).length) ((words (x)).length))),(5,MT.ex (Value.slice none 0 0)),(4,MT.ex (Value.slice none 0 0)),(1,SN nb y),(0,SN na x)] [⟨b17,141,some (((words (y)).length) + 1),MT.ex (Value.agg (ucells (l)).toArray)⟩,⟨b13,141,some ((words (x)).length),MT.ex (Value.agg (ucells (q)).toArray)⟩] a w G) ((words y).length + 1 - 0) ⟨0,x / 2 ^ (k - 1) % 2,r,_,rfl,(by omega),hbb,hrl,hrw,rfl,(by simp [val]),(S.keep [1,2,0,4,5,6,7,8,9,10,11]).keepB [0,1] (by decide)⟩ ?_
  clear S
  intro μ a w ⟨j,c,l,G,hm,hj,hc,hl,hw,hB,hv,S⟩
  have hdl:=dig_lt hw j
  refine wp_reg fun K hK=>?_
  refine S.s (OpR.nlss S.ok rfl (S.e 0 rfl) (S.e 1 rfl) MT.self) rfl fun a w G S=>?_
  refine wn hK ?_;clear hK K
  refine wp_seq_k fun K hK=>?_
  refine S.cond 0 rfl (fun hc3=>?_) (fun hc3=>?_)
  ·
   have hp4:=of_decide_eq_true hc3
   refine wp_skip ?_
   refine hK _ _ ?_;clear hK K
   refine wp_seq_k fun K hK=>?_
   refine wp_block ?_
   refine wp_reg fun K hK=>?_
   refine S.m rfl (S.g 1 rfl) rfl fun a w G S=>?_
   refine S.q rfl (S.g 0 rfl) rfl fun a w G S=>?_
   refine wn hK ?_;clear hK K
   replace S:=S.d1
   refine S.drawnS [⟨39,.g (MT.ex (Value.slice (some ⟨b17,0,none⟩) (((words (y)).length) + 1) (((words (y)).length) + 1))),[]⟩,⟨40,.g (NT j),[]⟩,⟨41,.g (MT.ex (Value.slice (some ⟨b17,0,none⟩) (((words (y)).length) + 1) (((words (y)).length) + 1))),[]⟩,⟨42,.g (NT j),[]⟩,⟨43,.g (MT.ex (Value.pointer (some ⟨b17,j,none⟩))),[2,3]⟩,⟨44,.g (MT.ex (nv .u32 (dig (l) (j)))),[4]⟩,⟨45,.g (MT.ex (nv .u32 ((dig (l) (j)) * 2 ^ 1 % 4294967296))),[5]⟩,⟨46,.g (MT.ex (nv .u32 (c))),[]⟩,⟨47,.g (MT.ex (nv .u32 (dig l j * 2 % 4294967296 + c))),[6,7]⟩,⟨48,.g (MT.ex (Value.slice (some ⟨b17,0,none⟩) (((words (y)).length) + 1) (((words (y)).length) + 1))),[]⟩,⟨49,.g (NT j),[]⟩,⟨50,.g (MT.ex (Value.pointer (some ⟨b17,j,none⟩))),[9,10]⟩,⟨51,.g (MT.ex (nv .u32 (dig (l) (j)))),[11]⟩,⟨52,.g (MT.ex (nv .u32 ((dig (l) (j)) / 2 ^ 31))),[12]⟩,⟨53,.g (MT.ex (Value.pointer (some ⟨b17,j,none⟩))),[0,1]⟩,⟨9998,.st 0 (MT.ex (Value.agg (ucells (l.set (j) (dig l j * 2 % 4294967296 + c))).toArray)),[14,8]⟩] mixedOrders (by kernel_rfl)
    ⟨⟨rfl,fun a w G S=>.of rfl (OpR.mv S.ok rfl (S.g 7 rfl))⟩,
     ⟨rfl,fun a w G S=>.of rfl (OpR.mv S.ok rfl (S.g 0 rfl))⟩,
     ⟨rfl,fun a w G S=>.of rfl (OpR.mv S.ok rfl (S.g 7 rfl))⟩,
     ⟨rfl,fun a w G S=>.of rfl (OpR.mv S.ok rfl (S.g 0 rfl))⟩,
     ⟨rfl,fun a w G S=>.of rfl (OpR.ixA (i:=j) S.ok rfl Tryz.underlying22 tS_141 (S.e 0 rfl) (S.e 1 rfl) rfl (by first | omega | (simp;omega)) (ptr_eq (by simp only [Option.getD_none] <;> omega)))⟩,
     ⟨rfl,fun a w G S=>have S:=S.boxes (B':=[⟨b17,141,some (((words (y)).length) + 1),MT.ex (Value.agg (ucells (l)).toArray)⟩,⟨b13,141,some ((words (x)).length),MT.ex (Value.agg (ucells (q)).toArray)⟩]) (by kernel_rfl);OpG.of rfl (OpR.ldElem S.ok rfl (S.e 0 rfl) (S.box 0 rfl) tS_141 (dig_get (by first | omega | (simp;omega))))⟩,
     ⟨rfl,fun a w G S=>.of rfl (OpR.nshlw S.ok rfl (S.e 0 rfl) (rfl : _ = nv .u64 1) (by decide) MT.self)⟩,
     ⟨rfl,fun a w G S=>.of rfl (OpR.mv S.ok rfl (S.g 4 rfl))⟩,
     ⟨rfl,fun a w G S=>.of rfl (OpR.nor32 S.ok rfl (S.e 0 rfl) (S.e 1 rfl) (by omega) (by omega) (nv_eq (dbl_or hc)))⟩,
     ⟨rfl,fun a w G S=>.of rfl (OpR.mv S.ok rfl (S.g 7 rfl))⟩,
     ⟨rfl,fun a w G S=>.of rfl (OpR.mv S.ok rfl (S.g 0 rfl))⟩,
     ⟨rfl,fun a w G S=>.of rfl (OpR.ixA (i:=j) S.ok rfl Tryz.underlying22 tS_141 (S.e 0 rfl) (S.e 1 rfl) rfl (by first | omega | (simp;omega)) (ptr_eq (by simp only [Option.getD_none] <;> omega)))⟩,
     ⟨rfl,fun a w G S=>have S:=S.boxes (B':=[⟨b17,141,some (((words (y)).length) + 1),MT.ex (Value.agg (ucells (l)).toArray)⟩,⟨b13,141,some ((words (x)).length),MT.ex (Value.agg (ucells (q)).toArray)⟩]) (by kernel_rfl);OpG.of rfl (OpR.ldElem S.ok rfl (S.e 0 rfl) (S.box 0 rfl) tS_141 (dig_get (by first | omega | (simp;omega))))⟩,
     ⟨rfl,fun a w G S=>.of rfl (OpR.nshr S.ok rfl (S.e 0 rfl) (rfl : _ = nv .u64 31) (by decide) MT.self)⟩,
     ⟨rfl,fun a w G S=>.of rfl (OpR.ixA (i:=j) S.ok rfl Tryz.underlying22 tS_141 (S.e 0 rfl) (S.e 1 rfl) rfl (by first | omega | (simp;omega)) (ptr_eq (by simp only [Option.getD_none] <;> omega)))⟩,
     ⟨rfl,rfl,rfl,.inr ⟨by simp only [List.length_cons,List.length_nil];omega,_,rfl,fun a w G v0 S hv hs h0=>elem_store (z:=dig l j * 2 % 4294967296 + c) rfl rfl (S.e 0 rfl) tS_141 (S.e 1 rfl) rfl (by first | omega | (simp;omega)) hv hs h0⟩⟩,trivial⟩ fun β a w G S=>?_
   replace S : St W0 G0 76 [(52,MT.ex (nv .u32 ((dig (l) (j)) / 2 ^ 31))),(37,BT (decide (j < (((words (y)).length) + 1)))),(36,NT j),(35,NT (((words (y)).length) + 1)),(9,MT.ex (nv .u32 (c))),(22,BT (decide ((((k : Nat) : Int) - ((1 : Nat) : Int)) ≥ 0))),(8,IT (((k : Nat) : Int) - ((1 : Nat) : Int))),(7,MT.ex (Value.slice (some ⟨b17,0,none⟩) (((words (y)).length) + 1) (((words (y)).length) + 1))),(6,MT.ex (Value.slice (some ⟨b13,0,none⟩) ((words (x)).length) ((words (x)).length))),(5,MT.ex (Value.slice none 0 0)),(4,MT.ex (Value.slice none 0 0)),(1,SN nb y),(0,SN na x)] [⟨b17,141,some (((words (y)).length) + 1),MT.ex (Value.agg (ucells (l.set (j) (dig l j * 2 % 4294967296 + c))).toArray)⟩,⟨b13,141,some ((words (x)).length),MT.ex (Value.agg (ucells (q)).toArray)⟩] a _ _:=S.keep [1,16,17,18,19,20,21,22,23,24,25,26,27]
   replace S:=S.d4
   refine S.q rfl (S.g 0 rfl) rfl fun a w G S=>?_
   refine wpList_nil ?_
   replace S:=S.d1
   refine hK _ _ ?_;clear hK K
   refine wp_region_lit ?_
   refine S.s (OpR.nadd S.ok rfl (S.e 2 rfl) (rfl : _ = nv .i64 1) (wr_i64 (by omega)) MT.self) rfl fun a w G S=>?_
   replace S:=S.d3
   refine S.m rfl (S.g 0 rfl) rfl fun a w G S=>?_
   refine wpList_nil ?_
   replace S:=S.d1
   replace S:=S.also (t:=9) (τ:=MT.ex (nv .u32 (((dig (l) (j)) / 2 ^ 31)))) ((S.e 1 rfl).trans (nv_eq (by first | rfl | omega | (simp only [Nat.zero_add,Nat.add_zero];done) | (simp;done) | (push_cast;omega))))
   replace S:=S.castBox (τ':=MT.ex (Value.agg (ucells ((l.set (j) (dig l j * 2 % 4294967296 + c)))).toArray)) 0 rfl fun _ h _=>Eq.trans h (congrArg (fun l=>Value.agg (ucells l).toArray) (by simp))
   replace S:=S.n0
   exact ⟨(words y).length + 1 - (j + 1),(by omega),j + 1,(dig (l) (j)) / 2 ^ 31,l.set (j) (dig l j * 2 % 4294967296 + c),_,rfl,(by omega),(by omega),(by simpa using hl),(hw.set (by omega)),(by rw [drop_set_far (by omega)];exact drop_eq_succ hB),(dbl_step (by omega) hB hc hw hv),(S.keep [1,4,0,5,6,7,8,9,10,11,12]).keepB [0,1] (by decide)⟩
  ·
   have hp5:=of_decide_eq_false hc3
   refine wp_exit (then_exit (then_exit (exit_same ?_)))
   clear hK K
   refine hK _ _ ?_;clear hK K
   refine wp_reg fun K hK=>?_
   have hval0:=dbl_fin hl hrl (show j = (words y).length + 1 by omega) hyL hrY hbb hv
   have hval : val l = 2 * (x / 2 ^ k % y) + x / 2 ^ (k - 1) % 2:=by rw [hval0,hr]
   refine S.m rfl (S.g 6 rfl) rfl fun a w G S=>?_
   refine S.m rfl (S.g 11 rfl) rfl fun a w G S=>?_
   refine S.s (τ:=IT (cmpN (val l) (val (words y)))) (OpR.lend2 (n:=((words (y)).length) + 1) (l:=l) S.ok rfl c_115 (S.box 0 rfl) hl.symm (by simp only [LIM];omega) hw fun G1 hle hok1 hsl=>(rcompareL_ok hok1 (of_val (S.e 1 rfl) hsl) ((SL (words y)).mono hle (SN.toSL (S.g 0 rfl))))) rfl fun a w G S=>?_
   refine S.s (OpR.igeq S.ok rfl (S.e 0 rfl) (rfl : _ = nv .i64 0) MT.self) rfl fun a w G S=>?_
   refine wn hK ?_;clear hK K
   replace S:=S.d3.d2.d1
   refine S.cond 0 rfl (fun hc6=>?_) (fun hc6=>?_)
   ·
    have hp7:=of_decide_eq_true hc6
    have hge : y ≤ val l:=by have:=cmpN_ge.1 hp7;omega
    refine wp_reg fun K hK=>?_
    refine S.m rfl (S.g 7 rfl) rfl fun a w G S=>?_
    refine S.m rfl (S.g 12 rfl) rfl fun a w G S=>?_
    refine S.stepM2 0 rfl rfl rfl c_125 (rtakeO_ok S.world (S.g 1 rfl) (SN.toSL (S.g 0 rfl)) hl hw (Nat.le_refl _) (by simp only [LIM];omega)) rfl rfl fun vR lR a w G hR hlR S=>?_
    obtain ⟨hTw,cT,hcT,hTv⟩:=hR
    have hlo:=hlR
    have hwo:=hTw
    have hT:=take_ge (by rw [List.length_take];omega) hTw (val_take_all hl) (take_words_all (by omega)) (by omega) hcT hTv
    rw [val_take_all hlR] at hT
    have hro : val lR = x / 2 ^ (k - 1) % y:=by rw [hT,hval];exact (dv_ge (by omega) (by omega) (by omega)).1.symm
    refine wn hK ?_;clear hK K
    replace S:=S.d2.d1.d0
    have hql:=q_low (i:=k - 1) hqw (by rw [hq,show k - 1 + 1 = k from by omega])
    have hqs:=q_set (i:=k - 1) (by omega) hq
    have hdq:=dig_lt hqw ((k - 1) / 32)
    have hqo : val (q.set ((k - 1) / 32) (dig q ((k - 1) / 32) + 2 ^ ((k - 1) % 32))) = x / 2 ^ (k - 1) / y * 2 ^ (k - 1):=by rw [hqs];exact (dv_ge (by omega) (by omega) (by omega)).2.symm
    refine S.drawn [⟨62,.g (MT.ex (Value.slice (some ⟨b13,0,none⟩) ((words (x)).length) ((words (x)).length))),[]⟩,⟨63,.g (NT (k - 1)),[]⟩,⟨64,.g (NT ((k - 1) / 32)),[1]⟩,⟨65,.g (MT.ex (Value.pointer (some ⟨b13,(k - 1) / 32,none⟩))),[0,2]⟩,⟨66,.g (MT.ex (nv .u32 (dig (q) ((k - 1) / 32)))),[3]⟩,⟨67,.g (NT (k - 1)),[]⟩,⟨68,.g (NT ((k - 1) % 32)),[5]⟩,⟨69,.g (MT.ex (nv .u32 (1 * 2 ^ ((k - 1) % 32)))),[6]⟩,⟨70,.g (MT.ex (nv .u32 (dig q ((k - 1) / 32) + 2 ^ ((k - 1) % 32)))),[4,7]⟩,⟨71,.g (MT.ex (Value.pointer (some ⟨b13,(k - 1) / 32,none⟩))),[0,2]⟩] mixedOrders (by kernel_rfl)
     ⟨fun a w G S=>.of rfl (OpR.mv S.ok rfl (S.g 8 rfl)),
      fun a w G S=>.of rfl (OpR.mv S.ok rfl ((S.e 6 rfl).trans (iv_eq (by omega)))),
      fun a w G S=>.of rfl (OpR.nquo S.ok rfl (S.e 0 rfl) (rfl : _ = nv .i64 32) (by omega) (wr_i64 (by omega)) MT.self),
      fun a w G S=>.of rfl (OpR.ixA (i:=(k - 1) / 32) S.ok rfl Tryz.underlying22 tS_141 (S.e 0 rfl) (S.e 1 rfl) rfl (by first | omega | (simp;omega)) (ptr_eq (by simp only [Option.getD_none] <;> omega))),
      fun a w G S=>.of rfl (OpR.ldElem S.ok rfl (S.e 0 rfl) (S.box 1 rfl) tS_141 (dig_get (by first | omega | (simp;omega)))),
      fun a w G S=>.of rfl (OpR.mv S.ok rfl ((S.e 6 rfl).trans (iv_eq (by omega)))),
      fun a w G S=>.of rfl (OpR.nrem S.ok rfl (S.e 0 rfl) (rfl : _ = nv .i64 32) (by omega) MT.self),
      fun a w G S=>.of rfl (OpR.nshl S.ok rfl (rfl : _ = nv .u32 1) (S.e 0 rfl) (by show _ ≤ 32;omega) (wr_u32 (pow32_lt (by omega))) MT.self),
      fun a w G S=>.of rfl (OpR.nor32 S.ok rfl (S.e 0 rfl) (S.e 1 rfl) (by omega) (pow32_lt (by omega)) (nv_eq (or_bit hql.1))),
      fun a w G S=>.of rfl (OpR.ixA (i:=(k - 1) / 32) S.ok rfl Tryz.underlying22 tS_141 (S.e 0 rfl) (S.e 1 rfl) rfl (by first | omega | (simp;omega)) (ptr_eq (by simp only [Option.getD_none] <;> omega))),trivial⟩ fun β a w G S=>?_
    replace S : St W0 G0 76 [(71,MT.ex (Value.pointer (some ⟨b13,(k - 1) / 32,none⟩))),(70,MT.ex (nv .u32 (dig q ((k - 1) / 32) + 2 ^ ((k - 1) % 32)))),(58,BT (decide ((cmpN (val l) (val (words y))) ≥ 0))),(37,BT (decide (j < (((words (y)).length) + 1)))),(36,NT j),(35,NT (((words (y)).length) + 1)),(9,MT.ex (nv .u32 (c))),(22,BT (decide ((((k : Nat) : Int) - ((1 : Nat) : Int)) ≥ 0))),(8,IT (((k : Nat) : Int) - ((1 : Nat) : Int))),(7,MT.ex (Value.slice (some ⟨b17,0,none⟩) (((words (y)).length) + 1) (((words (y)).length) + 1))),(6,MT.ex (Value.slice (some ⟨b13,0,none⟩) ((words (x)).length) ((words (x)).length))),(5,MT.ex (Value.slice none 0 0)),(4,MT.ex (Value.slice none 0 0)),(1,SN nb y),(0,SN na x)] [⟨b17,141,some (((words (y)).length) + 1),MT.ex (Value.agg (ucells (lR)).toArray)⟩,⟨b13,141,some ((words (x)).length),MT.ex (Value.agg (ucells (q)).toArray)⟩] a _ _:=S.keep [0,1,10,11,12,13,14,15,16,17,18,19,20,21,22]
    refine S.setElem 1 (z:=dig q ((k - 1) / 32) + 2 ^ ((k - 1) % 32)) rfl rfl rfl rfl (S.e 0 rfl) tS_141 (S.e 1 rfl) rfl (by first | omega | (simp;omega)) fun w S=>?_
    replace S:=S.n1
    refine wpList_nil ?_
    replace S:=S.d1.d0
    refine hK _ _ ?_;clear hK K
    refine wp_region_lit ?_
    refine S.m rfl (S.g 6 rfl) rfl fun a w G S=>?_
    refine S.s (τ:=IT ((((k : Nat) : Int) - ((1 : Nat) : Int)) - 1)) (OpR.isub S.ok rfl (S.e 0 rfl) (rfl : _ = nv .i64 1) (iw_i64 (by omega) (by omega))) rfl fun a w G S=>?_
    replace S:=S.d8
    refine S.q rfl (S.g 0 rfl) rfl fun a w G S=>?_
    refine wpList_nil ?_
    replace S:=S.d2.d1
    replace S:=S.also (t:=8) (τ:=IT ((((k - 1) : Nat) : Int) - ((1 : Nat) : Int))) ((S.e 0 rfl).trans (iv_eq (by first | rfl | omega | (simp only [Nat.zero_add,Nat.add_zero];done) | (simp;done) | (push_cast;omega))))
    replace S:=S.castBox (τ':=MT.ex (Value.agg (ucells ((q.set ((k - 1) / 32) (dig q ((k - 1) / 32) + 2 ^ ((k - 1) % 32))))).toArray)) 1 rfl fun _ h _=>Eq.trans h (congrArg (fun l=>Value.agg (ucells l).toArray) (by simp))
    replace S:=S.n1
    exact ⟨(k - 1),(by omega),(k - 1),q.set ((k - 1) / 32) (dig q ((k - 1) / 32) + 2 ^ ((k - 1) % 32)),lR,_,rfl,(by omega),(by simpa using hqq),(by first | exact hqw.set hql.2 | exact hqw),hlo,hwo,hqo,hro,(S.keep [0,8,9,10,11,12,13]).keepB [0,1] (by decide)⟩
   ·
    have hp8:=of_decide_eq_false hc6
    have hlt : val l < y:=Nat.not_le.1 fun h=>hp8 (cmpN_ge.2 (by omega))
    have hlo:=hl
    have hwo:=hw
    have hro : val l = x / 2 ^ (k - 1) % y:=by rw [hval];exact (dv_lt hk1 (by omega)).1.symm
    have hqo : val q = x / 2 ^ (k - 1) / y * 2 ^ (k - 1):=by rw [hq];exact (dv_lt hk1 (by omega)).2.symm
    refine wp_skip ?_
    refine hK _ _ ?_;clear hK K
    refine wp_region_lit ?_
    refine S.m rfl (S.g 6 rfl) rfl fun a w G S=>?_
    refine S.s (τ:=IT ((((k : Nat) : Int) - ((1 : Nat) : Int)) - 1)) (OpR.isub S.ok rfl (S.e 0 rfl) (rfl : _ = nv .i64 1) (iw_i64 (by omega) (by omega))) rfl fun a w G S=>?_
    replace S:=S.d8
    refine S.q rfl (S.g 0 rfl) rfl fun a w G S=>?_
    refine wpList_nil ?_
    replace S:=S.d2.d1
    replace S:=S.also (t:=8) (τ:=IT ((((k - 1) : Nat) : Int) - ((1 : Nat) : Int))) ((S.e 0 rfl).trans (iv_eq (by first | rfl | omega | (simp only [Nat.zero_add,Nat.add_zero];done) | (simp;done) | (push_cast;omega))))
    exact ⟨(k - 1),(by omega),(k - 1),q,l,_,rfl,(by omega),(by simpa using hqq),(by first | exact hqw.set hql.2 | exact hqw),hlo,hwo,hqo,hro,(S.keep [0,8,9,10,11,12,13]).keepB [0,1] (by decide)⟩
 ·
  have hp9:=of_decide_eq_false hc1
  refine wp_exit (then_exit (then_exit (exit_same ?_)))
  clear hK K
  refine hK _ _ ?_;clear hK K
  refine wp_reg fun K hK=>?_
  have hk0 : k = 0:=by omega
  have hqf : val q = x / y:=by rw [hq,hk0];simp
  have hrf : val r = x % y:=by rw [hr,hk0];simp
  obtain ⟨vz10,Gz10,hz10,hs10,hg10,hle10,S⟩:=S.freeze 1 rfl
  have hsl10 : (SL (q)).t (Value.slice (some ⟨b13,0,none⟩) ((words (x)).length) ((words (x)).length)) Gz10:=SL_frozen hz10 hg10 ⟨hqq.symm,Nat.le_refl _⟩ (by simp only [LIM];omega) hqw
  replace S:=S.also (t:=6) (τ:=SL (q)) ((S.e 3 rfl).symm ▸ hsl10)
  replace S : St W0 G0 76 [(6,SL q),(22,BT (decide ((((k : Nat) : Int) - ((1 : Nat) : Int)) ≥ 0))),(8,IT (((k : Nat) : Int) - ((1 : Nat) : Int))),(7,MT.ex (Value.slice (some ⟨b17,0,none⟩) (((words (y)).length) + 1) (((words (y)).length) + 1))),(5,MT.ex (Value.slice none 0 0)),(4,MT.ex (Value.slice none 0 0)),(1,SN nb y),(0,SN na x)] [⟨b17,141,some (((words (y)).length) + 1),MT.ex (Value.agg (ucells (r)).toArray)⟩] a _ _:=S.keep [0,1,2,3,5,6,7,8]
  refine S.m rfl (S.g 0 rfl) rfl fun a w G S=>?_
  refine S.s (τ:=SN na (x / y)) (OpR.call1 rfl c_123 (rtrim_ok S.ok (SL.asSV (S.g 0 rfl) ⟨hqf,hdb⟩))) rfl fun a w G S=>?_
  obtain ⟨vz11,Gz11,hz11,hs11,hg11,hle11,S⟩:=S.freeze 0 rfl
  have hsl11 : (SL (r)).t (Value.slice (some ⟨b17,0,none⟩) (((words (y)).length) + 1) (((words (y)).length) + 1)) Gz11:=SL_frozen hz11 hg11 ⟨hrl.symm,Nat.le_refl _⟩ (by simp only [LIM];omega) hrw
  replace S:=S.also (t:=7) (τ:=SL (r)) ((S.e 5 rfl).symm ▸ hsl11)
  replace S : St W0 G0 76 [(7,SL r),(73,SN na (x / y)),(72,SL q),(6,SL q),(22,BT (decide ((((k : Nat) : Int) - ((1 : Nat) : Int)) ≥ 0))),(8,IT (((k : Nat) : Int) - ((1 : Nat) : Int))),(5,MT.ex (Value.slice none 0 0)),(4,MT.ex (Value.slice none 0 0)),(1,SN nb y),(0,SN na x)] [] a _ _:=S.keep [0,1,2,3,4,5,7,8,9,10]
  refine S.m rfl (S.g 0 rfl) rfl fun a w G S=>?_
  refine S.s (τ:=SN nb (x % y)) (OpR.call1 rfl c_123 (rtrim_ok S.ok (SL.asSV (S.g 0 rfl) ⟨hrf,hmb⟩))) rfl fun a w G S=>?_
  replace S:=S.d9
  refine S.q rfl (S.g 3 rfl) rfl fun a w G S=>?_
  replace S:=S.d9
  refine S.q rfl (S.g 1 rfl) rfl fun a w G S=>?_
  refine wn hK ?_;clear hK K
  replace S:=S.d6.d5.d3.d2
  exact wp_ret (S.retTmp2 rfl (S.g 1 rfl) (S.g 0 rfl))
end Go.Proofs.YtpbkcbnghhodiaaGreat
namespace Go.Proofs.YtpbkcbnghhodiaaGreat
set_option maxHeartbeats 1000000
set_option maxRecDepth 100000
open Go.RowKit (Below)
private theorem c_103 : callable Tryz.prog 103 = true:=by kernel_rfl
private theorem c_129 : callable Tryz.prog 129 = true:=by kernel_rfl
theorem rGcd_ok {n m : Nat} {x y : Int} {v1 v2 : Value} {W0 : World} {G0 : Gh} (hok : Gok W0 G0) (h1 : (W n x).t v1 G0) (h2 : (W m y).t v2 G0) (hna : n ≤ BIG) (hnb : m ≤ BIG) : Calls Tryz.prog 71 #[v1,v2] W0 (Ret W0 G0 (WC (max n m) ((Nat.gcd x.natAbs y.natAbs : Nat) : Int))):=by
 refine St.enter (N:=11) (L:=[(1,W m y),(0,W n x)]) (args:=[v1,v2]) Tryz.func71 rfl rfl rfl hok (enter2 h1 h2) fun a S=>?_
 refine wp_reg fun K hK=>?_
 refine S.boxop (x:=.tmp 0) (τ:=W n x) (S.g 1 rfl) (sh (τ:=W n x) (S.g 1 rfl)) rfl rfl rfl rfl rfl fun b2 a w G S=>?_
 refine S.boxop (x:=.tmp 1) (τ:=W m y) (S.g 1 rfl) (sh (τ:=W m y) (S.g 1 rfl)) rfl rfl rfl rfl rfl fun b3 a w G S=>?_
 refine S.alloc rfl rfl rfl z_112 zs_112 rfl rfl fun b4 a w G S=>?_
 refine wn hK ?_;clear hK K
 replace S:=S.d4.d3
 refine wp_seq_k fun K hK=>?_
 refine S.drawn [⟨5,.g (W n x),[]⟩,⟨6,.g (SN n x.natAbs),[0]⟩,⟨7,.g (W m y),[]⟩,⟨8,.g (SN m y.natAbs),[2]⟩,⟨9,.g (SN (max n m) (Nat.gcd (x.natAbs) (y.natAbs))),[1,3]⟩,⟨10,.g (WC (max n m) (sg false (Nat.gcd (x.natAbs) (y.natAbs)))),[4]⟩] mixedOrders (by kernel_rfl)
  ⟨fun a w G S=>.of rfl (OpR.ldBox S.ok rfl (S.e 2 rfl) (S.box 2 rfl) tS_112),
   fun a w G S=>.of rfl (OpR.call1 rfl c_92 (rmag_ok S.ok (S.g 0 rfl))),
   fun a w G S=>.of rfl (OpR.ldBox S.ok rfl (S.e 1 rfl) (S.box 1 rfl) tS_112),
   fun a w G S=>.of rfl (OpR.call1 rfl c_92 (rmag_ok S.ok (S.g 0 rfl))),
   fun a w G S=>.of rfl (OpR.call2 rfl c_103 (rgcd_ok S.ok (S.g 0 rfl) (S.g 1 rfl) (by omega) (by omega))),
   fun a w G S=>.of rfl (OpR.call2 rfl c_102 (rform_ok S.ok rfl (SN.toSV (S.g 0 rfl)))),trivial⟩ fun β a w G S=>?_
 replace S : St W0 G0 11 [(10,WC (max n m) (sg false (Nat.gcd (x.natAbs) (y.natAbs)))),(4,PB b4)] [⟨b4,112,some 2,MT.ex ((.agg #[.bool false,.slice none 0 0] : Value))⟩,⟨b3,112,some 2,W m y⟩,⟨b2,112,some 2,W n x⟩] a _ _:=S.keep [0,6]
 refine S.store (τ:=WC (max n m) (sg false (Nat.gcd (x.natAbs) (y.natAbs)))) 0 rfl rfl rfl rfl (S.e 1 rfl) tS_112 (S.g 0 rfl) (sh (τ:=WC (max n m) (sg false (Nat.gcd (x.natAbs) (y.natAbs)))) (S.g 0 rfl)) fun w S=>?_
 replace S:=S.n0
 refine wn hK ?_;clear hK K
 replace S:=S.d0
 exact wp_ret (S.retCell (i:=0) rfl (S.e 0 rfl) rfl tS_112 (fun _ h=>(WC.eq h sg_false)))
theorem rDiv_ok {n m : Nat} {x y : Int} {v1 v2 : Value} {W0 : World} {G0 : Gh} (hok : Gok W0 G0) (h1 : (W n x).t v1 G0) (h2 : (W m y).t v2 G0) (hna : n ≤ BIG) (hnb : m ≤ BIG) : Calls Tryz.prog 112 #[v1,v2] W0 (Ret W0 G0 (MT.tup3 (WC n (x / y)) (WC m (if y = 0 then 0 else x % y)) (IT (if y = 0 then 8 else 0)))):=by
 have hxl:=W.lt h1
 have hyl:=W.lt h2
 have hB1 : 1 ≤ BIG:=by decide
 refine St.enter (N:=45) (L:=[(1,W m y),(0,W n x)]) (args:=[v1,v2]) Tryz.func112 rfl rfl rfl hok (enter2 h1 h2) fun a S=>?_
 refine wp_reg fun K hK=>?_
 refine S.boxop (x:=.tmp 0) (τ:=W n x) (S.g 1 rfl) (sh (τ:=W n x) (S.g 1 rfl)) rfl rfl rfl rfl rfl fun b2 a w G S=>?_
 refine S.boxop (x:=.tmp 1) (τ:=W m y) (S.g 1 rfl) (sh (τ:=W m y) (S.g 1 rfl)) rfl rfl rfl rfl rfl fun b3 a w G S=>?_
 refine S.alloc rfl rfl rfl z_112 zs_112 rfl rfl fun b4 a w G S=>?_
 refine S.alloc rfl rfl rfl z_112 zs_112 rfl rfl fun b5 a w G S=>?_
 refine S.s (τ:=NT 0) (OpR.asn S.ok rfl (rfl : _ = nv .i64 0)) rfl fun a w G S=>?_
 refine wn hK ?_;clear hK K
 replace S:=S.d6.d5
 refine wp_seq_k fun K hK=>?_
 refine wp_reg fun K hK=>?_
 refine S.s (OpR.ldBox S.ok rfl (S.e 3 rfl) (S.box 2 rfl) tS_112) rfl fun a w G S=>?_
 refine S.s (τ:=IT y.sign) (OpR.call1 rfl c_61 (rSign_ok S.ok (S.g 0 rfl))) rfl fun a w G S=>?_
 refine S.s (OpR.zeql S.ok rfl (S.e 0 rfl) (rfl : _ = nv .i64 0) MT.self) rfl fun a w G S=>?_
 refine wn hK ?_;clear hK K
 replace S:=S.d2.d1
 refine S.cond 0 rfl (fun hc1=>?_) (fun hc1=>?_)
 ·
  have hp2:=of_decide_eq_true hc1
  have hy0 : y = 0:=Int.sign_eq_zero_iff_zero.1 hp2
  refine wp_reg fun K hK=>?_
  refine S.s (τ:=WR false ([])) (OpR.bW0 S.ok rfl bt_112_) rfl fun a w G S=>?_
  refine S.s (τ:=WR false ([])) (OpR.bW0 S.ok rfl bt_112_) rfl fun a w G S=>?_
  refine S.store (τ:=WR false ([])) 1 rfl rfl rfl rfl (S.e 5 rfl) tS_112 (S.g 1 rfl) (sh (τ:=WR false ([])) (S.g 1 rfl)) fun w S=>?_
  replace S:=S.n1
  refine S.store (τ:=WR false ([])) 0 rfl rfl rfl rfl (S.e 4 rfl) tS_112 (S.g 0 rfl) (sh (τ:=WR false ([])) (S.g 0 rfl)) fun w S=>?_
  replace S:=S.n0
  replace S:=S.d3
  refine S.s (τ:=NT 8) (OpR.asn S.ok rfl (rfl : _ = nv .i64 8)) rfl fun a w G S=>?_
  refine wn hK ?_;clear hK K
  replace S:=S.d2.d1
  exact wp_ret (then_ret (S.retCell3 (i:=1) (i2:=0) rfl (S.e 3 rfl) rfl tS_112 (S.e 2 rfl) rfl tS_112 (fun _ h=>(WR.zero h (by rw [hy0];exact Int.ediv_zero x))) (fun _ h=>(WR.zero h (if_pos hy0))) ((S.e 0 rfl).trans (iv_eq (if_pos hy0).symm))))
 ·
  have hp3:=of_decide_eq_false hc1
  have hy0 : y ≠ 0:=fun e=>hp3 (by rw [e];rfl)
  have hlt:=Nat.mod_lt x.natAbs (show 0 < y.natAbs by omega)
  refine wp_skip ?_
  refine hK _ _ ?_;clear hK K
  refine wp_seq_k fun K hK=>?_
  refine S.drawn [⟨15,.g (W n x),[]⟩,⟨16,.g (SN n x.natAbs),[0]⟩,⟨17,.g (W m y),[]⟩,⟨18,.g (SN m y.natAbs),[2]⟩,⟨19,.g (MT.tup2 (SN n ((x.natAbs) / (y.natAbs))) (SN m ((x.natAbs) % (y.natAbs)))),[1,3]⟩,⟨14,.g (MT.tup2 (SN n ((x.natAbs) / (y.natAbs))) (SN m ((x.natAbs) % (y.natAbs)))),[4]⟩,⟨20,.g (SN n ((x.natAbs) / (y.natAbs))),[5]⟩,⟨21,.g (SN m ((x.natAbs) % (y.natAbs))),[5]⟩,⟨7,.g (SN n ((x.natAbs) / (y.natAbs))),[6]⟩,⟨8,.g (SN m ((x.natAbs) % (y.natAbs))),[7]⟩] mixedOrders (by kernel_rfl)
   ⟨fun a w G S=>.of rfl (OpR.ldBox S.ok rfl (S.e 5 rfl) (S.box 3 rfl) tS_112),
    fun a w G S=>.of rfl (OpR.call1 rfl c_92 (rmag_ok S.ok (S.g 0 rfl))),
    fun a w G S=>.of rfl (OpR.ldBox S.ok rfl (S.e 4 rfl) (S.box 2 rfl) tS_112),
    fun a w G S=>.of rfl (OpR.call1 rfl c_92 (rmag_ok S.ok (S.g 0 rfl))),
    fun a w G S=>.of rfl (OpR.call2 rfl c_129 (rdivide_ok S.ok (S.g 0 rfl) (S.g 1 rfl) (by omega) (by omega) (by omega))),
    fun a w G S=>.of rfl (OpR.mv S.ok rfl (S.g 0 rfl)),
    fun a w G S=>.of rfl (OpR.ext2a S.ok rfl (S.g 0 rfl)),
    fun a w G S=>.of rfl (OpR.ext2b S.ok rfl (S.g 0 rfl)),
    fun a w G S=>.of rfl (OpR.asn S.ok rfl (S.g 0 rfl)),
    fun a w G S=>.of rfl (OpR.asn S.ok rfl (S.g 0 rfl)),trivial⟩ fun β a w G S=>?_
  replace S : St W0 G0 45 [(8,SN m ((x.natAbs) % (y.natAbs))),(7,SN n ((x.natAbs) / (y.natAbs))),(11,BT (decide (y.sign = 0))),(6,NT 0),(5,PB b5),(4,PB b4),(3,PB b3),(2,PB b2)] [⟨b5,112,some 2,MT.ex ((.agg #[.bool false,.slice none 0 0] : Value))⟩,⟨b4,112,some 2,MT.ex ((.agg #[.bool false,.slice none 0 0] : Value))⟩,⟨b3,112,some 2,W m y⟩,⟨b2,112,some 2,W n x⟩] a _ _:=S.keep [0,1,10,11,12,13,14,15]
  refine wn hK ?_;clear hK K
  refine wp_seq_k fun K hK=>?_
  refine wp_reg fun K hK=>?_
  refine S.s (OpR.ldBox S.ok rfl (S.e 7 rfl) (S.box 3 rfl) tS_112) rfl fun a w G S=>?_
  refine S.s (τ:=BT (decide (x < 0))) (OpR.call1 rfl c_93 (rneg_ok S.ok (S.g 0 rfl))) rfl fun a w G S=>?_
  refine S.m rfl (S.g 0 rfl) rfl fun a w G S=>?_
  rcases Bool.eq_false_or_eq_true (decide (x < 0)) with hc4 | hc4
  ·
   have hp5:=of_decide_eq_true hc4
   replace S:=S.boolIs 0 rfl hc4
   refine S.stepG 0 (OpR.mv S.ok rfl (S.g 4 rfl)) rfl rfl rfl rfl rfl rfl fun a w G S=>?_
   refine S.stepG 1 (OpR.lenL S.ok rfl Tryz.underlying22 (SN.toSL (S.g 0 rfl)) MT.self) rfl rfl rfl rfl rfl rfl fun a w G S=>?_
   refine S.stepG 2 (OpR.ngtr S.ok rfl (S.e 0 rfl) (rfl : _ = nv .i64 0) MT.self) rfl rfl rfl rfl rfl rfl fun a w G S=>?_
   refine S.s (τ:=BT (decide (0 < ((words ((x.natAbs) % (y.natAbs))).length)))) (OpR.pick S.ok rfl (S.e 3 rfl) (S.g 0 rfl)) rfl fun a w G S=>?_
   refine wn hK ?_;clear hK K
   replace S:=S.d7.d6.d5.d4.d3.d2.d1
   refine S.cond 0 rfl (fun hc6=>?_) (fun hc6=>?_)
   ·
    have hp7:=of_decide_eq_true hc6
    have hr:=len_pos_iff.1 hp7
    refine S.drawn [⟨29,.g (SN n ((x.natAbs) / (y.natAbs))),[]⟩,⟨30,.g (SL ([1])),[]⟩,⟨31,.g (SN (max n 1 + 1) (((x.natAbs) / (y.natAbs)) + 1)),[0,1]⟩,⟨32,.g (W m y),[]⟩,⟨33,.g (SN m y.natAbs),[3]⟩,⟨34,.g (SN m ((x.natAbs) % (y.natAbs))),[]⟩,⟨35,.g (SN m ((y.natAbs) - ((x.natAbs) % (y.natAbs)))),[4,5]⟩] mixedOrders (by kernel_rfl)
     ⟨fun a w G S=>.of rfl (OpR.mv S.ok rfl (S.g 2 rfl)),
      fun a w G S=>.of rfl (OpR.build32 S.ok rfl Tryz.underlying22 el_141 (by omega) rfl (by simp [wfl] <;> omega) (fill1 (rfl : _ = nv .u32 1))),
      fun a w G S=>.of rfl (OpR.call2 rfl c_114 (rplus_ok S.ok (S.g 0 rfl) (SL.toSN (S.g 1 rfl) words_one (by decide)) (by omega) (by omega))),
      fun a w G S=>.of rfl (OpR.ldBox S.ok rfl (S.e 7 rfl) (S.box 2 rfl) tS_112),
      fun a w G S=>.of rfl (OpR.call1 rfl c_92 (rmag_ok S.ok (S.g 0 rfl))),
      fun a w G S=>.of rfl (OpR.mv S.ok rfl (S.g 1 rfl)),
      fun a w G S=>.of rfl (OpR.call2 rfl c_116 (rminus_ok S.ok (S.g 0 rfl) (S.g 1 rfl) (by omega))),trivial⟩ fun β a w G S=>?_
    replace S : St W0 G0 45 [(35,SN m ((y.natAbs) - ((x.natAbs) % (y.natAbs)))),(31,SN (max n 1 + 1) (((x.natAbs) / (y.natAbs)) + 1)),(28,BT (decide (0 < ((words ((x.natAbs) % (y.natAbs))).length)))),(8,SN m ((x.natAbs) % (y.natAbs))),(7,SN n ((x.natAbs) / (y.natAbs))),(11,BT (decide (y.sign = 0))),(6,NT 0),(5,PB b5),(4,PB b4),(3,PB b3),(2,PB b2)] [⟨b5,112,some 2,MT.ex ((.agg #[.bool false,.slice none 0 0] : Value))⟩,⟨b4,112,some 2,MT.ex ((.agg #[.bool false,.slice none 0 0] : Value))⟩,⟨b3,112,some 2,W m y⟩,⟨b2,112,some 2,W n x⟩] a _ _:=S.keep [0,4,7,8,9,10,11,12,13,14,15]
    replace S:=S.d4
    refine S.s (τ:=SN n (x.natAbs / y.natAbs + 1)) (OpR.asn S.ok rfl (SN.cast (S.g 1 rfl) rfl (qd_bound hxl (by omega) hy0))) rfl fun a w G S=>?_
    replace S:=S.d4
    refine S.q rfl (S.g 1 rfl) rfl fun a w G S=>?_
    refine wpList_nil ?_
    replace S:=S.d3.d2
    refine hK _ _ ?_;clear hK K
    refine wp_seq_k fun K hK=>?_
    refine S.drawn [⟨36,.g (W n x),[]⟩,⟨37,.g (BT (decide (x < 0))),[0]⟩,⟨38,.g (W m y),[]⟩,⟨39,.g (BT (decide (y < 0))),[2]⟩,⟨40,.g (BT (!((decide (x < 0)) == (decide (y < 0))))),[1,3]⟩,⟨41,.g (SN n (x.natAbs / y.natAbs + 1)),[]⟩,⟨42,.g (WC n (sg (!((decide (x < 0)) == (decide (y < 0)))) (x.natAbs / y.natAbs + 1))),[4,5]⟩,⟨43,.g (SN m ((y.natAbs) - ((x.natAbs) % (y.natAbs)))),[]⟩,⟨44,.g (WC m (sg false ((y.natAbs) - ((x.natAbs) % (y.natAbs))))),[7]⟩] mixedOrders (by kernel_rfl)
     ⟨fun a w G S=>.of rfl (OpR.ldBox S.ok rfl (S.e 8 rfl) (S.box 3 rfl) tS_112),
      fun a w G S=>.of rfl (OpR.call1 rfl c_93 (rneg_ok S.ok (S.g 0 rfl))),
      fun a w G S=>.of rfl (OpR.ldBox S.ok rfl (S.e 7 rfl) (S.box 2 rfl) tS_112),
      fun a w G S=>.of rfl (OpR.call1 rfl c_93 (rneg_ok S.ok (S.g 0 rfl))),
      fun a w G S=>.of rfl (OpR.bneq S.ok rfl (S.e 0 rfl) (S.e 1 rfl) Tryz.underlying4 MT.self),
      fun a w G S=>.of rfl (OpR.mv S.ok rfl (S.g 1 rfl)),
      fun a w G S=>.of rfl (OpR.call2 rfl c_102 (rform_ok S.ok (S.g 0 rfl) (SN.toSV (S.g 1 rfl)))),
      fun a w G S=>.of rfl (OpR.mv S.ok rfl (S.g 0 rfl)),
      fun a w G S=>.of rfl (OpR.call2 rfl c_102 (rform_ok S.ok rfl (SN.toSV (S.g 0 rfl)))),trivial⟩ fun β a w G S=>?_
    replace S : St W0 G0 45 [(44,WC m (sg false ((y.natAbs) - ((x.natAbs) % (y.natAbs))))),(42,WC n (sg (!((decide (x < 0)) == (decide (y < 0)))) (x.natAbs / y.natAbs + 1))),(8,SN m ((y.natAbs) - ((x.natAbs) % (y.natAbs)))),(7,SN n (x.natAbs / y.natAbs + 1)),(28,BT (decide (0 < ((words ((x.natAbs) % (y.natAbs))).length)))),(11,BT (decide (y.sign = 0))),(6,NT 0),(5,PB b5),(4,PB b4),(3,PB b3),(2,PB b2)] [⟨b5,112,some 2,MT.ex ((.agg #[.bool false,.slice none 0 0] : Value))⟩,⟨b4,112,some 2,MT.ex ((.agg #[.bool false,.slice none 0 0] : Value))⟩,⟨b3,112,some 2,W m y⟩,⟨b2,112,some 2,W n x⟩] a _ _:=S.keep [0,2,9,10,11,12,13,14,15,16,17]
    refine S.store (τ:=WC n (sg (!((decide (x < 0)) == (decide (y < 0)))) (x.natAbs / y.natAbs + 1))) 1 rfl rfl rfl rfl (S.e 8 rfl) tS_112 (S.g 1 rfl) (sh (τ:=WC n (sg (!((decide (x < 0)) == (decide (y < 0)))) (x.natAbs / y.natAbs + 1))) (S.g 1 rfl)) fun w S=>?_
    replace S:=S.n1
    refine S.store (τ:=WC m (sg false ((y.natAbs) - ((x.natAbs) % (y.natAbs))))) 0 rfl rfl rfl rfl (S.e 7 rfl) tS_112 (S.g 0 rfl) (sh (τ:=WC m (sg false ((y.natAbs) - ((x.natAbs) % (y.natAbs))))) (S.g 0 rfl)) fun w S=>?_
    replace S:=S.n0
    replace S:=S.d6
    refine S.s (τ:=NT 0) (OpR.asn S.ok rfl (rfl : _ = nv .i64 0)) rfl fun a w G S=>?_
    refine wn hK ?_;clear hK K
    replace S:=S.d2.d1
    exact wp_ret (S.retCell3 (i:=1) (i2:=0) rfl (S.e 6 rfl) rfl tS_112 (S.e 5 rfl) rfl tS_112 (fun _ h=>(WC.eq h (by first | exact (qd1 hy0 (of_decide_eq_true ‹_›) (by omega)).1 | exact (qd2 hy0 (.inr (by omega))).1 | exact (qd2 hy0 (.inl (of_decide_eq_false ‹_›))).1))) (fun _ h=>(WC.eq h (by rw [if_neg hy0];first | exact (qd1 hy0 (of_decide_eq_true ‹_›) (by omega)).2 | exact (qd2 hy0 (.inr (by omega))).2 | exact (qd2 hy0 (.inl (of_decide_eq_false ‹_›))).2))) ((S.e 0 rfl).trans (iv_eq (if_neg hy0).symm)))
   ·
    have hp8:=of_decide_eq_false hc6
    have hr : x.natAbs % y.natAbs = 0:=len_zero (by omega)
    refine wp_skip ?_
    refine hK _ _ ?_;clear hK K
    refine wp_seq_k fun K hK=>?_
    refine S.drawn [⟨36,.g (W n x),[]⟩,⟨37,.g (BT (decide (x < 0))),[0]⟩,⟨38,.g (W m y),[]⟩,⟨39,.g (BT (decide (y < 0))),[2]⟩,⟨40,.g (BT (!((decide (x < 0)) == (decide (y < 0))))),[1,3]⟩,⟨41,.g (SN n ((x.natAbs) / (y.natAbs))),[]⟩,⟨42,.g (WC n (sg (!((decide (x < 0)) == (decide (y < 0)))) ((x.natAbs) / (y.natAbs)))),[4,5]⟩,⟨43,.g (SN m ((x.natAbs) % (y.natAbs))),[]⟩,⟨44,.g (WC m (sg false ((x.natAbs) % (y.natAbs)))),[7]⟩] mixedOrders (by kernel_rfl)
     ⟨fun a w G S=>.of rfl (OpR.ldBox S.ok rfl (S.e 8 rfl) (S.box 3 rfl) tS_112),
      fun a w G S=>.of rfl (OpR.call1 rfl c_93 (rneg_ok S.ok (S.g 0 rfl))),
      fun a w G S=>.of rfl (OpR.ldBox S.ok rfl (S.e 7 rfl) (S.box 2 rfl) tS_112),
      fun a w G S=>.of rfl (OpR.call1 rfl c_93 (rneg_ok S.ok (S.g 0 rfl))),
      fun a w G S=>.of rfl (OpR.bneq S.ok rfl (S.e 0 rfl) (S.e 1 rfl) Tryz.underlying4 MT.self),
      fun a w G S=>.of rfl (OpR.mv S.ok rfl (S.g 2 rfl)),
      fun a w G S=>.of rfl (OpR.call2 rfl c_102 (rform_ok S.ok (S.g 0 rfl) (SN.toSV (S.g 1 rfl)))),
      fun a w G S=>.of rfl (OpR.mv S.ok rfl (S.g 1 rfl)),
      fun a w G S=>.of rfl (OpR.call2 rfl c_102 (rform_ok S.ok rfl (SN.toSV (S.g 0 rfl)))),trivial⟩ fun β a w G S=>?_
    replace S : St W0 G0 45 [(44,WC m (sg false ((x.natAbs) % (y.natAbs)))),(42,WC n (sg (!((decide (x < 0)) == (decide (y < 0)))) ((x.natAbs) / (y.natAbs)))),(28,BT (decide (0 < ((words ((x.natAbs) % (y.natAbs))).length)))),(8,SN m ((x.natAbs) % (y.natAbs))),(7,SN n ((x.natAbs) / (y.natAbs))),(11,BT (decide (y.sign = 0))),(6,NT 0),(5,PB b5),(4,PB b4),(3,PB b3),(2,PB b2)] [⟨b5,112,some 2,MT.ex ((.agg #[.bool false,.slice none 0 0] : Value))⟩,⟨b4,112,some 2,MT.ex ((.agg #[.bool false,.slice none 0 0] : Value))⟩,⟨b3,112,some 2,W m y⟩,⟨b2,112,some 2,W n x⟩] a _ _:=S.keep [0,2,9,10,11,12,13,14,15,16,17]
    refine S.store (τ:=WC n (sg (!((decide (x < 0)) == (decide (y < 0)))) ((x.natAbs) / (y.natAbs)))) 1 rfl rfl rfl rfl (S.e 8 rfl) tS_112 (S.g 1 rfl) (sh (τ:=WC n (sg (!((decide (x < 0)) == (decide (y < 0)))) ((x.natAbs) / (y.natAbs)))) (S.g 1 rfl)) fun w S=>?_
    replace S:=S.n1
    refine S.store (τ:=WC m (sg false ((x.natAbs) % (y.natAbs)))) 0 rfl rfl rfl rfl (S.e 7 rfl) tS_112 (S.g 0 rfl) (sh (τ:=WC m (sg false ((x.natAbs) % (y.natAbs)))) (S.g 0 rfl)) fun w S=>?_
    replace S:=S.n0
    replace S:=S.d6
    refine S.s (τ:=NT 0) (OpR.asn S.ok rfl (rfl : _ = nv .i64 0)) rfl fun a w G S=>?_
    refine wn hK ?_;clear hK K
    replace S:=S.d2.d1
    exact wp_ret (S.retCell3 (i:=1) (i2:=0) rfl (S.e 6 rfl) rfl tS_112 (S.e 5 rfl) rfl tS_112 (fun _ h=>(WC.eq h (by first | exact (qd1 hy0 (of_decide_eq_true ‹_›) (by omega)).1 | exact (qd2 hy0 (.inr (by omega))).1 | exact (qd2 hy0 (.inl (of_decide_eq_false ‹_›))).1))) (fun _ h=>(WC.eq h (by rw [if_neg hy0];first | exact (qd1 hy0 (of_decide_eq_true ‹_›) (by omega)).2 | exact (qd2 hy0 (.inr (by omega))).2 | exact (qd2 hy0 (.inl (of_decide_eq_false ‹_›))).2))) ((S.e 0 rfl).trans (iv_eq (if_neg hy0).symm)))
  ·
   have hp9:=of_decide_eq_false hc4
   replace S:=S.boolIs 0 rfl hc4
   refine S.skipG 0 rfl rfl rfl rfl rfl rfl fun a w G S=>?_
   refine S.skipG 1 rfl rfl rfl rfl rfl rfl fun a w G S=>?_
   refine S.skipG 2 rfl rfl rfl rfl rfl rfl fun a w G S=>?_
   refine S.s (τ:=BT false) (OpR.pick S.ok rfl (S.e 3 rfl) rfl) rfl fun a w G S=>?_
   refine wn hK ?_;clear hK K
   replace S:=S.d7.d6.d5.d4.d3.d2.d1
   refine wp_cond_false (S.e 0 rfl) ?_
   refine wp_skip ?_
   refine hK _ _ ?_;clear hK K
   refine wp_seq_k fun K hK=>?_
   refine S.drawn [⟨36,.g (W n x),[]⟩,⟨37,.g (BT (decide (x < 0))),[0]⟩,⟨38,.g (W m y),[]⟩,⟨39,.g (BT (decide (y < 0))),[2]⟩,⟨40,.g (BT (!((decide (x < 0)) == (decide (y < 0))))),[1,3]⟩,⟨41,.g (SN n ((x.natAbs) / (y.natAbs))),[]⟩,⟨42,.g (WC n (sg (!((decide (x < 0)) == (decide (y < 0)))) ((x.natAbs) / (y.natAbs)))),[4,5]⟩,⟨43,.g (SN m ((x.natAbs) % (y.natAbs))),[]⟩,⟨44,.g (WC m (sg false ((x.natAbs) % (y.natAbs)))),[7]⟩] mixedOrders (by kernel_rfl)
    ⟨fun a w G S=>.of rfl (OpR.ldBox S.ok rfl (S.e 8 rfl) (S.box 3 rfl) tS_112),
     fun a w G S=>.of rfl (OpR.call1 rfl c_93 (rneg_ok S.ok (S.g 0 rfl))),
     fun a w G S=>.of rfl (OpR.ldBox S.ok rfl (S.e 7 rfl) (S.box 2 rfl) tS_112),
     fun a w G S=>.of rfl (OpR.call1 rfl c_93 (rneg_ok S.ok (S.g 0 rfl))),
     fun a w G S=>.of rfl (OpR.bneq S.ok rfl (S.e 0 rfl) (S.e 1 rfl) Tryz.underlying4 MT.self),
     fun a w G S=>.of rfl (OpR.mv S.ok rfl (S.g 2 rfl)),
     fun a w G S=>.of rfl (OpR.call2 rfl c_102 (rform_ok S.ok (S.g 0 rfl) (SN.toSV (S.g 1 rfl)))),
     fun a w G S=>.of rfl (OpR.mv S.ok rfl (S.g 1 rfl)),
     fun a w G S=>.of rfl (OpR.call2 rfl c_102 (rform_ok S.ok rfl (SN.toSV (S.g 0 rfl)))),trivial⟩ fun β a w G S=>?_
   replace S : St W0 G0 45 [(44,WC m (sg false ((x.natAbs) % (y.natAbs)))),(42,WC n (sg (!((decide (x < 0)) == (decide (y < 0)))) ((x.natAbs) / (y.natAbs)))),(28,BT false),(8,SN m ((x.natAbs) % (y.natAbs))),(7,SN n ((x.natAbs) / (y.natAbs))),(11,BT (decide (y.sign = 0))),(6,NT 0),(5,PB b5),(4,PB b4),(3,PB b3),(2,PB b2)] [⟨b5,112,some 2,MT.ex ((.agg #[.bool false,.slice none 0 0] : Value))⟩,⟨b4,112,some 2,MT.ex ((.agg #[.bool false,.slice none 0 0] : Value))⟩,⟨b3,112,some 2,W m y⟩,⟨b2,112,some 2,W n x⟩] a _ _:=S.keep [0,2,9,10,11,12,13,14,15,16,17]
   refine S.store (τ:=WC n (sg (!((decide (x < 0)) == (decide (y < 0)))) ((x.natAbs) / (y.natAbs)))) 1 rfl rfl rfl rfl (S.e 8 rfl) tS_112 (S.g 1 rfl) (sh (τ:=WC n (sg (!((decide (x < 0)) == (decide (y < 0)))) ((x.natAbs) / (y.natAbs)))) (S.g 1 rfl)) fun w S=>?_
   replace S:=S.n1
   refine S.store (τ:=WC m (sg false ((x.natAbs) % (y.natAbs)))) 0 rfl rfl rfl rfl (S.e 7 rfl) tS_112 (S.g 0 rfl) (sh (τ:=WC m (sg false ((x.natAbs) % (y.natAbs)))) (S.g 0 rfl)) fun w S=>?_
   replace S:=S.n0
   replace S:=S.d6
   refine S.s (τ:=NT 0) (OpR.asn S.ok rfl (rfl : _ = nv .i64 0)) rfl fun a w G S=>?_
   refine wn hK ?_;clear hK K
   replace S:=S.d2.d1
   exact wp_ret (S.retCell3 (i:=1) (i2:=0) rfl (S.e 6 rfl) rfl tS_112 (S.e 5 rfl) rfl tS_112 (fun _ h=>(WC.eq h (by first | exact (qd1 hy0 (of_decide_eq_true ‹_›) (by omega)).1 | exact (qd2 hy0 (.inr (by omega))).1 | exact (qd2 hy0 (.inl (of_decide_eq_false ‹_›))).1))) (fun _ h=>(WC.eq h (by rw [if_neg hy0];first | exact (qd1 hy0 (of_decide_eq_true ‹_›) (by omega)).2 | exact (qd2 hy0 (.inr (by omega))).2 | exact (qd2 hy0 (.inl (of_decide_eq_false ‹_›))).2))) ((S.e 0 rfl).trans (iv_eq (if_neg hy0).symm)))
end Go.Proofs.YtpbkcbnghhodiaaGreat
namespace Go.Proofs.YtpbkcbnghhodiaaGreat
open Go.RowKit (Below)
def plainl (l : List Nat) : Bool:=l ≠ [] && canl l
section
variable {s : Bool} {p q l : List Nat} {n : Nat} {v : Value} {G : Gh} {x y : Rat}
theorem plainl_wok (h : ¬ l.length = 0) : plainl l = wok false l:=by
  rw [wok_f,if_neg (ne_of_len h)];unfold plainl;simp [ne_of_len h]
theorem plainl_last (h : 0 < l.length) : decide (dig l (l.length - 1) ≠ 0) = plainl l:=by
  rw [plainl_wok (by omega),← wok_last (s:=false) (by omega)]
theorem plainl_none (h : ¬ 0 < l.length) : false = plainl l:=by
  have : l = []:=List.length_eq_zero_iff.1 (by omega)
  subst this;rfl
theorem plainl_len (h : plainl l = true) : ¬ l.length = 0:=fun e=>by
  rw [List.length_eq_zero_iff.1 e] at h;simp [plainl] at h
theorem rqok_f1 (h0 : ¬ (p.length = 0 ∧ q.length = 0)) (h : plainl p = false) : false = qok s p q:=by
  by_cases e : p.length = 0
  · exact qok_f1 ⟨.inl e,h0⟩
  · exact qok_f2 (by rw [← plainl_wok e,h];rfl)
theorem rqok_f2 (h0 : ¬ (p.length = 0 ∧ q.length = 0)) (h : plainl q = false) : false = qok s p q:=by
  by_cases e : q.length = 0
  · exact qok_f1 ⟨.inr e,h0⟩
  · exact qok_f3 (by rw [← plainl_wok e,h];rfl)
theorem rqok_t (h1 : plainl p = true) (h2 : plainl q = true) : decide (cmpZ ((Nat.gcd (wval false p).natAbs (wval false q).natAbs : Nat) : Int) 1 = 0) = qok s p q:=by
  have a1:=plainl_len h1;have a2:=plainl_len h2
  exact qok_t a1 a2 (by rw [← plainl_wok a1,h1];rfl) (by rw [← plainl_wok a2,h2];rfl)
theorem abs_ediv_exact {a : Int} {g : Nat} (h : g ∣ a.natAbs) : (a / (g : Int)).natAbs = a.natAbs / g ∧ (g ≠ 0 → (a / (g : Int) < 0 ↔ a < 0)):=by
  obtain ⟨k,hk⟩:=h
  rcases Nat.eq_zero_or_pos g with h0 | h0
  · subst h0;simp at hk ⊢
  · rcases Int.natAbs_eq a with e | e
    · rw [hk] at e
      rw [hk,Nat.mul_div_cancel_left _ h0]
      have e2 : a / (g : Int) = (k : Int):=by rw [e];push_cast;rw [Int.mul_ediv_cancel_left _ (by omega)]
      rw [e2];exact ⟨by omega,fun _=>by omega⟩
    · rw [hk] at e
      rw [hk,Nat.mul_div_cancel_left _ h0]
      have e2 : a / (g : Int) = -(k : Int):=by
        rw [e];push_cast
        rw [show -((g : Int) * (k : Int)) = (g : Int) * -(k : Int) from by rw [Int.mul_neg],Int.mul_ediv_cancel_left _ (by omega)]
      rw [e2]
      refine ⟨by omega,fun _=>?_⟩
      rcases Nat.eq_zero_or_pos k with k0 | k0
      · subst k0;simp at e;omega
      · have : 0 < g * k:=Nat.mul_pos h0 k0
        omega
theorem QC.rform {a b X Y : Int} {m : Nat} {sn : Bool} (h : (QR sn (words (X / ((Nat.gcd X.natAbs Y.natAbs : Nat) : Int)).natAbs) (words (Y / ((Nat.gcd X.natAbs Y.natAbs : Nat) : Int)).natAbs)).t v G) (hsn : sn = decide (X / ((Nat.gcd X.natAbs Y.natAbs : Nat) : Int) < 0))
    (ha : a ≠ 0) (hb : b ≠ 0) (hX : X = if b < 0 then -a else a) (hY : Y = if b < 0 then -b else b) (hxl : a.natAbs < 2 ^ m) (hyl : b.natAbs < 2 ^ m) : (QC m (Rat.divInt a b)).t v G:=by
  have eX : X.natAbs = a.natAbs:=by rw [hX];split <;> omega
  have eY : Y.natAbs = b.natAbs:=by rw [hY];split <;> omega
  have hg0 : Nat.gcd X.natAbs Y.natAbs ≠ 0:=by
    rw [eX];intro e;have:=(Nat.gcd_eq_zero_iff.1 e).1;omega
  have hx:=abs_ediv_exact (a:=X) (g:=Nat.gcd X.natAbs Y.natAbs) (Nat.gcd_dvd_left _ _)
  have hy:=abs_ediv_exact (a:=Y) (g:=Nat.gcd X.natAbs Y.natAbs) (Nat.gcd_dvd_right _ _)
  have hneg : (Rat.divInt a b < 0) ↔ X < 0:=by rw [frac_neg ha hb,hX]
  rw [hx.1,hy.1] at h
  have e1:=frac_num (a:=a) (b:=b) hb
  have e2:=frac_den (a:=a) (b:=b) hb
  rw [← eX,← eY] at e1 e2
  have hne : Rat.divInt a b ≠ 0:=by
    intro e;have : (Rat.divInt a b).num.natAbs = 0:=by rw [e];rfl
    rw [e1] at this
    have hle:=Nat.le_of_dvd (show 0 < X.natAbs by omega) (Nat.gcd_dvd_left X.natAbs Y.natAbs)
    have:=Nat.div_pos hle (Nat.pos_of_ne_zero hg0);omega
  refine ⟨⟨?_,?_⟩,?_⟩
  · rw [e1,eX];exact Nat.lt_of_le_of_lt (Nat.div_le_self _ _) hxl
  · rw [e2,eY];exact Nat.lt_of_le_of_lt (Nat.div_le_self _ _) hyl
  · unfold dwords
    rw [if_neg hne,e1,e2]
    have e3 : decide (Rat.divInt a b < 0) = sn:=by
      rw [hsn,Bool.eq_iff_iff];simp only [decide_eq_true_eq];rw [hneg,hx.2 hg0]
    rw [e3];exact h
theorem rcmp_sub : (x - y).num.sign = cmpQ x y:=by
  have h : (x - y).num.sign = 0 ↔ x - y = 0:=by rw [Int.sign_eq_zero_iff_zero,Rat.num_eq_zero]
  unfold cmpQ
  rcases sgn_cases (x - y).num with ⟨h1,h2⟩ | ⟨h1,h2⟩ | ⟨h1,h2⟩
  · rw [h2,if_pos];have h3 : ¬ 0 ≤ x - y:=fun h=>by have:=Rat.num_nonneg.2 h;omega
    grind
  · have:=Rat.num_eq_zero.1 h1
    rw [h2,if_neg (by grind),if_neg (by grind)]
  · have h3 : ¬ x - y ≤ 0 := fun h => by
      have h4 : 0 ≤ -(x - y):=by grind
      have:=Rat.num_nonneg.2 h4;rw [Rat.neg_num] at this;omega
    rw [h2,if_neg (by grind),if_pos (by grind)]
end
end Go.Proofs.YtpbkcbnghhodiaaGreat
namespace Go.Proofs.YtpbkcbnghhodiaaGreat
set_option maxHeartbeats 1000000
set_option maxRecDepth 100000
open Go.RowKit (Below)
private theorem bt_112_1 : ∀ (A1 : Option Addr) (n1 c1 : Nat),Tryz.prog.built 112 [(1,.slice A1 n1 c1)] = some #[.bool false,.slice A1 n1 c1]:=fun A1 n1 c1=>by kernel_rfl
private theorem bt_24_ : Tryz.prog.built 24 [] = some #[.bool false,.slice none 0 0,.slice none 0 0]:=by kernel_rfl
private theorem bt_24_012 : ∀ (s0 : Bool) (A1 : Option Addr) (n1 c1 : Nat) (A2 : Option Addr) (n2 c2 : Nat),Tryz.prog.built 24 [(0,.bool s0),(1,.slice A1 n1 c1),(2,.slice A2 n2 c2)] = some #[.bool s0,.slice A1 n1 c1,.slice A2 n2 c2]:=fun s0 A1 n1 c1 A2 n2 c2=>by kernel_rfl
private theorem c_112 : callable Tryz.prog 112 = true:=by kernel_rfl
private theorem c_39 : callable Tryz.prog 39 = true:=by kernel_rfl
private theorem c_69 : callable Tryz.prog 69 = true:=by kernel_rfl
private theorem c_70 : callable Tryz.prog 70 = true:=by kernel_rfl
private theorem c_71 : callable Tryz.prog 71 = true:=by kernel_rfl
private theorem c_72 : callable Tryz.prog 72 = true:=by kernel_rfl
private theorem c_83 : callable Tryz.prog 83 = true:=by kernel_rfl
private theorem fo_24_0 : fldOff Tryz.prog 24 0 = some 0:=by kernel_rfl
private theorem fo_24_1 : fldOff Tryz.prog 24 1 = some 1:=by kernel_rfl
private theorem fo_24_2 : fldOff Tryz.prog 24 2 = some 2:=by kernel_rfl
private theorem tS_24 : tyS Tryz.prog 24 (some 3) = true:=by kernel_rfl
private theorem z_24 : (Tryz.prog.info? 24).bind (·.zero) = some (.agg #[.bool false,.slice none 0 0,.slice none 0 0]):=by kernel_rfl
private theorem zs_24 : Shaped (some 3) (.agg #[.bool false,.slice none 0 0,.slice none 0 0]):=⟨_,rfl,rfl,by simp [Value.oneCell']⟩
theorem rone_ok  {W0 : World} {G0 : Gh} (hok : Gok W0 G0)   : Calls Tryz.prog 72 #[] W0 (Ret W0 G0 (WC 64 1)):=by
 refine St.enter (N:=2) (L:=[]) (args:=[]) Tryz.func72 rfl rfl rfl hok (enter0 ) fun a S=>?_
 refine wp_reg fun K hK=>?_
 refine S.alloc rfl rfl rfl z_112 zs_112 rfl rfl fun b0 a w G S=>?_
 refine wn hK ?_;clear hK K
 refine wp_reg fun K hK=>?_
 refine S.s (τ:=WC 64 (((1 : Nat) : Int))) (OpR.call1 rfl c_83 (rOf_ok S.ok ((rfl : _ = nv .i64 1).trans (iv_eq (by first | rfl | omega | (simp only [Nat.zero_add,Nat.add_zero];done) | (simp;done) | (push_cast;omega)))) (by omega))) rfl fun a w G S=>?_
 refine S.store (τ:=WC 64 (((1 : Nat) : Int))) 0 rfl rfl rfl rfl (S.e 1 rfl) tS_112 (S.g 0 rfl) (sh (τ:=WC 64 (((1 : Nat) : Int))) (S.g 0 rfl)) fun w S=>?_
 replace S:=S.n0
 refine wn hK ?_;clear hK K
 replace S:=S.d0
 exact wp_ret (S.retCell (i:=0) rfl (S.e 0 rfl) rfl tS_112 (fun _ h=>(WC.eq h (by first | rfl | omega | (simp only [Nat.zero_add,Nat.add_zero];done) | (simp;done) | (push_cast;omega)))))
theorem fplain_ok {l : List Nat} {v1 : Value} {W0 : World} {G0 : Gh} (hok : Gok W0 G0) (h1 : (SL l).t v1 G0)  : Calls Tryz.prog 69 #[v1] W0 (Ret W0 G0 (BT (plainl l))):=by
 have hlim:=SL.lim h1
 simp only [LIM] at hlim
 refine St.enter (N:=15) (L:=[(0,SL l)]) (args:=[v1]) Tryz.func69 rfl rfl rfl hok (enter1 h1) fun a S=>?_
 refine wp_reg fun K hK=>?_
 refine S.s (τ:=BT false) (OpR.asn S.ok rfl rfl) rfl fun a w G S=>?_
 refine wn hK ?_;clear hK K
 refine wp_reg fun K hK=>?_
 refine S.m rfl (S.g 1 rfl) rfl fun a w G S=>?_
 refine S.s (OpR.lenL S.ok rfl Tryz.underlying22 (S.g 0 rfl) MT.self) rfl fun a w G S=>?_
 refine S.s (OpR.ngtr S.ok rfl (S.e 0 rfl) (rfl : _ = nv .i64 0) MT.self) rfl fun a w G S=>?_
 refine S.m rfl (S.g 0 rfl) rfl fun a w G S=>?_
 rcases Bool.eq_false_or_eq_true (decide (0 < l.length)) with hc1 | hc1
 ·
  have hp2:=of_decide_eq_true hc1
  replace S:=S.boolIs 0 rfl hc1
  refine S.stepG 0 (OpR.mv S.ok rfl (S.g 6 rfl)) rfl rfl rfl rfl rfl rfl fun a w G S=>?_
  refine S.stepG 1 (OpR.mv S.ok rfl (S.g 7 rfl)) rfl rfl rfl rfl rfl rfl fun a w G S=>?_
  refine S.stepG 2 (OpR.lenL S.ok rfl Tryz.underlying22 (S.g 0 rfl) MT.self) rfl rfl rfl rfl rfl rfl fun a w G S=>?_
  refine S.stepG 3 (OpR.nsub S.ok rfl (S.e 0 rfl) (rfl : _ = nv .i64 1) (by omega) (wr_i64 (by omega)) MT.self) rfl rfl rfl rfl rfl rfl fun a w G S=>?_
  refine S.stepG (τ:=PE (none) (MT.ex (nv .u32 (dig (l) (l.length - 1))))) 4 (OpR.ixL (i:=l.length - 1) S.ok rfl Tryz.underlying22 tS_141 (S.g 3 rfl) (S.e 0 rfl) rfl (dig_get (by first | omega | (simp;omega)))) rfl rfl rfl rfl rfl rfl fun a w G S=>?_
  refine S.stepG 5 (OpR.ldE S.ok rfl tS_141 (S.g 0 rfl)) rfl rfl rfl rfl rfl rfl fun a w G S=>?_
  refine S.stepG 6 (OpR.nneq S.ok rfl (S.e 0 rfl) (rfl : _ = nv .u32 0) MT.self) rfl rfl rfl rfl rfl rfl fun a w G S=>?_
  refine S.s (τ:=BT (decide ((dig (l) (l.length - 1)) ≠ 0))) (OpR.pick S.ok rfl (S.e 7 rfl) (S.g 0 rfl)) rfl fun a w G S=>?_
  replace S:=S.d13
  refine S.q rfl (S.g 0 rfl) rfl fun a w G S=>?_
  refine wn hK ?_;clear hK K
  replace S:=S.d14.d13.d12.d11.d10.d9.d8.d7.d6.d5.d4.d3.d2.d1
  exact wp_ret (S.retTmp rfl ((S.e 0 rfl).trans (bv_eq (by first | exact plainl_last (by omega) | exact plainl_none (by omega)))))
 ·
  have hp3:=of_decide_eq_false hc1
  replace S:=S.boolIs 0 rfl hc1
  refine S.skipG 0 rfl rfl rfl rfl rfl rfl fun a w G S=>?_
  refine S.skipG 1 rfl rfl rfl rfl rfl rfl fun a w G S=>?_
  refine S.skipG 2 rfl rfl rfl rfl rfl rfl fun a w G S=>?_
  refine S.skipG 3 rfl rfl rfl rfl rfl rfl fun a w G S=>?_
  refine S.skipG 4 rfl rfl rfl rfl rfl rfl fun a w G S=>?_
  refine S.skipG 5 rfl rfl rfl rfl rfl rfl fun a w G S=>?_
  refine S.skipG 6 rfl rfl rfl rfl rfl rfl fun a w G S=>?_
  refine S.s (τ:=BT false) (OpR.pick S.ok rfl (S.e 7 rfl) rfl) rfl fun a w G S=>?_
  replace S:=S.d13
  refine S.q rfl (S.g 0 rfl) rfl fun a w G S=>?_
  refine wn hK ?_;clear hK K
  replace S:=S.d14.d13.d12.d11.d10.d9.d8.d7.d6.d5.d4.d3.d2.d1
  exact wp_ret (S.retTmp rfl ((S.e 0 rfl).trans (bv_eq (by first | exact plainl_last (by omega) | exact plainl_none (by omega)))))
theorem gValid_ok {s : Bool} {p q : List Nat} {n : Nat} {v1 : Value} {W0 : World} {G0 : Gh} (hok : Gok W0 G0) (h1 : (QR s p q).t v1 G0) (hpl : val p < 2 ^ n) (hql : val q < 2 ^ n) (hn : n ≤ BIG) : Calls Tryz.prog 39 #[v1] W0 (Ret W0 G0 (BT (qok s p q))):=by
 have hlim:=QR.lim h1
 simp only [LIM] at hlim
 have hB64 : 64 ≤ BIG:=by decide
 refine St.enter (N:=36) (L:=[(0,QR s p q)]) (args:=[v1]) Tryz.func39 rfl rfl rfl hok (enter1 h1) fun a S=>?_
 refine wp_reg fun K hK=>?_
 refine S.boxop (x:=.tmp 0) (τ:=QR s p q) (S.g 0 rfl) (sh (τ:=QR s p q) (S.g 0 rfl)) rfl rfl rfl rfl rfl fun b1 a w G S=>?_
 refine S.s (τ:=BT false) (OpR.asn S.ok rfl rfl) rfl fun a w G S=>?_
 refine wn hK ?_;clear hK K
 replace S:=S.d2
 refine wp_seq_k fun K hK=>?_
 refine wp_reg fun K hK=>?_
 refine S.s (τ:=MT.ex (Value.pointer (some ⟨b1,1,none⟩))) (OpR.fldA S.ok rfl (S.e 1 rfl) fo_24_1 rfl) rfl fun a w G S=>?_
 refine S.s (OpR.ldCell S.ok rfl (S.e 0 rfl) (S.box 0 rfl) tS_22 fun _ h hs=>QR.f1 h hs) rfl fun a w G S=>?_
 refine S.s (OpR.lenL S.ok rfl Tryz.underlying22 (S.g 0 rfl) MT.self) rfl fun a w G S=>?_
 refine S.s (OpR.neql S.ok rfl (S.e 0 rfl) (rfl : _ = nv .i64 0) MT.self) rfl fun a w G S=>?_
 refine S.m rfl (S.g 0 rfl) rfl fun a w G S=>?_
 rcases Bool.eq_false_or_eq_true (decide (p.length = 0)) with hc1 | hc1
 ·
  have hp2:=of_decide_eq_true hc1
  replace S:=S.boolIs 0 rfl hc1
  refine S.stepG (τ:=MT.ex (Value.pointer (some ⟨b1,2,none⟩))) 0 (OpR.fldA S.ok rfl (S.e 7 rfl) fo_24_2 rfl) rfl rfl rfl rfl rfl rfl fun a w G S=>?_
  refine S.stepG 1 (OpR.ldCell S.ok rfl (S.e 0 rfl) (S.box 0 rfl) tS_22 fun _ h hs=>QR.f2 h hs) rfl rfl rfl rfl rfl rfl fun a w G S=>?_
  refine S.stepG 2 (OpR.lenL S.ok rfl Tryz.underlying22 (S.g 0 rfl) MT.self) rfl rfl rfl rfl rfl rfl fun a w G S=>?_
  refine S.stepG 3 (OpR.neql S.ok rfl (S.e 0 rfl) (rfl : _ = nv .i64 0) MT.self) rfl rfl rfl rfl rfl rfl fun a w G S=>?_
  refine S.s (τ:=BT (decide (q.length = 0))) (OpR.pick S.ok rfl (S.e 4 rfl) (S.g 0 rfl)) rfl fun a w G S=>?_
  refine wn hK ?_;clear hK K
  replace S:=S.d10.d9.d8.d7.d6.d5.d4.d3.d2.d1
  refine S.cond 0 rfl (fun hc3=>?_) (fun hc3=>?_)
  ·
   have hp4:=of_decide_eq_true hc3
   refine wp_reg fun K hK=>?_
   refine S.s (τ:=PB b1) (OpR.fldA S.ok rfl (S.e 2 rfl) fo_24_0 rfl) rfl fun a w G S=>?_
   refine S.s (OpR.ldCell S.ok rfl (S.e 0 rfl) (S.box 0 rfl) tS_4 fun _ h hs=>QR.f0 h hs) rfl fun a w G S=>?_
   refine S.s (OpR.bnot S.ok rfl (S.e 0 rfl) MT.self) rfl fun a w G S=>?_
   replace S:=S.d4
   refine S.q rfl (S.g 0 rfl) rfl fun a w G S=>?_
   refine wn hK ?_;clear hK K
   replace S:=S.d3.d2.d1
   exact wp_ret (then_ret (S.retTmp rfl ((S.e 0 rfl).trans (bv_eq (by first | exact qok_nil (by omega) (by omega) | exact rqok_f1 (by omega) ‹_› | exact rqok_f2 (by omega) ‹_› | exact rqok_t ‹_› ‹_›)))))
  ·
   have hp5:=of_decide_eq_false hc3
   refine wp_skip ?_
   refine hK _ _ ?_;clear hK K
   refine wp_reg fun K hK=>?_
   refine S.s (τ:=MT.ex (Value.pointer (some ⟨b1,1,none⟩))) (OpR.fldA S.ok rfl (S.e 2 rfl) fo_24_1 rfl) rfl fun a w G S=>?_
   refine S.s (OpR.ldCell S.ok rfl (S.e 0 rfl) (S.box 0 rfl) tS_22 fun _ h hs=>QR.f1 h hs) rfl fun a w G S=>?_
   refine S.s (τ:=BT (plainl p)) (OpR.call1 rfl c_69 (fplain_ok S.ok (S.g 0 rfl))) rfl fun a w G S=>?_
   refine S.m rfl (S.g 0 rfl) rfl fun a w G S=>?_
   rcases Bool.eq_false_or_eq_true (plainl p) with hc6 | hc6
   ·
    replace S:=S.boolIs 0 rfl hc6
    refine S.stepG (τ:=MT.ex (Value.pointer (some ⟨b1,2,none⟩))) 0 (OpR.fldA S.ok rfl (S.e 7 rfl) fo_24_2 rfl) rfl rfl rfl rfl rfl rfl fun a w G S=>?_
    refine S.stepG 1 (OpR.ldCell S.ok rfl (S.e 0 rfl) (S.box 0 rfl) tS_22 fun _ h hs=>QR.f2 h hs) rfl rfl rfl rfl rfl rfl fun a w G S=>?_
    refine S.stepG (τ:=BT (plainl q)) 2 (OpR.call1 rfl c_69 (fplain_ok S.ok (S.g 0 rfl))) rfl rfl rfl rfl rfl rfl fun a w G S=>?_
    refine S.s (τ:=BT (plainl q)) (OpR.pick S.ok rfl (S.e 3 rfl) (S.g 0 rfl)) rfl fun a w G S=>?_
    refine S.m rfl (S.g 0 rfl) rfl fun a w G S=>?_
    rcases Bool.eq_false_or_eq_true (plainl q) with hc8 | hc8
    ·
     replace S:=S.boolIs 0 rfl hc8
     refine S.stepG (τ:=MT.ex (Value.pointer (some ⟨b1,1,none⟩))) 0 (OpR.fldA S.ok rfl (S.e 13 rfl) fo_24_1 rfl) rfl rfl rfl rfl rfl rfl fun a w G S=>?_
     refine S.stepG 1 (OpR.ldCell S.ok rfl (S.e 0 rfl) (S.box 0 rfl) tS_22 fun _ h hs=>QR.f1 h hs) rfl rfl rfl rfl rfl rfl fun a w G S=>?_
     refine S.stepG (τ:=WR false p) 2 (OpR.bW1 S.ok rfl bt_112_1 (S.g 0 rfl)) rfl rfl rfl rfl rfl rfl fun a w G S=>?_
     refine S.stepG (τ:=MT.ex (Value.pointer (some ⟨b1,2,none⟩))) 3 (OpR.fldA S.ok rfl (S.e 16 rfl) fo_24_2 rfl) rfl rfl rfl rfl rfl rfl fun a w G S=>?_
     refine S.stepG 4 (OpR.ldCell S.ok rfl (S.e 0 rfl) (S.box 0 rfl) tS_22 fun _ h hs=>QR.f2 h hs) rfl rfl rfl rfl rfl rfl fun a w G S=>?_
     refine S.stepG (τ:=WR false q) 5 (OpR.bW1 S.ok rfl bt_112_1 (S.g 0 rfl)) rfl rfl rfl rfl rfl rfl fun a w G S=>?_
     refine S.stepG (τ:=WC (max n n) ((Nat.gcd (wval false p).natAbs (wval false q).natAbs : Nat) : Int)) 6 (OpR.call2 rfl c_71 (rGcd_ok S.ok (WR.toW (S.g 3 rfl) ⟨rfl,Nat.lt_of_le_of_lt wval_abs_le hpl⟩) (WR.toW (S.g 0 rfl) ⟨rfl,Nat.lt_of_le_of_lt wval_abs_le hql⟩) (by omega) (by omega))) rfl rfl rfl rfl rfl rfl fun a w G S=>?_
     refine S.stepG (τ:=WC 64 1) 7 (OpR.call0 rfl c_72 (rone_ok S.ok )) rfl rfl rfl rfl rfl rfl fun a w G S=>?_
     refine S.stepG (τ:=IT (cmpZ (((Nat.gcd (wval false p).natAbs (wval false q).natAbs : Nat) : Int)) 1)) 8 (OpR.call2 rfl c_70 (rCmp_ok S.ok (WC.toW (S.g 1 rfl)) (WC.toW (S.g 0 rfl)) (by omega) (by omega))) rfl rfl rfl rfl rfl rfl fun a w G S=>?_
     refine S.stepG 9 (OpR.zeql S.ok rfl (S.e 0 rfl) (rfl : _ = nv .i64 0) MT.self) rfl rfl rfl rfl rfl rfl fun a w G S=>?_
     refine S.s (τ:=BT (decide ((cmpZ (((Nat.gcd (wval false p).natAbs (wval false q).natAbs : Nat) : Int)) 1) = 0))) (OpR.pick S.ok rfl (S.e 10 rfl) (S.g 0 rfl)) rfl fun a w G S=>?_
     replace S:=S.d23
     refine S.q rfl (S.g 0 rfl) rfl fun a w G S=>?_
     refine wn hK ?_;clear hK K
     replace S:=S.d22.d21.d20.d19.d18.d17.d16.d15.d14.d13.d12.d11.d10.d9.d8.d7.d6.d5.d4.d3.d2.d1
     exact wp_ret (S.retTmp rfl ((S.e 0 rfl).trans (bv_eq (by first | exact qok_nil (by omega) (by omega) | exact rqok_f1 (by omega) ‹_› | exact rqok_f2 (by omega) ‹_› | exact rqok_t ‹_› ‹_›))))
    ·
     replace S:=S.boolIs 0 rfl hc8
     refine S.skipG 0 rfl rfl rfl rfl rfl rfl fun a w G S=>?_
     refine S.skipG 1 rfl rfl rfl rfl rfl rfl fun a w G S=>?_
     refine S.skipG 2 rfl rfl rfl rfl rfl rfl fun a w G S=>?_
     refine S.skipG 3 rfl rfl rfl rfl rfl rfl fun a w G S=>?_
     refine S.skipG 4 rfl rfl rfl rfl rfl rfl fun a w G S=>?_
     refine S.skipG 5 rfl rfl rfl rfl rfl rfl fun a w G S=>?_
     refine S.skipG 6 rfl rfl rfl rfl rfl rfl fun a w G S=>?_
     refine S.skipG 7 rfl rfl rfl rfl rfl rfl fun a w G S=>?_
     refine S.skipG 8 rfl rfl rfl rfl rfl rfl fun a w G S=>?_
     refine S.skipG 9 rfl rfl rfl rfl rfl rfl fun a w G S=>?_
     refine S.s (τ:=BT false) (OpR.pick S.ok rfl (S.e 10 rfl) rfl) rfl fun a w G S=>?_
     replace S:=S.d23
     refine S.q rfl (S.g 0 rfl) rfl fun a w G S=>?_
     refine wn hK ?_;clear hK K
     replace S:=S.d22.d21.d20.d19.d18.d17.d16.d15.d14.d13.d12.d11.d10.d9.d8.d7.d6.d5.d4.d3.d2.d1
     exact wp_ret (S.retTmp rfl ((S.e 0 rfl).trans (bv_eq (by first | exact qok_nil (by omega) (by omega) | exact rqok_f1 (by omega) ‹_› | exact rqok_f2 (by omega) ‹_› | exact rqok_t ‹_› ‹_›))))
   ·
    replace S:=S.boolIs 0 rfl hc6
    refine S.skipG 0 rfl rfl rfl rfl rfl rfl fun a w G S=>?_
    refine S.skipG 1 rfl rfl rfl rfl rfl rfl fun a w G S=>?_
    refine S.skipG 2 rfl rfl rfl rfl rfl rfl fun a w G S=>?_
    refine S.s (τ:=BT false) (OpR.pick S.ok rfl (S.e 3 rfl) rfl) rfl fun a w G S=>?_
    refine S.m rfl (S.g 0 rfl) rfl fun a w G S=>?_
    refine S.skipG 0 rfl rfl rfl rfl rfl rfl fun a w G S=>?_
    refine S.skipG 1 rfl rfl rfl rfl rfl rfl fun a w G S=>?_
    refine S.skipG 2 rfl rfl rfl rfl rfl rfl fun a w G S=>?_
    refine S.skipG 3 rfl rfl rfl rfl rfl rfl fun a w G S=>?_
    refine S.skipG 4 rfl rfl rfl rfl rfl rfl fun a w G S=>?_
    refine S.skipG 5 rfl rfl rfl rfl rfl rfl fun a w G S=>?_
    refine S.skipG 6 rfl rfl rfl rfl rfl rfl fun a w G S=>?_
    refine S.skipG 7 rfl rfl rfl rfl rfl rfl fun a w G S=>?_
    refine S.skipG 8 rfl rfl rfl rfl rfl rfl fun a w G S=>?_
    refine S.skipG 9 rfl rfl rfl rfl rfl rfl fun a w G S=>?_
    refine S.s (τ:=BT false) (OpR.pick S.ok rfl (S.e 10 rfl) rfl) rfl fun a w G S=>?_
    replace S:=S.d22
    refine S.q rfl (S.g 0 rfl) rfl fun a w G S=>?_
    refine wn hK ?_;clear hK K
    replace S:=S.d21.d20.d19.d18.d17.d16.d15.d14.d13.d12.d11.d10.d9.d8.d7.d6.d5.d4.d3.d2.d1
    exact wp_ret (S.retTmp rfl ((S.e 0 rfl).trans (bv_eq (by first | exact qok_nil (by omega) (by omega) | exact rqok_f1 (by omega) ‹_› | exact rqok_f2 (by omega) ‹_› | exact rqok_t ‹_› ‹_›))))
 ·
  have hp12:=of_decide_eq_false hc1
  replace S:=S.boolIs 0 rfl hc1
  refine S.skipG 0 rfl rfl rfl rfl rfl rfl fun a w G S=>?_
  refine S.skipG 1 rfl rfl rfl rfl rfl rfl fun a w G S=>?_
  refine S.skipG 2 rfl rfl rfl rfl rfl rfl fun a w G S=>?_
  refine S.skipG 3 rfl rfl rfl rfl rfl rfl fun a w G S=>?_
  refine S.s (τ:=BT false) (OpR.pick S.ok rfl (S.e 4 rfl) rfl) rfl fun a w G S=>?_
  refine wn hK ?_;clear hK K
  replace S:=S.d10.d9.d8.d7.d6.d5.d4.d3.d2.d1
  refine wp_cond_false (S.e 0 rfl) ?_
  refine wp_skip ?_
  refine hK _ _ ?_;clear hK K
  refine wp_reg fun K hK=>?_
  refine S.s (τ:=MT.ex (Value.pointer (some ⟨b1,1,none⟩))) (OpR.fldA S.ok rfl (S.e 2 rfl) fo_24_1 rfl) rfl fun a w G S=>?_
  refine S.s (OpR.ldCell S.ok rfl (S.e 0 rfl) (S.box 0 rfl) tS_22 fun _ h hs=>QR.f1 h hs) rfl fun a w G S=>?_
  refine S.s (τ:=BT (plainl p)) (OpR.call1 rfl c_69 (fplain_ok S.ok (S.g 0 rfl))) rfl fun a w G S=>?_
  refine S.m rfl (S.g 0 rfl) rfl fun a w G S=>?_
  rcases Bool.eq_false_or_eq_true (plainl p) with hc13 | hc13
  ·
   replace S:=S.boolIs 0 rfl hc13
   refine S.stepG (τ:=MT.ex (Value.pointer (some ⟨b1,2,none⟩))) 0 (OpR.fldA S.ok rfl (S.e 7 rfl) fo_24_2 rfl) rfl rfl rfl rfl rfl rfl fun a w G S=>?_
   refine S.stepG 1 (OpR.ldCell S.ok rfl (S.e 0 rfl) (S.box 0 rfl) tS_22 fun _ h hs=>QR.f2 h hs) rfl rfl rfl rfl rfl rfl fun a w G S=>?_
   refine S.stepG (τ:=BT (plainl q)) 2 (OpR.call1 rfl c_69 (fplain_ok S.ok (S.g 0 rfl))) rfl rfl rfl rfl rfl rfl fun a w G S=>?_
   refine S.s (τ:=BT (plainl q)) (OpR.pick S.ok rfl (S.e 3 rfl) (S.g 0 rfl)) rfl fun a w G S=>?_
   refine S.m rfl (S.g 0 rfl) rfl fun a w G S=>?_
   rcases Bool.eq_false_or_eq_true (plainl q) with hc15 | hc15
   ·
    replace S:=S.boolIs 0 rfl hc15
    refine S.stepG (τ:=MT.ex (Value.pointer (some ⟨b1,1,none⟩))) 0 (OpR.fldA S.ok rfl (S.e 13 rfl) fo_24_1 rfl) rfl rfl rfl rfl rfl rfl fun a w G S=>?_
    refine S.stepG 1 (OpR.ldCell S.ok rfl (S.e 0 rfl) (S.box 0 rfl) tS_22 fun _ h hs=>QR.f1 h hs) rfl rfl rfl rfl rfl rfl fun a w G S=>?_
    refine S.stepG (τ:=WR false p) 2 (OpR.bW1 S.ok rfl bt_112_1 (S.g 0 rfl)) rfl rfl rfl rfl rfl rfl fun a w G S=>?_
    refine S.stepG (τ:=MT.ex (Value.pointer (some ⟨b1,2,none⟩))) 3 (OpR.fldA S.ok rfl (S.e 16 rfl) fo_24_2 rfl) rfl rfl rfl rfl rfl rfl fun a w G S=>?_
    refine S.stepG 4 (OpR.ldCell S.ok rfl (S.e 0 rfl) (S.box 0 rfl) tS_22 fun _ h hs=>QR.f2 h hs) rfl rfl rfl rfl rfl rfl fun a w G S=>?_
    refine S.stepG (τ:=WR false q) 5 (OpR.bW1 S.ok rfl bt_112_1 (S.g 0 rfl)) rfl rfl rfl rfl rfl rfl fun a w G S=>?_
    refine S.stepG (τ:=WC (max n n) ((Nat.gcd (wval false p).natAbs (wval false q).natAbs : Nat) : Int)) 6 (OpR.call2 rfl c_71 (rGcd_ok S.ok (WR.toW (S.g 3 rfl) ⟨rfl,Nat.lt_of_le_of_lt wval_abs_le hpl⟩) (WR.toW (S.g 0 rfl) ⟨rfl,Nat.lt_of_le_of_lt wval_abs_le hql⟩) (by omega) (by omega))) rfl rfl rfl rfl rfl rfl fun a w G S=>?_
    refine S.stepG (τ:=WC 64 1) 7 (OpR.call0 rfl c_72 (rone_ok S.ok )) rfl rfl rfl rfl rfl rfl fun a w G S=>?_
    refine S.stepG (τ:=IT (cmpZ (((Nat.gcd (wval false p).natAbs (wval false q).natAbs : Nat) : Int)) 1)) 8 (OpR.call2 rfl c_70 (rCmp_ok S.ok (WC.toW (S.g 1 rfl)) (WC.toW (S.g 0 rfl)) (by omega) (by omega))) rfl rfl rfl rfl rfl rfl fun a w G S=>?_
    refine S.stepG 9 (OpR.zeql S.ok rfl (S.e 0 rfl) (rfl : _ = nv .i64 0) MT.self) rfl rfl rfl rfl rfl rfl fun a w G S=>?_
    refine S.s (τ:=BT (decide ((cmpZ (((Nat.gcd (wval false p).natAbs (wval false q).natAbs : Nat) : Int)) 1) = 0))) (OpR.pick S.ok rfl (S.e 10 rfl) (S.g 0 rfl)) rfl fun a w G S=>?_
    replace S:=S.d23
    refine S.q rfl (S.g 0 rfl) rfl fun a w G S=>?_
    refine wn hK ?_;clear hK K
    replace S:=S.d22.d21.d20.d19.d18.d17.d16.d15.d14.d13.d12.d11.d10.d9.d8.d7.d6.d5.d4.d3.d2.d1
    exact wp_ret (S.retTmp rfl ((S.e 0 rfl).trans (bv_eq (by first | exact qok_nil (by omega) (by omega) | exact rqok_f1 (by omega) ‹_› | exact rqok_f2 (by omega) ‹_› | exact rqok_t ‹_› ‹_›))))
   ·
    replace S:=S.boolIs 0 rfl hc15
    refine S.skipG 0 rfl rfl rfl rfl rfl rfl fun a w G S=>?_
    refine S.skipG 1 rfl rfl rfl rfl rfl rfl fun a w G S=>?_
    refine S.skipG 2 rfl rfl rfl rfl rfl rfl fun a w G S=>?_
    refine S.skipG 3 rfl rfl rfl rfl rfl rfl fun a w G S=>?_
    refine S.skipG 4 rfl rfl rfl rfl rfl rfl fun a w G S=>?_
    refine S.skipG 5 rfl rfl rfl rfl rfl rfl fun a w G S=>?_
    refine S.skipG 6 rfl rfl rfl rfl rfl rfl fun a w G S=>?_
    refine S.skipG 7 rfl rfl rfl rfl rfl rfl fun a w G S=>?_
    refine S.skipG 8 rfl rfl rfl rfl rfl rfl fun a w G S=>?_
    refine S.skipG 9 rfl rfl rfl rfl rfl rfl fun a w G S=>?_
    refine S.s (τ:=BT false) (OpR.pick S.ok rfl (S.e 10 rfl) rfl) rfl fun a w G S=>?_
    replace S:=S.d23
    refine S.q rfl (S.g 0 rfl) rfl fun a w G S=>?_
    refine wn hK ?_;clear hK K
    replace S:=S.d22.d21.d20.d19.d18.d17.d16.d15.d14.d13.d12.d11.d10.d9.d8.d7.d6.d5.d4.d3.d2.d1
    exact wp_ret (S.retTmp rfl ((S.e 0 rfl).trans (bv_eq (by first | exact qok_nil (by omega) (by omega) | exact rqok_f1 (by omega) ‹_› | exact rqok_f2 (by omega) ‹_› | exact rqok_t ‹_› ‹_›))))
  ·
   replace S:=S.boolIs 0 rfl hc13
   refine S.skipG 0 rfl rfl rfl rfl rfl rfl fun a w G S=>?_
   refine S.skipG 1 rfl rfl rfl rfl rfl rfl fun a w G S=>?_
   refine S.skipG 2 rfl rfl rfl rfl rfl rfl fun a w G S=>?_
   refine S.s (τ:=BT false) (OpR.pick S.ok rfl (S.e 3 rfl) rfl) rfl fun a w G S=>?_
   refine S.m rfl (S.g 0 rfl) rfl fun a w G S=>?_
   refine S.skipG 0 rfl rfl rfl rfl rfl rfl fun a w G S=>?_
   refine S.skipG 1 rfl rfl rfl rfl rfl rfl fun a w G S=>?_
   refine S.skipG 2 rfl rfl rfl rfl rfl rfl fun a w G S=>?_
   refine S.skipG 3 rfl rfl rfl rfl rfl rfl fun a w G S=>?_
   refine S.skipG 4 rfl rfl rfl rfl rfl rfl fun a w G S=>?_
   refine S.skipG 5 rfl rfl rfl rfl rfl rfl fun a w G S=>?_
   refine S.skipG 6 rfl rfl rfl rfl rfl rfl fun a w G S=>?_
   refine S.skipG 7 rfl rfl rfl rfl rfl rfl fun a w G S=>?_
   refine S.skipG 8 rfl rfl rfl rfl rfl rfl fun a w G S=>?_
   refine S.skipG 9 rfl rfl rfl rfl rfl rfl fun a w G S=>?_
   refine S.s (τ:=BT false) (OpR.pick S.ok rfl (S.e 10 rfl) rfl) rfl fun a w G S=>?_
   replace S:=S.d22
   refine S.q rfl (S.g 0 rfl) rfl fun a w G S=>?_
   refine wn hK ?_;clear hK K
   replace S:=S.d21.d20.d19.d18.d17.d16.d15.d14.d13.d12.d11.d10.d9.d8.d7.d6.d5.d4.d3.d2.d1
   exact wp_ret (S.retTmp rfl ((S.e 0 rfl).trans (bv_eq (by first | exact qok_nil (by omega) (by omega) | exact rqok_f1 (by omega) ‹_› | exact rqok_f2 (by omega) ‹_› | exact rqok_t ‹_› ‹_›))))
theorem gParts_ok {n : Nat} {x : Rat} {v1 : Value} {W0 : World} {G0 : Gh} (hok : Gok W0 G0) (h1 : (QV n x).t v1 G0) (hn : n ≤ BIG) : Calls Tryz.prog 60 #[v1] W0 (Ret W0 G0 (MT.tup2 (WC n x.num) (WC n ((x.den : Nat) : Int)))):=by
 obtain ⟨h1n,s,p,q,hv,hpl,hql,h1⟩:=h1
 have hwf:=QR.wf h1
 have hlim:=QR.lim h1
 simp only [LIM] at hlim
 refine St.enter (N:=23) (L:=[(0,QR s p q)]) (args:=[v1]) Tryz.func60 rfl rfl rfl hok (enter1 h1) fun a S=>?_
 refine wp_reg fun K hK=>?_
 refine S.boxop (x:=.tmp 0) (τ:=QR s p q) (S.g 0 rfl) (sh (τ:=QR s p q) (S.g 0 rfl)) rfl rfl rfl rfl rfl fun b1 a w G S=>?_
 refine S.alloc rfl rfl rfl z_112 zs_112 rfl rfl fun b2 a w G S=>?_
 refine S.alloc rfl rfl rfl z_112 zs_112 rfl rfl fun b3 a w G S=>?_
 refine wn hK ?_;clear hK K
 replace S:=S.d3
 refine wp_seq_k fun K hK=>?_
 refine wp_reg fun K hK=>?_
 refine S.s (OpR.ldBox S.ok rfl (S.e 2 rfl) (S.box 2 rfl) tS_24) rfl fun a w G S=>?_
 refine S.s (τ:=BT (qok s p q)) (OpR.call1 rfl c_39 (gValid_ok S.ok (S.g 0 rfl) hpl hql hn)) rfl fun a w G S=>?_
 refine S.s (OpR.bnot S.ok rfl (S.e 0 rfl) MT.self) rfl fun a w G S=>?_
 refine S.m rfl (S.g 0 rfl) rfl fun a w G S=>?_
 rcases Bool.eq_false_or_eq_true (!(qok s p q)) with hc1 | hc1
 ·
  replace S:=S.boolIs 0 rfl hc1
  refine S.skipG 0 rfl rfl rfl rfl rfl rfl fun a w G S=>?_
  refine S.skipG 1 rfl rfl rfl rfl rfl rfl fun a w G S=>?_
  refine S.skipG 2 rfl rfl rfl rfl rfl rfl fun a w G S=>?_
  refine S.skipG 3 rfl rfl rfl rfl rfl rfl fun a w G S=>?_
  refine S.s (τ:=BT true) (OpR.pick S.ok rfl (S.e 4 rfl) rfl) rfl fun a w G S=>?_
  refine wn hK ?_;clear hK K
  replace S:=S.d9.d8.d7.d6.d5.d4.d3.d2.d1
  refine wp_cond_true (S.e 0 rfl) ?_
  refine wp_reg fun K hK=>?_
  refine S.s (τ:=WR false ([])) (OpR.bW0 S.ok rfl bt_112_) rfl fun a w G S=>?_
  refine S.s (τ:=WC 64 1) (OpR.call0 rfl c_72 (rone_ok S.ok )) rfl fun a w G S=>?_
  refine S.store (τ:=WR false ([])) 1 rfl rfl rfl rfl (S.e 4 rfl) tS_112 (S.g 1 rfl) (sh (τ:=WR false ([])) (S.g 1 rfl)) fun w S=>?_
  replace S:=S.n1
  refine S.store (τ:=WC 64 1) 0 rfl rfl rfl rfl (S.e 3 rfl) tS_112 (S.g 0 rfl) (sh (τ:=WC 64 1) (S.g 0 rfl)) fun w S=>?_
  replace S:=S.n0
  refine wn hK ?_;clear hK K
  replace S:=S.d1.d0
  exact wp_ret (then_ret (S.retCell2 (i:=1) (i2:=0) rfl (S.e 2 rfl) rfl tS_112 (S.e 1 rfl) rfl tS_112 (fun _ h=>(by first | exact part_num h hwf hv (not_false_of ‹_›) ‹_› hpl | exact WR.zero h (by rw [← hv,qval_not (not_true_of ‹_›)];rfl) | exact WR.zero h (by rw [← hv,qval_nil ‹_›];rfl))) (fun _ h=>(by first | exact part_den h hwf hv (not_false_of ‹_›) ‹_› hql | exact WC.cast h (by rw [← hv,qval_not (not_true_of ‹_›)];rfl) (by rw [← hv,qval_not (not_true_of ‹_›)];exact one_lt_pow h1n) | exact WC.cast h (by rw [← hv,qval_nil ‹_›];rfl) (by rw [← hv,qval_nil ‹_›];exact one_lt_pow h1n)))))
 ·
  replace S:=S.boolIs 0 rfl hc1
  refine S.stepG (τ:=MT.ex (Value.pointer (some ⟨b1,1,none⟩))) 0 (OpR.fldA S.ok rfl (S.e 7 rfl) fo_24_1 rfl) rfl rfl rfl rfl rfl rfl fun a w G S=>?_
  refine S.stepG 1 (OpR.ldCell S.ok rfl (S.e 0 rfl) (S.box 2 rfl) tS_22 fun _ h hs=>QR.f1 h hs) rfl rfl rfl rfl rfl rfl fun a w G S=>?_
  refine S.stepG 2 (OpR.lenL S.ok rfl Tryz.underlying22 (S.g 0 rfl) MT.self) rfl rfl rfl rfl rfl rfl fun a w G S=>?_
  refine S.stepG 3 (OpR.neql S.ok rfl (S.e 0 rfl) (rfl : _ = nv .i64 0) MT.self) rfl rfl rfl rfl rfl rfl fun a w G S=>?_
  refine S.s (τ:=BT (decide (p.length = 0))) (OpR.pick S.ok rfl (S.e 4 rfl) (S.g 0 rfl)) rfl fun a w G S=>?_
  refine wn hK ?_;clear hK K
  replace S:=S.d9.d8.d7.d6.d5.d4.d3.d2.d1
  refine S.cond 0 rfl (fun hc4=>?_) (fun hc4=>?_)
  ·
   have hp5:=of_decide_eq_true hc4
   refine wp_reg fun K hK=>?_
   refine S.s (τ:=WR false ([])) (OpR.bW0 S.ok rfl bt_112_) rfl fun a w G S=>?_
   refine S.s (τ:=WC 64 1) (OpR.call0 rfl c_72 (rone_ok S.ok )) rfl fun a w G S=>?_
   refine S.store (τ:=WR false ([])) 1 rfl rfl rfl rfl (S.e 4 rfl) tS_112 (S.g 1 rfl) (sh (τ:=WR false ([])) (S.g 1 rfl)) fun w S=>?_
   replace S:=S.n1
   refine S.store (τ:=WC 64 1) 0 rfl rfl rfl rfl (S.e 3 rfl) tS_112 (S.g 0 rfl) (sh (τ:=WC 64 1) (S.g 0 rfl)) fun w S=>?_
   replace S:=S.n0
   refine wn hK ?_;clear hK K
   replace S:=S.d1.d0
   exact wp_ret (then_ret (S.retCell2 (i:=1) (i2:=0) rfl (S.e 2 rfl) rfl tS_112 (S.e 1 rfl) rfl tS_112 (fun _ h=>(by first | exact part_num h hwf hv (not_false_of ‹_›) ‹_› hpl | exact WR.zero h (by rw [← hv,qval_not (not_true_of ‹_›)];rfl) | exact WR.zero h (by rw [← hv,qval_nil ‹_›];rfl))) (fun _ h=>(by first | exact part_den h hwf hv (not_false_of ‹_›) ‹_› hql | exact WC.cast h (by rw [← hv,qval_not (not_true_of ‹_›)];rfl) (by rw [← hv,qval_not (not_true_of ‹_›)];exact one_lt_pow h1n) | exact WC.cast h (by rw [← hv,qval_nil ‹_›];rfl) (by rw [← hv,qval_nil ‹_›];exact one_lt_pow h1n)))))
  ·
   have hp6:=of_decide_eq_false hc4
   refine wp_skip ?_
   refine hK _ _ ?_;clear hK K
   refine wp_seq_k fun K hK=>?_
   refine S.drawnS [⟨15,.g (PB b1),[]⟩,⟨16,.g (BT s),[0]⟩,⟨17,.g (MT.ex (Value.pointer (some ⟨b1,1,none⟩))),[]⟩,⟨18,.g (SL p),[2]⟩,⟨19,.g (WR s p),[1,3]⟩,⟨20,.g (MT.ex (Value.pointer (some ⟨b1,2,none⟩))),[]⟩,⟨21,.g (SL q),[5]⟩,⟨22,.g (WR false q),[6]⟩,⟨9998,.st 1 (WR s p),[4]⟩,⟨9998,.st 0 (WR false q),[7]⟩] mixedOrders (by kernel_rfl)
    ⟨⟨rfl,fun a w G S=>.of rfl (OpR.fldA S.ok rfl (S.e 3 rfl) fo_24_0 rfl)⟩,
     ⟨rfl,fun a w G S=>have S:=S.boxes (B':=[⟨b3,112,some 2,MT.ex ((.agg #[.bool false,.slice none 0 0] : Value))⟩,⟨b2,112,some 2,MT.ex ((.agg #[.bool false,.slice none 0 0] : Value))⟩,⟨b1,24,some 3,QR s p q⟩]) (by kernel_rfl);OpG.of rfl (OpR.ldCell S.ok rfl (S.e 0 rfl) (S.box 2 rfl) tS_4 fun _ h hs=>QR.f0 h hs)⟩,
     ⟨rfl,fun a w G S=>.of rfl (OpR.fldA S.ok rfl (S.e 3 rfl) fo_24_1 rfl)⟩,
     ⟨rfl,fun a w G S=>have S:=S.boxes (B':=[⟨b3,112,some 2,MT.ex ((.agg #[.bool false,.slice none 0 0] : Value))⟩,⟨b2,112,some 2,MT.ex ((.agg #[.bool false,.slice none 0 0] : Value))⟩,⟨b1,24,some 3,QR s p q⟩]) (by kernel_rfl);OpG.of rfl (OpR.ldCell S.ok rfl (S.e 0 rfl) (S.box 2 rfl) tS_22 fun _ h hs=>QR.f1 h hs)⟩,
     ⟨rfl,fun a w G S=>.of rfl (OpR.bWR S.ok rfl bt_112_01 (S.e 0 rfl) (S.g 1 rfl))⟩,
     ⟨rfl,fun a w G S=>.of rfl (OpR.fldA S.ok rfl (S.e 3 rfl) fo_24_2 rfl)⟩,
     ⟨rfl,fun a w G S=>have S:=S.boxes (B':=[⟨b3,112,some 2,MT.ex ((.agg #[.bool false,.slice none 0 0] : Value))⟩,⟨b2,112,some 2,ANY⟩,⟨b1,24,some 3,QR s p q⟩]) (by kernel_rfl);OpG.of rfl (OpR.ldCell S.ok rfl (S.e 0 rfl) (S.box 2 rfl) tS_22 fun _ h hs=>QR.f2 h hs)⟩,
     ⟨rfl,fun a w G S=>.of rfl (OpR.bW1 S.ok rfl bt_112_1 (S.g 0 rfl))⟩,
     ⟨rfl,rfl,rfl,.inl ⟨_,_,_,_,rfl,tS_112,fun a w G S=>⟨(S.g 0 rfl),sh (τ:=WR s p) (S.g 0 rfl)⟩,by rw [if_pos (by simp only [List.length_cons,List.length_nil];omega)];exact ⟨rfl,fun a w G S=>congrArg some (S.e 3 rfl).symm⟩⟩⟩,
     ⟨rfl,rfl,rfl,.inl ⟨_,_,_,_,rfl,tS_112,fun a w G S=>⟨(S.g 0 rfl),sh (τ:=WR false q) (S.g 0 rfl)⟩,by rw [if_pos (by simp only [List.length_cons,List.length_nil];omega)];exact ⟨rfl,fun a w G S=>congrArg some (S.e 2 rfl).symm⟩⟩⟩,trivial⟩ fun β a w G S=>?_
   replace S : St W0 G0 23 [(12,BT (decide (p.length = 0))),(3,PB b3),(2,PB b2),(1,PB b1)] [⟨b3,112,some 2,WR false q⟩,⟨b2,112,some 2,WR s p⟩,⟨b1,24,some 3,QR s p q⟩] a _ _:=S.keep [8,9,10,11]
   refine wn hK ?_;clear hK K
   exact wp_ret (S.retCell2 (i:=1) (i2:=0) rfl (S.e 2 rfl) rfl tS_112 (S.e 1 rfl) rfl tS_112 (fun _ h=>(by first | exact part_num h hwf hv (not_false_of ‹_›) ‹_› hpl | exact WR.zero h (by rw [← hv,qval_not (not_true_of ‹_›)];rfl) | exact WR.zero h (by rw [← hv,qval_nil ‹_›];rfl))) (fun _ h=>(by first | exact part_den h hwf hv (not_false_of ‹_›) ‹_› hql | exact WC.cast h (by rw [← hv,qval_not (not_true_of ‹_›)];rfl) (by rw [← hv,qval_not (not_true_of ‹_›)];exact one_lt_pow h1n) | exact WC.cast h (by rw [← hv,qval_nil ‹_›];rfl) (by rw [← hv,qval_nil ‹_›];exact one_lt_pow h1n))))
theorem gform_ok {n m : Nat} {x y : Int} {v1 v2 : Value} {W0 : World} {G0 : Gh} (hok : Gok W0 G0) (h1 : (W n x).t v1 G0) (h2 : (W m y).t v2 G0) (hy : y ≠ 0) (hna : n ≤ BIG) (hnb : m ≤ BIG) : Calls Tryz.prog 82 #[v1,v2] W0 (Ret W0 G0 (QC (max n m) (Rat.divInt x y))):=by
 have hxl : x.natAbs < 2 ^ max n m:=Nat.lt_of_lt_of_le (W.lt h1) (Nat.pow_le_pow_right (by decide) (by omega))
 have hyl : y.natAbs < 2 ^ max n m:=Nat.lt_of_lt_of_le (W.lt h2) (Nat.pow_le_pow_right (by decide) (by omega))
 have hm1:=one_le_of_lt (show y.natAbs ≠ 0 by omega) hyl
 refine St.enter (N:=47) (L:=[(1,W m y),(0,W n x)]) (args:=[v1,v2]) Tryz.func82 rfl rfl rfl hok (enter2 h1 h2) fun a S=>?_
 refine wp_reg fun K hK=>?_
 refine S.boxop (x:=.tmp 0) (τ:=W n x) (S.g 1 rfl) (sh (τ:=W n x) (S.g 1 rfl)) rfl rfl rfl rfl rfl fun b2 a w G S=>?_
 refine S.boxop (x:=.tmp 1) (τ:=W m y) (S.g 1 rfl) (sh (τ:=W m y) (S.g 1 rfl)) rfl rfl rfl rfl rfl fun b3 a w G S=>?_
 refine S.alloc rfl rfl rfl z_24 zs_24 rfl rfl fun b4 a w G S=>?_
 refine wn hK ?_;clear hK K
 replace S:=S.d4.d3
 refine wp_seq_k fun K hK=>?_
 refine wp_reg fun K hK=>?_
 refine S.s (OpR.ldBox S.ok rfl (S.e 2 rfl) (S.box 2 rfl) tS_112) rfl fun a w G S=>?_
 refine S.s (τ:=IT x.sign) (OpR.call1 rfl c_61 (rSign_ok S.ok (S.g 0 rfl))) rfl fun a w G S=>?_
 refine S.s (OpR.zeql S.ok rfl (S.e 0 rfl) (rfl : _ = nv .i64 0) MT.self) rfl fun a w G S=>?_
 refine wn hK ?_;clear hK K
 replace S:=S.d2.d1
 refine S.cond 0 rfl (fun hc1=>?_) (fun hc1=>?_)
 ·
  have hp2:=of_decide_eq_true hc1
  refine wp_reg fun K hK=>?_
  refine S.s (τ:=QR false ([]) ([])) (OpR.bQ0 S.ok rfl bt_24_) rfl fun a w G S=>?_
  refine S.store (τ:=QR false ([]) ([])) 0 rfl rfl rfl rfl (S.e 2 rfl) tS_24 (S.g 0 rfl) (sh (τ:=QR false ([]) ([])) (S.g 0 rfl)) fun w S=>?_
  replace S:=S.n0
  refine wn hK ?_;clear hK K
  replace S:=S.d0
  exact wp_ret (then_ret (S.retCell (i:=0) rfl (S.e 1 rfl) rfl tS_24 (fun _ h=>(QC.zero h (frac_zero ‹_›) hm1))))
 ·
  have hp3:=of_decide_eq_false hc1
  have hx0 : x ≠ 0:=fun e=>hp3 (by rw [e];rfl)
  refine wp_skip ?_
  refine hK _ _ ?_;clear hK K
  refine wp_seq_k fun K hK=>?_
  refine wp_reg fun K hK=>?_
  refine S.s (OpR.ldBox S.ok rfl (S.e 2 rfl) (S.box 1 rfl) tS_112) rfl fun a w G S=>?_
  refine S.s (τ:=IT y.sign) (OpR.call1 rfl c_61 (rSign_ok S.ok (S.g 0 rfl))) rfl fun a w G S=>?_
  refine S.s (OpR.ilss S.ok rfl (S.e 0 rfl) (rfl : _ = nv .i64 0) MT.self) rfl fun a w G S=>?_
  refine wn hK ?_;clear hK K
  replace S:=S.d2.d1
  refine S.cond 0 rfl (fun hc4=>?_) (fun hc4=>?_)
  ·
   have hp5:=of_decide_eq_true hc4
   have hys : y < 0:=by have:=sgn_cases (y);omega
   refine S.drawn [⟨19,.g (W n x),[]⟩,⟨20,.g (WC n (-x)),[0]⟩,⟨21,.g (W m y),[]⟩,⟨22,.g (WC m (-y)),[2]⟩] mixedOrders (by kernel_rfl)
    ⟨fun a w G S=>.of rfl (OpR.ldBox S.ok rfl (S.e 4 rfl) (S.box 2 rfl) tS_112),
     fun a w G S=>.of rfl (OpR.call1 rfl c_111 (rNeg_ok S.ok (S.g 0 rfl))),
     fun a w G S=>.of rfl (OpR.ldBox S.ok rfl (S.e 3 rfl) (S.box 1 rfl) tS_112),
     fun a w G S=>.of rfl (OpR.call1 rfl c_111 (rNeg_ok S.ok (S.g 0 rfl))),trivial⟩ fun β a w G S=>?_
   replace S : St W0 G0 47 [(22,WC m (-y)),(20,WC n (-x)),(18,BT (decide (y.sign < 0))),(14,BT (decide (x.sign = 0))),(4,PB b4),(3,PB b3),(2,PB b2)] [⟨b4,24,some 3,MT.ex ((.agg #[.bool false,.slice none 0 0,.slice none 0 0] : Value))⟩,⟨b3,112,some 2,W m y⟩,⟨b2,112,some 2,W n x⟩] a _ _:=S.keep [0,2,4,5,6,7,8]
   refine S.store (τ:=WC n (-x)) 2 rfl rfl rfl rfl (S.e 6 rfl) tS_112 (S.g 1 rfl) (sh (τ:=WC n (-x)) (S.g 1 rfl)) fun w S=>?_
   replace S:=S.n2
   refine S.store (τ:=WC m (-y)) 1 rfl rfl rfl rfl (S.e 5 rfl) tS_112 (S.g 0 rfl) (sh (τ:=WC m (-y)) (S.g 0 rfl)) fun w S=>?_
   replace S:=S.n1
   refine wpList_nil ?_
   replace S:=S.d1.d0
   refine hK _ _ ?_;clear hK K
   refine wp_reg fun K hK=>?_
   refine S.s (OpR.ldBox S.ok rfl (S.e 4 rfl) (S.box 2 rfl) tS_112) rfl fun a w G S=>?_
   refine S.s (OpR.ldBox S.ok rfl (S.e 4 rfl) (S.box 1 rfl) tS_112) rfl fun a w G S=>?_
   refine S.s (τ:=WC (max n m) ((Nat.gcd (-x).natAbs (-y).natAbs : Nat) : Int)) (OpR.call2 rfl c_71 (rGcd_ok S.ok (WC.toW (S.g 1 rfl)) (WC.toW (S.g 0 rfl)) (by omega) (by omega))) rfl fun a w G S=>?_
   refine S.alloc rfl rfl rfl z_112 zs_112 rfl rfl fun b5 a w G S=>?_
   refine S.store (τ:=WC (max n m) ((Nat.gcd (-x).natAbs (-y).natAbs : Nat) : Int)) 0 rfl rfl rfl rfl (S.e 0 rfl) tS_112 (S.g 1 rfl) (sh (τ:=WC (max n m) ((Nat.gcd (-x).natAbs (-y).natAbs : Nat) : Int)) (S.g 1 rfl)) fun w S=>?_
   replace S:=S.n0
   refine wn hK ?_;clear hK K
   replace S:=S.d3.d2.d1
   refine wp_reg fun K hK=>?_
   refine S.s (OpR.ldBox S.ok rfl (S.e 5 rfl) (S.box 3 rfl) tS_112) rfl fun a w G S=>?_
   refine S.s (OpR.ldBox S.ok rfl (S.e 1 rfl) (S.box 0 rfl) tS_112) rfl fun a w G S=>?_
   refine S.s (τ:=MT.tup3 (WC n ((-x) / (((Nat.gcd (-x).natAbs (-y).natAbs : Nat) : Int)))) (WC (max n m) (if (((Nat.gcd (-x).natAbs (-y).natAbs : Nat) : Int)) = 0 then 0 else (-x) % (((Nat.gcd (-x).natAbs (-y).natAbs : Nat) : Int)))) (IT (if (((Nat.gcd (-x).natAbs (-y).natAbs : Nat) : Int)) = 0 then 8 else 0))) (OpR.call2 rfl c_112 (rDiv_ok S.ok (WC.toW (S.g 1 rfl)) (WC.toW (S.g 0 rfl)) (by omega) (by omega))) rfl fun a w G S=>?_
   refine S.m rfl (S.g 0 rfl) rfl fun a w G S=>?_
   refine S.s (OpR.ext3a S.ok rfl (S.g 0 rfl)) rfl fun a w G S=>?_
   refine S.s (OpR.ext3b S.ok rfl (S.g 1 rfl)) rfl fun a w G S=>?_
   refine S.s (OpR.ext3c S.ok rfl (S.g 2 rfl)) rfl fun a w G S=>?_
   refine S.alloc rfl rfl rfl z_112 zs_112 rfl rfl fun b6 a w G S=>?_
   refine S.alloc rfl rfl rfl z_112 zs_112 rfl rfl fun b7 a w G S=>?_
   refine S.store (τ:=WC n ((-x) / (((Nat.gcd (-x).natAbs (-y).natAbs : Nat) : Int)))) 1 rfl rfl rfl rfl (S.e 1 rfl) tS_112 (S.g 4 rfl) (sh (τ:=WC n ((-x) / (((Nat.gcd (-x).natAbs (-y).natAbs : Nat) : Int)))) (S.g 4 rfl)) fun w S=>?_
   replace S:=S.n1
   refine S.store (τ:=WC (max n m) (if (((Nat.gcd (-x).natAbs (-y).natAbs : Nat) : Int)) = 0 then 0 else (-x) % (((Nat.gcd (-x).natAbs (-y).natAbs : Nat) : Int)))) 0 rfl rfl rfl rfl (S.e 0 rfl) tS_112 (S.g 3 rfl) (sh (τ:=WC (max n m) (if (((Nat.gcd (-x).natAbs (-y).natAbs : Nat) : Int)) = 0 then 0 else (-x) % (((Nat.gcd (-x).natAbs (-y).natAbs : Nat) : Int)))) (S.g 3 rfl)) fun w S=>?_
   replace S:=S.n0
   refine S.q rfl (S.g 2 rfl) rfl fun a w G S=>?_
   refine wn hK ?_;clear hK K
   replace S:=S.d9.d8.d7.d6.d5.d4.d3.d1.d0
   refine wp_reg fun K hK=>?_
   refine S.s (OpR.ldBox S.ok rfl (S.e 5 rfl) (S.box 4 rfl) tS_112) rfl fun a w G S=>?_
   refine S.s (OpR.ldBox S.ok rfl (S.e 2 rfl) (S.box 2 rfl) tS_112) rfl fun a w G S=>?_
   refine S.s (τ:=MT.tup3 (WC m ((-y) / (((Nat.gcd (-x).natAbs (-y).natAbs : Nat) : Int)))) (WC (max n m) (if (((Nat.gcd (-x).natAbs (-y).natAbs : Nat) : Int)) = 0 then 0 else (-y) % (((Nat.gcd (-x).natAbs (-y).natAbs : Nat) : Int)))) (IT (if (((Nat.gcd (-x).natAbs (-y).natAbs : Nat) : Int)) = 0 then 8 else 0))) (OpR.call2 rfl c_112 (rDiv_ok S.ok (WC.toW (S.g 1 rfl)) (WC.toW (S.g 0 rfl)) (by omega) (by omega))) rfl fun a w G S=>?_
   refine S.m rfl (S.g 0 rfl) rfl fun a w G S=>?_
   refine S.s (OpR.ext3a S.ok rfl (S.g 0 rfl)) rfl fun a w G S=>?_
   refine S.s (OpR.ext3b S.ok rfl (S.g 1 rfl)) rfl fun a w G S=>?_
   refine S.s (OpR.ext3c S.ok rfl (S.g 2 rfl)) rfl fun a w G S=>?_
   refine S.alloc rfl rfl rfl z_112 zs_112 rfl rfl fun b9 a w G S=>?_
   refine S.alloc rfl rfl rfl z_112 zs_112 rfl rfl fun b10 a w G S=>?_
   refine S.store (τ:=WC m ((-y) / (((Nat.gcd (-x).natAbs (-y).natAbs : Nat) : Int)))) 1 rfl rfl rfl rfl (S.e 1 rfl) tS_112 (S.g 4 rfl) (sh (τ:=WC m ((-y) / (((Nat.gcd (-x).natAbs (-y).natAbs : Nat) : Int)))) (S.g 4 rfl)) fun w S=>?_
   replace S:=S.n1
   refine S.store (τ:=WC (max n m) (if (((Nat.gcd (-x).natAbs (-y).natAbs : Nat) : Int)) = 0 then 0 else (-y) % (((Nat.gcd (-x).natAbs (-y).natAbs : Nat) : Int)))) 0 rfl rfl rfl rfl (S.e 0 rfl) tS_112 (S.g 3 rfl) (sh (τ:=WC (max n m) (if (((Nat.gcd (-x).natAbs (-y).natAbs : Nat) : Int)) = 0 then 0 else (-y) % (((Nat.gcd (-x).natAbs (-y).natAbs : Nat) : Int)))) (S.g 3 rfl)) fun w S=>?_
   replace S:=S.n0
   refine S.q rfl (S.g 2 rfl) rfl fun a w G S=>?_
   refine wn hK ?_;clear hK K
   replace S:=S.d9.d8.d7.d6.d5.d4.d3.d1.d0
   refine wp_reg fun K hK=>?_
   refine S.s (τ:=PB b6) (OpR.fldA S.ok rfl (S.e 1 rfl) fo_112_0 rfl) rfl fun a w G S=>?_
   refine S.s (OpR.ldCell S.ok rfl (S.e 0 rfl) (S.box 3 rfl) tS_4 fun _ h hs=>WC.f0 h hs) rfl fun a w G S=>?_
   refine S.s (τ:=MT.ex (Value.pointer (some ⟨b6,1,none⟩))) (OpR.fldA S.ok rfl (S.e 3 rfl) fo_112_1 rfl) rfl fun a w G S=>?_
   refine S.s (OpR.ldCell S.ok rfl (S.e 0 rfl) (S.box 3 rfl) tS_22 fun _ h hs=>WC.f1 h hs) rfl fun a w G S=>?_
   refine S.s (τ:=MT.ex (Value.pointer (some ⟨b9,1,none⟩))) (OpR.fldA S.ok rfl (S.e 4 rfl) fo_112_1 rfl) rfl fun a w G S=>?_
   refine S.s (OpR.ldCell S.ok rfl (S.e 0 rfl) (S.box 1 rfl) tS_22 fun _ h hs=>WC.f1 h hs) rfl fun a w G S=>?_
   refine S.s (τ:=QR (decide (((-x) / (((Nat.gcd (-x).natAbs (-y).natAbs : Nat) : Int))) < 0)) (words ((-x) / (((Nat.gcd (-x).natAbs (-y).natAbs : Nat) : Int))).natAbs) (words ((-y) / (((Nat.gcd (-x).natAbs (-y).natAbs : Nat) : Int))).natAbs)) (OpR.bQR S.ok rfl bt_24_012 (S.e 4 rfl) (S.g 2 rfl) (S.g 0 rfl)) rfl fun a w G S=>?_
   refine S.store (τ:=QR (decide (((-x) / (((Nat.gcd (-x).natAbs (-y).natAbs : Nat) : Int))) < 0)) (words ((-x) / (((Nat.gcd (-x).natAbs (-y).natAbs : Nat) : Int))).natAbs) (words ((-y) / (((Nat.gcd (-x).natAbs (-y).natAbs : Nat) : Int))).natAbs)) 5 rfl rfl rfl rfl (S.e 12 rfl) tS_24 (S.g 0 rfl) (sh (τ:=QR (decide (((-x) / (((Nat.gcd (-x).natAbs (-y).natAbs : Nat) : Int))) < 0)) (words ((-x) / (((Nat.gcd (-x).natAbs (-y).natAbs : Nat) : Int))).natAbs) (words ((-y) / (((Nat.gcd (-x).natAbs (-y).natAbs : Nat) : Int))).natAbs)) (S.g 0 rfl)) fun w S=>?_
   replace S:=S.n5
   refine wn hK ?_;clear hK K
   replace S:=S.d6.d5.d4.d3.d2.d1.d0
   exact wp_ret (S.retCell (i:=5) rfl (S.e 5 rfl) rfl tS_24 (fun _ h=>(QC.rform h rfl hx0 hy (by rw [if_pos hys]) (by rw [if_pos hys]) hxl hyl)))
  ·
   have hp6:=of_decide_eq_false hc4
   have hys : ¬ y < 0:=by have:=sgn_cases (y);omega
   refine wp_skip ?_
   refine hK _ _ ?_;clear hK K
   refine wp_reg fun K hK=>?_
   refine S.s (OpR.ldBox S.ok rfl (S.e 4 rfl) (S.box 2 rfl) tS_112) rfl fun a w G S=>?_
   refine S.s (OpR.ldBox S.ok rfl (S.e 4 rfl) (S.box 1 rfl) tS_112) rfl fun a w G S=>?_
   refine S.s (τ:=WC (max n m) ((Nat.gcd x.natAbs y.natAbs : Nat) : Int)) (OpR.call2 rfl c_71 (rGcd_ok S.ok (S.g 1 rfl) (S.g 0 rfl) (by omega) (by omega))) rfl fun a w G S=>?_
   refine S.alloc rfl rfl rfl z_112 zs_112 rfl rfl fun b5 a w G S=>?_
   refine S.store (τ:=WC (max n m) ((Nat.gcd x.natAbs y.natAbs : Nat) : Int)) 0 rfl rfl rfl rfl (S.e 0 rfl) tS_112 (S.g 1 rfl) (sh (τ:=WC (max n m) ((Nat.gcd x.natAbs y.natAbs : Nat) : Int)) (S.g 1 rfl)) fun w S=>?_
   replace S:=S.n0
   refine wn hK ?_;clear hK K
   replace S:=S.d3.d2.d1
   refine wp_reg fun K hK=>?_
   refine S.s (OpR.ldBox S.ok rfl (S.e 5 rfl) (S.box 3 rfl) tS_112) rfl fun a w G S=>?_
   refine S.s (OpR.ldBox S.ok rfl (S.e 1 rfl) (S.box 0 rfl) tS_112) rfl fun a w G S=>?_
   refine S.s (τ:=MT.tup3 (WC n (x / (((Nat.gcd x.natAbs y.natAbs : Nat) : Int)))) (WC (max n m) (if (((Nat.gcd x.natAbs y.natAbs : Nat) : Int)) = 0 then 0 else x % (((Nat.gcd x.natAbs y.natAbs : Nat) : Int)))) (IT (if (((Nat.gcd x.natAbs y.natAbs : Nat) : Int)) = 0 then 8 else 0))) (OpR.call2 rfl c_112 (rDiv_ok S.ok (S.g 1 rfl) (WC.toW (S.g 0 rfl)) (by omega) (by omega))) rfl fun a w G S=>?_
   refine S.m rfl (S.g 0 rfl) rfl fun a w G S=>?_
   refine S.s (OpR.ext3a S.ok rfl (S.g 0 rfl)) rfl fun a w G S=>?_
   refine S.s (OpR.ext3b S.ok rfl (S.g 1 rfl)) rfl fun a w G S=>?_
   refine S.s (OpR.ext3c S.ok rfl (S.g 2 rfl)) rfl fun a w G S=>?_
   refine S.alloc rfl rfl rfl z_112 zs_112 rfl rfl fun b6 a w G S=>?_
   refine S.alloc rfl rfl rfl z_112 zs_112 rfl rfl fun b7 a w G S=>?_
   refine S.store (τ:=WC n (x / (((Nat.gcd x.natAbs y.natAbs : Nat) : Int)))) 1 rfl rfl rfl rfl (S.e 1 rfl) tS_112 (S.g 4 rfl) (sh (τ:=WC n (x / (((Nat.gcd x.natAbs y.natAbs : Nat) : Int)))) (S.g 4 rfl)) fun w S=>?_
   replace S:=S.n1
   refine S.store (τ:=WC (max n m) (if (((Nat.gcd x.natAbs y.natAbs : Nat) : Int)) = 0 then 0 else x % (((Nat.gcd x.natAbs y.natAbs : Nat) : Int)))) 0 rfl rfl rfl rfl (S.e 0 rfl) tS_112 (S.g 3 rfl) (sh (τ:=WC (max n m) (if (((Nat.gcd x.natAbs y.natAbs : Nat) : Int)) = 0 then 0 else x % (((Nat.gcd x.natAbs y.natAbs : Nat) : Int)))) (S.g 3 rfl)) fun w S=>?_
   replace S:=S.n0
   refine S.q rfl (S.g 2 rfl) rfl fun a w G S=>?_
   refine wn hK ?_;clear hK K
   replace S:=S.d9.d8.d7.d6.d5.d4.d3.d1.d0
   refine wp_reg fun K hK=>?_
   refine S.s (OpR.ldBox S.ok rfl (S.e 5 rfl) (S.box 4 rfl) tS_112) rfl fun a w G S=>?_
   refine S.s (OpR.ldBox S.ok rfl (S.e 2 rfl) (S.box 2 rfl) tS_112) rfl fun a w G S=>?_
   refine S.s (τ:=MT.tup3 (WC m (y / (((Nat.gcd x.natAbs y.natAbs : Nat) : Int)))) (WC (max n m) (if (((Nat.gcd x.natAbs y.natAbs : Nat) : Int)) = 0 then 0 else y % (((Nat.gcd x.natAbs y.natAbs : Nat) : Int)))) (IT (if (((Nat.gcd x.natAbs y.natAbs : Nat) : Int)) = 0 then 8 else 0))) (OpR.call2 rfl c_112 (rDiv_ok S.ok (S.g 1 rfl) (WC.toW (S.g 0 rfl)) (by omega) (by omega))) rfl fun a w G S=>?_
   refine S.m rfl (S.g 0 rfl) rfl fun a w G S=>?_
   refine S.s (OpR.ext3a S.ok rfl (S.g 0 rfl)) rfl fun a w G S=>?_
   refine S.s (OpR.ext3b S.ok rfl (S.g 1 rfl)) rfl fun a w G S=>?_
   refine S.s (OpR.ext3c S.ok rfl (S.g 2 rfl)) rfl fun a w G S=>?_
   refine S.alloc rfl rfl rfl z_112 zs_112 rfl rfl fun b9 a w G S=>?_
   refine S.alloc rfl rfl rfl z_112 zs_112 rfl rfl fun b10 a w G S=>?_
   refine S.store (τ:=WC m (y / (((Nat.gcd x.natAbs y.natAbs : Nat) : Int)))) 1 rfl rfl rfl rfl (S.e 1 rfl) tS_112 (S.g 4 rfl) (sh (τ:=WC m (y / (((Nat.gcd x.natAbs y.natAbs : Nat) : Int)))) (S.g 4 rfl)) fun w S=>?_
   replace S:=S.n1
   refine S.store (τ:=WC (max n m) (if (((Nat.gcd x.natAbs y.natAbs : Nat) : Int)) = 0 then 0 else y % (((Nat.gcd x.natAbs y.natAbs : Nat) : Int)))) 0 rfl rfl rfl rfl (S.e 0 rfl) tS_112 (S.g 3 rfl) (sh (τ:=WC (max n m) (if (((Nat.gcd x.natAbs y.natAbs : Nat) : Int)) = 0 then 0 else y % (((Nat.gcd x.natAbs y.natAbs : Nat) : Int)))) (S.g 3 rfl)) fun w S=>?_
   replace S:=S.n0
   refine S.q rfl (S.g 2 rfl) rfl fun a w G S=>?_
   refine wn hK ?_;clear hK K
   replace S:=S.d9.d8.d7.d6.d5.d4.d3.d1.d0
   refine wp_reg fun K hK=>?_
   refine S.s (τ:=PB b6) (OpR.fldA S.ok rfl (S.e 1 rfl) fo_112_0 rfl) rfl fun a w G S=>?_
   refine S.s (OpR.ldCell S.ok rfl (S.e 0 rfl) (S.box 3 rfl) tS_4 fun _ h hs=>WC.f0 h hs) rfl fun a w G S=>?_
   refine S.s (τ:=MT.ex (Value.pointer (some ⟨b6,1,none⟩))) (OpR.fldA S.ok rfl (S.e 3 rfl) fo_112_1 rfl) rfl fun a w G S=>?_
   refine S.s (OpR.ldCell S.ok rfl (S.e 0 rfl) (S.box 3 rfl) tS_22 fun _ h hs=>WC.f1 h hs) rfl fun a w G S=>?_
   refine S.s (τ:=MT.ex (Value.pointer (some ⟨b9,1,none⟩))) (OpR.fldA S.ok rfl (S.e 4 rfl) fo_112_1 rfl) rfl fun a w G S=>?_
   refine S.s (OpR.ldCell S.ok rfl (S.e 0 rfl) (S.box 1 rfl) tS_22 fun _ h hs=>WC.f1 h hs) rfl fun a w G S=>?_
   refine S.s (τ:=QR (decide ((x / (((Nat.gcd x.natAbs y.natAbs : Nat) : Int))) < 0)) (words (x / (((Nat.gcd x.natAbs y.natAbs : Nat) : Int))).natAbs) (words (y / (((Nat.gcd x.natAbs y.natAbs : Nat) : Int))).natAbs)) (OpR.bQR S.ok rfl bt_24_012 (S.e 4 rfl) (S.g 2 rfl) (S.g 0 rfl)) rfl fun a w G S=>?_
   refine S.store (τ:=QR (decide ((x / (((Nat.gcd x.natAbs y.natAbs : Nat) : Int))) < 0)) (words (x / (((Nat.gcd x.natAbs y.natAbs : Nat) : Int))).natAbs) (words (y / (((Nat.gcd x.natAbs y.natAbs : Nat) : Int))).natAbs)) 5 rfl rfl rfl rfl (S.e 12 rfl) tS_24 (S.g 0 rfl) (sh (τ:=QR (decide ((x / (((Nat.gcd x.natAbs y.natAbs : Nat) : Int))) < 0)) (words (x / (((Nat.gcd x.natAbs y.natAbs : Nat) : Int))).natAbs) (words (y / (((Nat.gcd x.natAbs y.natAbs : Nat) : Int))).natAbs)) (S.g 0 rfl)) fun w S=>?_
   replace S:=S.n5
   refine wn hK ?_;clear hK K
   replace S:=S.d6.d5.d4.d3.d2.d1.d0
   exact wp_ret (S.retCell (i:=5) rfl (S.e 5 rfl) rfl tS_24 (fun _ h=>(QC.rform h rfl hx0 hy (by rw [if_neg hys]) (by rw [if_neg hys]) hxl hyl)))
end Go.Proofs.YtpbkcbnghhodiaaGreat
namespace Go.Proofs.YtpbkcbnghhodiaaGreat
set_option maxHeartbeats 1000000
set_option maxRecDepth 100000
open Go.RowKit (Below)
private theorem c_30 : callable Tryz.prog 30 = true:=by kernel_rfl
private theorem c_56 : callable Tryz.prog 56 = true:=by kernel_rfl
private theorem c_57 : callable Tryz.prog 57 = true:=by kernel_rfl
private theorem c_60 : callable Tryz.prog 60 = true:=by kernel_rfl
private theorem c_82 : callable Tryz.prog 82 = true:=by kernel_rfl
private theorem c_88 : callable Tryz.prog 88 = true:=by kernel_rfl
private theorem c_90 : callable Tryz.prog 90 = true:=by kernel_rfl
theorem gMul_ok {n m : Nat} {x y : Rat} {v1 v2 : Value} {W0 : World} {G0 : Gh} (hok : Gok W0 G0) (h1 : (QV n x).t v1 G0) (h2 : (QV m y).t v2 G0) (hn : n + m ≤ BIG) : Calls Tryz.prog 59 #[v1,v2] W0 (Ret W0 G0 (QC (n + m) (x * y))):=by
 refine St.enter (N:=26) (L:=[(1,QV m y),(0,QV n x)]) (args:=[v1,v2]) Tryz.func59 rfl rfl rfl hok (enter2 h1 h2) fun a S=>?_
 refine wp_reg fun K hK=>?_
 refine S.boxop (x:=.tmp 0) (τ:=QV n x) (S.g 1 rfl) (sh (τ:=QV n x) (S.g 1 rfl)) rfl rfl rfl rfl rfl fun b2 a w G S=>?_
 refine S.boxop (x:=.tmp 1) (τ:=QV m y) (S.g 1 rfl) (sh (τ:=QV m y) (S.g 1 rfl)) rfl rfl rfl rfl rfl fun b3 a w G S=>?_
 refine S.alloc rfl rfl rfl z_24 zs_24 rfl rfl fun b4 a w G S=>?_
 refine wn hK ?_;clear hK K
 replace S:=S.d4.d3
 refine wp_reg fun K hK=>?_
 refine S.s (OpR.ldBox S.ok rfl (S.e 2 rfl) (S.box 2 rfl) tS_24) rfl fun a w G S=>?_
 refine S.s (τ:=MT.tup2 (WC n x.num) (WC n ((x.den : Nat) : Int))) (OpR.call1 rfl c_60 (gParts_ok S.ok (S.g 0 rfl) (by omega))) rfl fun a w G S=>?_
 refine S.m rfl (S.g 0 rfl) rfl fun a w G S=>?_
 refine S.s (OpR.ext2a S.ok rfl (S.g 0 rfl)) rfl fun a w G S=>?_
 refine S.s (OpR.ext2b S.ok rfl (S.g 1 rfl)) rfl fun a w G S=>?_
 refine S.alloc rfl rfl rfl z_112 zs_112 rfl rfl fun b5 a w G S=>?_
 refine S.alloc rfl rfl rfl z_112 zs_112 rfl rfl fun b6 a w G S=>?_
 refine S.store (τ:=WC n x.num) 1 rfl rfl rfl rfl (S.e 1 rfl) tS_112 (S.g 3 rfl) (sh (τ:=WC n x.num) (S.g 3 rfl)) fun w S=>?_
 replace S:=S.n1
 refine S.store (τ:=WC n ((x.den : Nat) : Int)) 0 rfl rfl rfl rfl (S.e 0 rfl) tS_112 (S.g 2 rfl) (sh (τ:=WC n ((x.den : Nat) : Int)) (S.g 2 rfl)) fun w S=>?_
 replace S:=S.n0
 refine wn hK ?_;clear hK K
 replace S:=S.d9.d6.d5.d4.d3.d2
 refine wp_reg fun K hK=>?_
 refine S.s (OpR.ldBox S.ok rfl (S.e 3 rfl) (S.box 3 rfl) tS_24) rfl fun a w G S=>?_
 refine S.s (τ:=MT.tup2 (WC m y.num) (WC m ((y.den : Nat) : Int))) (OpR.call1 rfl c_60 (gParts_ok S.ok (S.g 0 rfl) (by omega))) rfl fun a w G S=>?_
 refine S.m rfl (S.g 0 rfl) rfl fun a w G S=>?_
 refine S.s (OpR.ext2a S.ok rfl (S.g 0 rfl)) rfl fun a w G S=>?_
 refine S.s (OpR.ext2b S.ok rfl (S.g 1 rfl)) rfl fun a w G S=>?_
 refine S.alloc rfl rfl rfl z_112 zs_112 rfl rfl fun b7 a w G S=>?_
 refine S.alloc rfl rfl rfl z_112 zs_112 rfl rfl fun b8 a w G S=>?_
 refine S.store (τ:=WC m y.num) 1 rfl rfl rfl rfl (S.e 1 rfl) tS_112 (S.g 3 rfl) (sh (τ:=WC m y.num) (S.g 3 rfl)) fun w S=>?_
 replace S:=S.n1
 refine S.store (τ:=WC m ((y.den : Nat) : Int)) 0 rfl rfl rfl rfl (S.e 0 rfl) tS_112 (S.g 2 rfl) (sh (τ:=WC m ((y.den : Nat) : Int)) (S.g 2 rfl)) fun w S=>?_
 replace S:=S.n0
 refine wn hK ?_;clear hK K
 replace S:=S.d10.d6.d5.d4.d3.d2
 refine wp_seq_k fun K hK=>?_
 refine S.drawn [⟨19,.g (WC n x.num),[]⟩,⟨20,.g (WC m y.num),[]⟩,⟨21,.g (WC (n + m) ((x.num) * (y.num))),[0,1]⟩,⟨22,.g (WC n ((x.den : Nat) : Int)),[]⟩,⟨23,.g (WC m ((y.den : Nat) : Int)),[]⟩,⟨24,.g (WC (n + m) ((((x.den : Nat) : Int)) * (((y.den : Nat) : Int)))),[3,4]⟩,⟨25,.g (QC (max (n + m) (n + m)) (Rat.divInt ((x.num) * (y.num)) ((((x.den : Nat) : Int)) * (((y.den : Nat) : Int))))),[2,5]⟩] mixedOrders (by kernel_rfl)
  ⟨fun a w G S=>.of rfl (OpR.ldBox S.ok rfl (S.e 3 rfl) (S.box 3 rfl) tS_112),
   fun a w G S=>.of rfl (OpR.ldBox S.ok rfl (S.e 1 rfl) (S.box 1 rfl) tS_112),
   fun a w G S=>.of rfl (OpR.call2 rfl c_90 (rMul_ok S.ok (WC.toW (S.g 0 rfl)) (WC.toW (S.g 1 rfl)) (by omega))),
   fun a w G S=>.of rfl (OpR.ldBox S.ok rfl (S.e 2 rfl) (S.box 2 rfl) tS_112),
   fun a w G S=>.of rfl (OpR.ldBox S.ok rfl (S.e 0 rfl) (S.box 0 rfl) tS_112),
   fun a w G S=>.of rfl (OpR.call2 rfl c_90 (rMul_ok S.ok (WC.toW (S.g 0 rfl)) (WC.toW (S.g 1 rfl)) (by omega))),
   fun a w G S=>.of rfl (OpR.call2 rfl c_82 (gform_ok S.ok (WC.toW (S.g 0 rfl)) (WC.toW (S.g 1 rfl)) (Int.mul_ne_zero (den_ne x) (den_ne y)) (by omega) (by omega))),trivial⟩ fun β a w G S=>?_
 replace S : St W0 G0 26 [(25,QC (max (n + m) (n + m)) (Rat.divInt ((x.num) * (y.num)) ((((x.den : Nat) : Int)) * (((y.den : Nat) : Int))))),(8,PB b8),(7,PB b7),(6,PB b6),(5,PB b5),(4,PB b4)] [⟨b8,112,some 2,WC m ((y.den : Nat) : Int)⟩,⟨b7,112,some 2,WC m y.num⟩,⟨b6,112,some 2,WC n ((x.den : Nat) : Int)⟩,⟨b5,112,some 2,WC n x.num⟩,⟨b4,24,some 3,MT.ex ((.agg #[.bool false,.slice none 0 0,.slice none 0 0] : Value))⟩,⟨b3,24,some 3,QV m y⟩,⟨b2,24,some 3,QV n x⟩] a _ _:=S.keep [0,7,8,9,10,11]
 refine S.store (τ:=QC (max (n + m) (n + m)) (Rat.divInt ((x.num) * (y.num)) ((((x.den : Nat) : Int)) * (((y.den : Nat) : Int))))) 4 rfl rfl rfl rfl (S.e 5 rfl) tS_24 (S.g 0 rfl) (sh (τ:=QC (max (n + m) (n + m)) (Rat.divInt ((x.num) * (y.num)) ((((x.den : Nat) : Int)) * (((y.den : Nat) : Int))))) (S.g 0 rfl)) fun w S=>?_
 replace S:=S.n4
 refine wn hK ?_;clear hK K
 replace S:=S.d0
 exact wp_ret (S.retCell (i:=4) rfl (S.e 4 rfl) rfl tS_24 (fun _ h=>(QC.eq (QC.up h (by omega)) frac_mul)))
theorem gAdd_ok {n m : Nat} {x y : Rat} {v1 v2 : Value} {W0 : World} {G0 : Gh} (hok : Gok W0 G0) (h1 : (QV n x).t v1 G0) (h2 : (QV m y).t v2 G0) (hn : n + m + 1 ≤ BIG) : Calls Tryz.prog 57 #[v1,v2] W0 (Ret W0 G0 (QC (n + m + 1) (x + y))):=by
 refine St.enter (N:=30) (L:=[(1,QV m y),(0,QV n x)]) (args:=[v1,v2]) Tryz.func57 rfl rfl rfl hok (enter2 h1 h2) fun a S=>?_
 refine wp_reg fun K hK=>?_
 refine S.boxop (x:=.tmp 0) (τ:=QV n x) (S.g 1 rfl) (sh (τ:=QV n x) (S.g 1 rfl)) rfl rfl rfl rfl rfl fun b2 a w G S=>?_
 refine S.boxop (x:=.tmp 1) (τ:=QV m y) (S.g 1 rfl) (sh (τ:=QV m y) (S.g 1 rfl)) rfl rfl rfl rfl rfl fun b3 a w G S=>?_
 refine S.alloc rfl rfl rfl z_24 zs_24 rfl rfl fun b4 a w G S=>?_
 refine wn hK ?_;clear hK K
 replace S:=S.d4.d3
 refine wp_reg fun K hK=>?_
 refine S.s (OpR.ldBox S.ok rfl (S.e 2 rfl) (S.box 2 rfl) tS_24) rfl fun a w G S=>?_
 refine S.s (τ:=MT.tup2 (WC n x.num) (WC n ((x.den : Nat) : Int))) (OpR.call1 rfl c_60 (gParts_ok S.ok (S.g 0 rfl) (by omega))) rfl fun a w G S=>?_
 refine S.m rfl (S.g 0 rfl) rfl fun a w G S=>?_
 refine S.s (OpR.ext2a S.ok rfl (S.g 0 rfl)) rfl fun a w G S=>?_
 refine S.s (OpR.ext2b S.ok rfl (S.g 1 rfl)) rfl fun a w G S=>?_
 refine S.alloc rfl rfl rfl z_112 zs_112 rfl rfl fun b5 a w G S=>?_
 refine S.alloc rfl rfl rfl z_112 zs_112 rfl rfl fun b6 a w G S=>?_
 refine S.store (τ:=WC n x.num) 1 rfl rfl rfl rfl (S.e 1 rfl) tS_112 (S.g 3 rfl) (sh (τ:=WC n x.num) (S.g 3 rfl)) fun w S=>?_
 replace S:=S.n1
 refine S.store (τ:=WC n ((x.den : Nat) : Int)) 0 rfl rfl rfl rfl (S.e 0 rfl) tS_112 (S.g 2 rfl) (sh (τ:=WC n ((x.den : Nat) : Int)) (S.g 2 rfl)) fun w S=>?_
 replace S:=S.n0
 refine wn hK ?_;clear hK K
 replace S:=S.d9.d6.d5.d4.d3.d2
 refine wp_reg fun K hK=>?_
 refine S.s (OpR.ldBox S.ok rfl (S.e 3 rfl) (S.box 3 rfl) tS_24) rfl fun a w G S=>?_
 refine S.s (τ:=MT.tup2 (WC m y.num) (WC m ((y.den : Nat) : Int))) (OpR.call1 rfl c_60 (gParts_ok S.ok (S.g 0 rfl) (by omega))) rfl fun a w G S=>?_
 refine S.m rfl (S.g 0 rfl) rfl fun a w G S=>?_
 refine S.s (OpR.ext2a S.ok rfl (S.g 0 rfl)) rfl fun a w G S=>?_
 refine S.s (OpR.ext2b S.ok rfl (S.g 1 rfl)) rfl fun a w G S=>?_
 refine S.alloc rfl rfl rfl z_112 zs_112 rfl rfl fun b7 a w G S=>?_
 refine S.alloc rfl rfl rfl z_112 zs_112 rfl rfl fun b8 a w G S=>?_
 refine S.store (τ:=WC m y.num) 1 rfl rfl rfl rfl (S.e 1 rfl) tS_112 (S.g 3 rfl) (sh (τ:=WC m y.num) (S.g 3 rfl)) fun w S=>?_
 replace S:=S.n1
 refine S.store (τ:=WC m ((y.den : Nat) : Int)) 0 rfl rfl rfl rfl (S.e 0 rfl) tS_112 (S.g 2 rfl) (sh (τ:=WC m ((y.den : Nat) : Int)) (S.g 2 rfl)) fun w S=>?_
 replace S:=S.n0
 refine wn hK ?_;clear hK K
 replace S:=S.d10.d6.d5.d4.d3.d2
 refine wp_seq_k fun K hK=>?_
 refine S.drawn [⟨19,.g (WC n x.num),[]⟩,⟨20,.g (WC m ((y.den : Nat) : Int)),[]⟩,⟨21,.g (WC (n + m) ((x.num) * (((y.den : Nat) : Int)))),[0,1]⟩,⟨22,.g (WC m y.num),[]⟩,⟨23,.g (WC n ((x.den : Nat) : Int)),[]⟩,⟨24,.g (WC (m + n) ((y.num) * (((x.den : Nat) : Int)))),[3,4]⟩,⟨25,.g (WC (max (n + m) (m + n) + 1) (((x.num) * (((y.den : Nat) : Int))) + ((y.num) * (((x.den : Nat) : Int))))),[2,5]⟩,⟨26,.g (WC n ((x.den : Nat) : Int)),[]⟩,⟨27,.g (WC m ((y.den : Nat) : Int)),[]⟩,⟨28,.g (WC (n + m) ((((x.den : Nat) : Int)) * (((y.den : Nat) : Int)))),[7,8]⟩,⟨29,.g (QC (max (max (n + m) (m + n) + 1) (n + m)) (Rat.divInt (((x.num) * (((y.den : Nat) : Int))) + ((y.num) * (((x.den : Nat) : Int)))) ((((x.den : Nat) : Int)) * (((y.den : Nat) : Int))))),[6,9]⟩] mixedOrders (by kernel_rfl)
  ⟨fun a w G S=>.of rfl (OpR.ldBox S.ok rfl (S.e 3 rfl) (S.box 3 rfl) tS_112),
   fun a w G S=>.of rfl (OpR.ldBox S.ok rfl (S.e 0 rfl) (S.box 0 rfl) tS_112),
   fun a w G S=>.of rfl (OpR.call2 rfl c_90 (rMul_ok S.ok (WC.toW (S.g 0 rfl)) (WC.toW (S.g 1 rfl)) (by omega))),
   fun a w G S=>.of rfl (OpR.ldBox S.ok rfl (S.e 1 rfl) (S.box 1 rfl) tS_112),
   fun a w G S=>.of rfl (OpR.ldBox S.ok rfl (S.e 2 rfl) (S.box 2 rfl) tS_112),
   fun a w G S=>.of rfl (OpR.call2 rfl c_90 (rMul_ok S.ok (WC.toW (S.g 0 rfl)) (WC.toW (S.g 1 rfl)) (by omega))),
   fun a w G S=>.of rfl (OpR.call2 rfl c_89 (rAdd_ok S.ok (WC.toW (S.g 0 rfl)) (WC.toW (S.g 1 rfl)) (by omega) (by omega))),
   fun a w G S=>.of rfl (OpR.ldBox S.ok rfl (S.e 2 rfl) (S.box 2 rfl) tS_112),
   fun a w G S=>.of rfl (OpR.ldBox S.ok rfl (S.e 0 rfl) (S.box 0 rfl) tS_112),
   fun a w G S=>.of rfl (OpR.call2 rfl c_90 (rMul_ok S.ok (WC.toW (S.g 0 rfl)) (WC.toW (S.g 1 rfl)) (by omega))),
   fun a w G S=>.of rfl (OpR.call2 rfl c_82 (gform_ok S.ok (WC.toW (S.g 0 rfl)) (WC.toW (S.g 1 rfl)) (Int.mul_ne_zero (den_ne x) (den_ne y)) (by omega) (by omega))),trivial⟩ fun β a w G S=>?_
 replace S : St W0 G0 30 [(29,QC (max (max (n + m) (m + n) + 1) (n + m)) (Rat.divInt (((x.num) * (((y.den : Nat) : Int))) + ((y.num) * (((x.den : Nat) : Int)))) ((((x.den : Nat) : Int)) * (((y.den : Nat) : Int))))),(8,PB b8),(7,PB b7),(6,PB b6),(5,PB b5),(4,PB b4)] [⟨b8,112,some 2,WC m ((y.den : Nat) : Int)⟩,⟨b7,112,some 2,WC m y.num⟩,⟨b6,112,some 2,WC n ((x.den : Nat) : Int)⟩,⟨b5,112,some 2,WC n x.num⟩,⟨b4,24,some 3,MT.ex ((.agg #[.bool false,.slice none 0 0,.slice none 0 0] : Value))⟩,⟨b3,24,some 3,QV m y⟩,⟨b2,24,some 3,QV n x⟩] a _ _:=S.keep [0,11,12,13,14,15]
 refine S.store (τ:=QC (max (max (n + m) (m + n) + 1) (n + m)) (Rat.divInt (((x.num) * (((y.den : Nat) : Int))) + ((y.num) * (((x.den : Nat) : Int)))) ((((x.den : Nat) : Int)) * (((y.den : Nat) : Int))))) 4 rfl rfl rfl rfl (S.e 5 rfl) tS_24 (S.g 0 rfl) (sh (τ:=QC (max (max (n + m) (m + n) + 1) (n + m)) (Rat.divInt (((x.num) * (((y.den : Nat) : Int))) + ((y.num) * (((x.den : Nat) : Int)))) ((((x.den : Nat) : Int)) * (((y.den : Nat) : Int))))) (S.g 0 rfl)) fun w S=>?_
 replace S:=S.n4
 refine wn hK ?_;clear hK K
 replace S:=S.d0
 exact wp_ret (S.retCell (i:=4) rfl (S.e 4 rfl) rfl tS_24 (fun _ h=>(QC.eq (QC.up h (by omega)) frac_add)))
theorem gNeg_ok {n : Nat} {x : Rat} {v1 : Value} {W0 : World} {G0 : Gh} (hok : Gok W0 G0) (h1 : (QV n x).t v1 G0) (hn : n ≤ BIG) : Calls Tryz.prog 88 #[v1] W0 (Ret W0 G0 (QC n (-x))):=by
 refine St.enter (N:=14) (L:=[(0,QV n x)]) (args:=[v1]) Tryz.func88 rfl rfl rfl hok (enter1 h1) fun a S=>?_
 refine wp_reg fun K hK=>?_
 refine S.boxop (x:=.tmp 0) (τ:=QV n x) (S.g 0 rfl) (sh (τ:=QV n x) (S.g 0 rfl)) rfl rfl rfl rfl rfl fun b1 a w G S=>?_
 refine S.alloc rfl rfl rfl z_24 zs_24 rfl rfl fun b2 a w G S=>?_
 refine wn hK ?_;clear hK K
 replace S:=S.d2
 refine wp_reg fun K hK=>?_
 refine S.s (OpR.ldBox S.ok rfl (S.e 1 rfl) (S.box 1 rfl) tS_24) rfl fun a w G S=>?_
 refine S.s (τ:=MT.tup2 (WC n x.num) (WC n ((x.den : Nat) : Int))) (OpR.call1 rfl c_60 (gParts_ok S.ok (S.g 0 rfl) (by omega))) rfl fun a w G S=>?_
 refine S.m rfl (S.g 0 rfl) rfl fun a w G S=>?_
 refine S.s (OpR.ext2a S.ok rfl (S.g 0 rfl)) rfl fun a w G S=>?_
 refine S.s (OpR.ext2b S.ok rfl (S.g 1 rfl)) rfl fun a w G S=>?_
 refine S.alloc rfl rfl rfl z_112 zs_112 rfl rfl fun b3 a w G S=>?_
 refine S.alloc rfl rfl rfl z_112 zs_112 rfl rfl fun b4 a w G S=>?_
 refine S.store (τ:=WC n x.num) 1 rfl rfl rfl rfl (S.e 1 rfl) tS_112 (S.g 3 rfl) (sh (τ:=WC n x.num) (S.g 3 rfl)) fun w S=>?_
 replace S:=S.n1
 refine S.store (τ:=WC n ((x.den : Nat) : Int)) 0 rfl rfl rfl rfl (S.e 0 rfl) tS_112 (S.g 2 rfl) (sh (τ:=WC n ((x.den : Nat) : Int)) (S.g 2 rfl)) fun w S=>?_
 replace S:=S.n0
 refine wn hK ?_;clear hK K
 replace S:=S.d8.d6.d5.d4.d3.d2
 refine wp_seq_k fun K hK=>?_
 refine S.drawn [⟨10,.g (WC n x.num),[]⟩,⟨11,.g (WC n (-(x.num))),[0]⟩,⟨12,.g (WC n ((x.den : Nat) : Int)),[]⟩,⟨13,.g (QC (max n n) (Rat.divInt (-(x.num)) (((x.den : Nat) : Int)))),[1,2]⟩] mixedOrders (by kernel_rfl)
  ⟨fun a w G S=>.of rfl (OpR.ldBox S.ok rfl (S.e 1 rfl) (S.box 1 rfl) tS_112),
   fun a w G S=>.of rfl (OpR.call1 rfl c_111 (rNeg_ok S.ok (WC.toW (S.g 0 rfl)))),
   fun a w G S=>.of rfl (OpR.ldBox S.ok rfl (S.e 0 rfl) (S.box 0 rfl) tS_112),
   fun a w G S=>.of rfl (OpR.call2 rfl c_82 (gform_ok S.ok (WC.toW (S.g 0 rfl)) (WC.toW (S.g 1 rfl)) (den_ne x) (by omega) (by omega))),trivial⟩ fun β a w G S=>?_
 replace S : St W0 G0 14 [(13,QC (max n n) (Rat.divInt (-(x.num)) (((x.den : Nat) : Int)))),(4,PB b4),(3,PB b3),(2,PB b2)] [⟨b4,112,some 2,WC n ((x.den : Nat) : Int)⟩,⟨b3,112,some 2,WC n x.num⟩,⟨b2,24,some 3,MT.ex ((.agg #[.bool false,.slice none 0 0,.slice none 0 0] : Value))⟩,⟨b1,24,some 3,QV n x⟩] a _ _:=S.keep [0,4,5,6]
 refine S.store (τ:=QC (max n n) (Rat.divInt (-(x.num)) (((x.den : Nat) : Int)))) 2 rfl rfl rfl rfl (S.e 3 rfl) tS_24 (S.g 0 rfl) (sh (τ:=QC (max n n) (Rat.divInt (-(x.num)) (((x.den : Nat) : Int)))) (S.g 0 rfl)) fun w S=>?_
 replace S:=S.n2
 refine wn hK ?_;clear hK K
 replace S:=S.d0
 exact wp_ret (S.retCell (i:=2) rfl (S.e 2 rfl) rfl tS_24 (fun _ h=>(QC.eq (QC.up h (by omega)) frac_neg')))
theorem gSub_ok {n m : Nat} {x y : Rat} {v1 v2 : Value} {W0 : World} {G0 : Gh} (hok : Gok W0 G0) (h1 : (QV n x).t v1 G0) (h2 : (QV m y).t v2 G0) (hn : n + m + 1 ≤ BIG) : Calls Tryz.prog 56 #[v1,v2] W0 (Ret W0 G0 (QC (n + m + 1) (x - y))):=by
 refine St.enter (N:=9) (L:=[(1,QV m y),(0,QV n x)]) (args:=[v1,v2]) Tryz.func56 rfl rfl rfl hok (enter2 h1 h2) fun a S=>?_
 refine wp_reg fun K hK=>?_
 refine S.boxop (x:=.tmp 0) (τ:=QV n x) (S.g 1 rfl) (sh (τ:=QV n x) (S.g 1 rfl)) rfl rfl rfl rfl rfl fun b2 a w G S=>?_
 refine S.boxop (x:=.tmp 1) (τ:=QV m y) (S.g 1 rfl) (sh (τ:=QV m y) (S.g 1 rfl)) rfl rfl rfl rfl rfl fun b3 a w G S=>?_
 refine S.alloc rfl rfl rfl z_24 zs_24 rfl rfl fun b4 a w G S=>?_
 refine wn hK ?_;clear hK K
 replace S:=S.d4.d3
 refine wp_seq_k fun K hK=>?_
 refine S.drawn [⟨5,.g (QV n x),[]⟩,⟨6,.g (QV m y),[]⟩,⟨7,.g (QC m (-y)),[1]⟩,⟨8,.g (QC (n + m + 1) (x + (-y))),[0,2]⟩] mixedOrders (by kernel_rfl)
  ⟨fun a w G S=>.of rfl (OpR.ldBox S.ok rfl (S.e 2 rfl) (S.box 2 rfl) tS_24),
   fun a w G S=>.of rfl (OpR.ldBox S.ok rfl (S.e 1 rfl) (S.box 1 rfl) tS_24),
   fun a w G S=>.of rfl (OpR.call1 rfl c_88 (gNeg_ok S.ok (S.g 0 rfl) (by omega))),
   fun a w G S=>.of rfl (OpR.call2 rfl c_57 (gAdd_ok S.ok (S.g 0 rfl) (QC.toQV (S.g 1 rfl)) (by omega))),trivial⟩ fun β a w G S=>?_
 replace S : St W0 G0 9 [(8,QC (n + m + 1) (x + (-y))),(4,PB b4)] [⟨b4,24,some 3,MT.ex ((.agg #[.bool false,.slice none 0 0,.slice none 0 0] : Value))⟩,⟨b3,24,some 3,QV m y⟩,⟨b2,24,some 3,QV n x⟩] a _ _:=S.keep [0,4]
 refine S.store (τ:=QC (n + m + 1) (x + (-y))) 0 rfl rfl rfl rfl (S.e 1 rfl) tS_24 (S.g 0 rfl) (sh (τ:=QC (n + m + 1) (x + (-y))) (S.g 0 rfl)) fun w S=>?_
 replace S:=S.n0
 refine wn hK ?_;clear hK K
 replace S:=S.d0
 exact wp_ret (S.retCell (i:=0) rfl (S.e 0 rfl) rfl tS_24 (fun _ h=>(QC.eq h (Rat.sub_eq_add_neg x y).symm)))
theorem gSign_ok {n : Nat} {x : Rat} {v1 : Value} {W0 : World} {G0 : Gh} (hok : Gok W0 G0) (h1 : (QV n x).t v1 G0) (hn : n ≤ BIG) : Calls Tryz.prog 30 #[v1] W0 (Ret W0 G0 (IT x.num.sign)):=by
 refine St.enter (N:=12) (L:=[(0,QV n x)]) (args:=[v1]) Tryz.func30 rfl rfl rfl hok (enter1 h1) fun a S=>?_
 refine wp_reg fun K hK=>?_
 refine S.boxop (x:=.tmp 0) (τ:=QV n x) (S.g 0 rfl) (sh (τ:=QV n x) (S.g 0 rfl)) rfl rfl rfl rfl rfl fun b1 a w G S=>?_
 refine S.s (τ:=NT 0) (OpR.asn S.ok rfl (rfl : _ = nv .i64 0)) rfl fun a w G S=>?_
 refine wn hK ?_;clear hK K
 replace S:=S.d2
 refine wp_reg fun K hK=>?_
 refine S.s (OpR.ldBox S.ok rfl (S.e 1 rfl) (S.box 0 rfl) tS_24) rfl fun a w G S=>?_
 refine S.s (τ:=MT.tup2 (WC n x.num) (WC n ((x.den : Nat) : Int))) (OpR.call1 rfl c_60 (gParts_ok S.ok (S.g 0 rfl) (by omega))) rfl fun a w G S=>?_
 refine S.m rfl (S.g 0 rfl) rfl fun a w G S=>?_
 refine S.s (OpR.ext2a S.ok rfl (S.g 0 rfl)) rfl fun a w G S=>?_
 refine S.s (OpR.ext2b S.ok rfl (S.g 1 rfl)) rfl fun a w G S=>?_
 refine S.alloc rfl rfl rfl z_112 zs_112 rfl rfl fun b3 a w G S=>?_
 refine S.alloc rfl rfl rfl z_112 zs_112 rfl rfl fun b4 a w G S=>?_
 refine S.store (τ:=WC n x.num) 1 rfl rfl rfl rfl (S.e 1 rfl) tS_112 (S.g 3 rfl) (sh (τ:=WC n x.num) (S.g 3 rfl)) fun w S=>?_
 replace S:=S.n1
 refine S.store (τ:=WC n ((x.den : Nat) : Int)) 0 rfl rfl rfl rfl (S.e 0 rfl) tS_112 (S.g 2 rfl) (sh (τ:=WC n ((x.den : Nat) : Int)) (S.g 2 rfl)) fun w S=>?_
 replace S:=S.n0
 refine wn hK ?_;clear hK K
 replace S:=S.d8.d6.d5.d4.d3.d2.d0
 refine wp_reg fun K hK=>?_
 refine S.s (OpR.ldBox S.ok rfl (S.e 0 rfl) (S.box 1 rfl) tS_112) rfl fun a w G S=>?_
 refine S.s (τ:=IT ((x.num).sign)) (OpR.call1 rfl c_61 (rSign_ok S.ok (WC.toW (S.g 0 rfl)))) rfl fun a w G S=>?_
 replace S:=S.d3
 refine S.q rfl (S.g 0 rfl) rfl fun a w G S=>?_
 refine wn hK ?_;clear hK K
 replace S:=S.d2.d1
 exact wp_ret (S.retTmp rfl ((S.e 0 rfl).trans (iv_eq (by first | rfl | omega | (simp only [Nat.zero_add,Nat.add_zero];done) | (simp;done) | (push_cast;omega)))))
theorem gOf_ok {z : Int} {v1 : Value} {W0 : World} {G0 : Gh} (hok : Gok W0 G0) (h1 : (IT z).t v1 G0) (hz : -9223372036854775808 ≤ z ∧ z ≤ 9223372036854775807) : Calls Tryz.prog 50 #[v1] W0 (Ret W0 G0 (QC 64 (z : Rat))):=by
 have hB : 64 ≤ BIG:=by decide
 refine St.enter (N:=7) (L:=[(0,IT z)]) (args:=[v1]) Tryz.func50 rfl rfl rfl hok (enter1 h1) fun a S=>?_
 refine wp_reg fun K hK=>?_
 refine S.alloc rfl rfl rfl z_24 zs_24 rfl rfl fun b2 a w G S=>?_
 refine wn hK ?_;clear hK K
 refine wp_reg fun K hK=>?_
 refine S.m rfl (S.g 1 rfl) rfl fun a w G S=>?_
 refine S.s (τ:=WC 64 z) (OpR.call1 rfl c_83 (rOf_ok S.ok (S.g 0 rfl) (by omega))) rfl fun a w G S=>?_
 refine S.s (τ:=WC 64 1) (OpR.call0 rfl c_72 (rone_ok S.ok )) rfl fun a w G S=>?_
 refine S.s (τ:=QC (max 64 64) (Rat.divInt z 1)) (OpR.call2 rfl c_82 (gform_ok S.ok (WC.toW (S.g 1 rfl)) (WC.toW (S.g 0 rfl)) (by decide) hB hB)) rfl fun a w G S=>?_
 refine S.store (τ:=QC (max 64 64) (Rat.divInt z 1)) 0 rfl rfl rfl rfl (S.e 4 rfl) tS_24 (S.g 0 rfl) (sh (τ:=QC (max 64 64) (Rat.divInt z 1)) (S.g 0 rfl)) fun w S=>?_
 replace S:=S.n0
 refine wn hK ?_;clear hK K
 replace S:=S.d5.d3.d2.d1.d0
 exact wp_ret (S.retCell (i:=0) rfl (S.e 0 rfl) rfl tS_24 (fun _ h=>(QC.eq (QC.up h (by omega)) frac_one)))
theorem gCmp_ok {n m : Nat} {x y : Rat} {v1 v2 : Value} {W0 : World} {G0 : Gh} (hok : Gok W0 G0) (h1 : (QV n x).t v1 G0) (h2 : (QV m y).t v2 G0) (hn : n + m + 1 ≤ BIG) : Calls Tryz.prog 29 #[v1,v2] W0 (Ret W0 G0 (IT (cmpQ x y))):=by
 refine St.enter (N:=9) (L:=[(1,QV m y),(0,QV n x)]) (args:=[v1,v2]) Tryz.func29 rfl rfl rfl hok (enter2 h1 h2) fun a S=>?_
 refine wp_reg fun K hK=>?_
 refine S.boxop (x:=.tmp 0) (τ:=QV n x) (S.g 1 rfl) (sh (τ:=QV n x) (S.g 1 rfl)) rfl rfl rfl rfl rfl fun b2 a w G S=>?_
 refine S.boxop (x:=.tmp 1) (τ:=QV m y) (S.g 1 rfl) (sh (τ:=QV m y) (S.g 1 rfl)) rfl rfl rfl rfl rfl fun b3 a w G S=>?_
 refine S.s (τ:=NT 0) (OpR.asn S.ok rfl (rfl : _ = nv .i64 0)) rfl fun a w G S=>?_
 refine wn hK ?_;clear hK K
 replace S:=S.d4.d3
 refine wp_reg fun K hK=>?_
 refine S.s (OpR.ldBox S.ok rfl (S.e 2 rfl) (S.box 1 rfl) tS_24) rfl fun a w G S=>?_
 refine S.s (OpR.ldBox S.ok rfl (S.e 2 rfl) (S.box 0 rfl) tS_24) rfl fun a w G S=>?_
 refine S.s (τ:=QC (n + m + 1) (x - y)) (OpR.call2 rfl c_56 (gSub_ok S.ok (S.g 1 rfl) (S.g 0 rfl) (by omega))) rfl fun a w G S=>?_
 refine S.s (τ:=IT ((x - y).num.sign)) (OpR.call1 rfl c_30 (gSign_ok S.ok (QC.toQV (S.g 0 rfl)) (by omega))) rfl fun a w G S=>?_
 replace S:=S.d4
 refine S.q rfl (S.g 0 rfl) rfl fun a w G S=>?_
 refine wn hK ?_;clear hK K
 replace S:=S.d6.d5.d4.d3.d2.d1
 exact wp_ret (S.retTmp rfl ((S.e 0 rfl).trans (iv_eq rcmp_sub)))
end Go.Proofs.YtpbkcbnghhodiaaGreat
namespace Go.Proofs.YtpbkcbnghhodiaaGreat
open Go.RowKit (Below)
structure FR where
  s : Bool
  p : List Nat
  q : List Nat
instance : Inhabited FR:=⟨⟨false,[],[]⟩⟩
def FR.ok (r : FR) : Bool:=qok r.s r.p r.q
def FR.val (r : FR) : Rat:=qval r.s r.p r.q
def FX (n : Nat) (r : FR) : MT:=⟨fun v G=>1 ≤ n ∧ Go.Proofs.YtpbkcbnghhodiaaGreat.val r.p < 2 ^ n ∧ Go.Proofs.YtpbkcbnghhodiaaGreat.val r.q < 2 ^ n ∧ (QR r.s r.p r.q).t v G,fun hle ⟨h,h1,h2,h3⟩=>⟨h,h1,h2,(QR _ _ _).mono hle h3⟩⟩
instance {n : Nat} {r : FR} : Shp (FX n r) (some 3):=⟨fun {_ _} ⟨_,_,_,h⟩=>Shp.sh h⟩
section
variable {n m : Nat} {r : FR} {x y : Rat} {v : Value} {G : Gh}
theorem FX.toQV (h : (FX n r).t v G) : (QV n r.val).t v G:=by obtain ⟨h1,h2,h3,h4⟩:=h;exact ⟨h1,_,_,_,rfl,h2,h3,h4⟩
theorem FX.up (h : (FX n r).t v G) (hn : n ≤ m) : (FX m r).t v G:=by
  obtain ⟨h1,h2,h3,h4⟩:=h
  have:=Nat.pow_le_pow_right (show 0 < 2 by decide) hn
  exact ⟨by omega,by omega,by omega,h4⟩
theorem FX.eq {r' : FR} (h : (FX n r).t v G) (e : r = r') : (FX n r').t v G:=e ▸ h
theorem FX.qr (h : (FX n r).t v G) : (QR r.s r.p r.q).t v G:=h.2.2.2
theorem FX.f0 {k : Option Nat} (h : (FX n r).t v G) (hs : Shaped k v) : ∃ u,v.cells[0]? = some u ∧ (MT.ex (.bool r.s)).t u G:=QR.f0 (FX.qr h) hs
theorem FX.f1 {k : Option Nat} (h : (FX n r).t v G) (hs : Shaped k v) : ∃ u,v.cells[1]? = some u ∧ (SL r.p).t u G:=QR.f1 (FX.qr h) hs
theorem FX.f2 {k : Option Nat} (h : (FX n r).t v G) (hs : Shaped k v) : ∃ u,v.cells[2]? = some u ∧ (SL r.q).t u G:=QR.f2 (FX.qr h) hs
def FR.of (x : Rat) : FR:=⟨decide (x < 0),words x.num.natAbs,dwords x⟩
theorem QC.toFX (h : (QC n x).t v G) (hn : 1 ≤ n) : (FX n (FR.of x)).t v G:=by
  refine ⟨hn,?_,?_,h.2⟩
  · show Go.Proofs.YtpbkcbnghhodiaaGreat.val (words _) < _;rw [val_words];exact h.1.1
  · show Go.Proofs.YtpbkcbnghhodiaaGreat.val (dwords x) < _
    unfold dwords;split
    · exact Nat.pow_pos (by decide)
    · rw [val_words];exact h.1.2
theorem QR.toFX {s : Bool} {p q : List Nat} (h : (QR s p q).t v G) (h0 : p = [] ∧ q = []) (hn : 1 ≤ n) : (FX n ⟨s,p,q⟩).t v G:=by
  obtain ⟨rfl,rfl⟩:=h0
  exact ⟨hn,Nat.pow_pos (by decide),Nat.pow_pos (by decide),h⟩
theorem FR.of_val (x : Rat) : (FR.of x).val = x:=by
  show qval _ _ _ = x
  exact qval_can x
theorem FR.of_ok (x : Rat) : (FR.of x).ok = true:=qok_can x
theorem zero_FX (hn : 1 ≤ n) : (FX n default).t (.agg #[.bool false,.slice none 0 0,.slice none 0 0]) G:=⟨hn,Nat.pow_pos (by decide),Nat.pow_pos (by decide),_,_,rfl,SL.nil,SL.nil⟩
end
theorem LS.conv {k : Option Nat} {τs σs : List MT} {v : Value} {G : Gh} (h : (LS k τs).t v G) (hl : σs.length = τs.length) (hc : ∀ (i : Nat) (τ σ : MT),τs[i]? = some τ → σs[i]? = some σ → ∀ v G,τ.t v G → σ.t v G) : (LS k σs).t v G:=by
  obtain ⟨A,c,us,hx,h1,h2,h3,h4⟩:=LS.vals h
  refine LS.of_vals (by rw [hl];exact hx) (by omega) (by omega) ⟨by rw [h3.1,hl],fun i σ u hs hu=>?_⟩ h4
  have hlt:=(List.getElem?_eq_some_iff.1 hs).1
  have hτ : τs[i]? = some (τs[i]'(by omega)):=by simp
  obtain ⟨a1,a2⟩:=h3.2 i _ u hτ hu
  exact ⟨a1,hc i _ σ hτ hs u G a2⟩
theorem LS.convM {α β : Type} {T : α → MT} {U : β → MT} {f : α → β} {xs : List α} {ys : List β} {k : Option Nat} {v : Value} {G : Gh} (h : (LS k (xs.map T)).t v G) (e : ys = xs.map f) (hc : ∀ x,x ∈ xs → ∀ v G,(T x).t v G → (U (f x)).t v G) : (LS k (ys.map U)).t v G:=by
  subst e
  refine LS.conv h (by simp) fun i τ σ h1 h2=>?_
  rw [List.getElem?_map] at h1 h2
  rw [List.getElem?_map] at h2
  cases hx : xs[i]? with
  | none=>rw [hx] at h1;cases h1
  | some x=>rw [hx] at h1 h2;cases h1;cases h2;exact hc x (List.mem_of_getElem? hx)
theorem LS.eqM {α : Type} {T : α → MT} {xs ys : List α} {k : Option Nat} {v : Value} {G : Gh} (h : (LS k (xs.map T)).t v G) (e : xs = ys) : (LS k (ys.map T)).t v G:=e ▸ h
theorem LS.lenM {α : Type} {T : α → MT} {xs : List α} {k : Option Nat} {v : Value} {G : Gh} (h : (LS k (xs.map T)).t v G) : xs.length ≤ LIM:=by
  obtain ⟨_,_,_,_,_,h2,_⟩:=LS.vals h;rwa [List.length_map] at h2
theorem ROWS.eqM {α : Type} {T : α → MT} {xs ys : List α} {k : Option Nat} {v : Value} {G : Gh} (h : (ROWS k (xs.map T)).t v G) (e : xs = ys) : (ROWS k (ys.map T)).t v G:=e ▸ h
theorem ROWS.slM {α : Type} {T : α → MT} {xs : List α} {k : Option Nat} {v u : Value} {G : Gh} {b n c : Nat} {ty : TypeId} (h : (ROWS k (xs.map T)).t u G) (hg : G b = some (.cells u.cells ty (0,0))) (hn : n = xs.length) (hc : n ≤ c) (hlim : n ≤ LIM) (hv : v = .slice (some ⟨b,0,none⟩) n c) : (LS k (xs.map T)).t v G:=ROWS.sl h hg (by rw [List.length_map];exact hn) hc hlim hv
section
variable {P : Program} {o : Oper} {a : Act} {w : World} {G : Gh} {τ : MT}
theorem OpR.tass {x : Operand} {t0 t : TypeId} {n : Int} {k : IntKind} (hok : Gok w G) (ho : o.op = .typeAssert x t0 t true) (hx : a.eval x = errV t n) (hn : n ≠ 0) (hi : P.underlying t = some (.int k)) (h : τ.t (.tuple #[.int .i64 n,.bool true]) G) : OpR P o a w G τ:=by
  refine .run hok (v:=.tuple #[.int .i64 n,.bool true]) ?_ h
  rw [errV,if_neg hn] at hx
  simp [execOp,ho,hx,Instr.typeAssert,run_underlying hi]
theorem St.buildO {W0 : World} {G0 : Gh} {N : Nat} {L : List (Nat × MT)} {B : List BX} {ops : Array Oper} {rest : List Oper} {Q : Exit → Act → World → Prop} {k : Option Nat} {e : TypeId} {τs : List MT} (S : St W0 G0 N L B a w G) {d t bytes n : Nat} {z : Value} {ps : Array (Nat × Operand)} {us : List Value} (ho : o.op = .buildSlice t n ps) (hd : o.dst = some d) (hg : o.guard = none) (ht : P.underlying t = some (.slice e)) (he : elS P e (k.getD 1) bytes z) (hk : (decide (0 < k.getD 1)) = true) (hn : n * k.getD 1 ≤ 16777216) (hn0 : 0 < n)
    (hps : (ps.map fun (i,x)=>(i,a.eval x)).toList = (us.zipIdx 0).map fun x=>(x.2,x.1)) (hl : us.length = n) (hE : Els k τs us G) (hdN : (decide (d < N)) = true) (hf : fresh d L = true)
    (K : ∀ b a' w' G',St W0 G0 N ((d,.ex (.slice (some ⟨b,0,none⟩) n n)) :: L) (⟨b,e,some (n * k.getD 1),ROWS k τs⟩ :: B) a' w' G' → wpList P ops Q rest a' w') : wpList P ops Q (o :: rest) a w :=
  wpList_plain hg fun K' hK=>by
    obtain ⟨i,hi,h1,h2,h3⟩:=elS_of he
    have hk:=of_decide_eq_true hk
    have hsz:=hE.sizes
    have hfill:=Great.fill_whole (s:=k.getD 1) hk us ((Array.range (n * i.size)).map (z.cells[· % z.cells.size]!)) hsz (by simp [hl,h1])
    rw [← h1] at hfill
    have hps2 : (ps.map fun (i,x)=>(i,a.eval x)) = ((us.zipIdx 0).map fun x=>(x.2,x.1)).toArray:=by rw [← hps]
    have hb:=run_buildSlice (P:=P) w t e n ((us.zipIdx 0).map fun x=>(x.2,x.1)).toArray (us.flatMap fun v=>v.cells.toList).toArray i z ht hi h3 (by rw [h1];omega) (by rw [h1];have:=Nat.mul_pos hn0 hk;omega) (by simpa using hfill)
    have hr : (execOp a.eval o).run P w = .ok (.value (.slice (some ⟨w.heap.size,0,none⟩) n n)) (w.alloc (.cells (flat us ++ []).toArray e)):=by
      rw [List.append_nil]
      simp only [execOp,ho,Sem.run_bind,hps2]
      rw [hb];rfl
    unfold Oper.wp
    rw [hr]
    simp only [Oper.upon,hd]
    have hsh : Shaped (some (n * k.getD 1)) (.agg (flat us ++ []).toArray):=Shp.rows hE (fun x hx=>by simp at hx) (by rw [List.append_nil,flat_len hsz,hl])
    have S':=(S.newVar (v:=.agg (flat us ++ []).toArray) (t:=e) (k:=some (n * k.getD 1)) (τ:=ROWS k τs) hsh ⟨_,_,rfl,hE⟩).put (v:=.slice (some ⟨w.heap.size,0,none⟩) n n) (of_decide_eq_true hdN) hf (τ:=.ex (.slice (some ⟨w.heap.size,0,none⟩) n n)) rfl (Nxt.refl (S.ok.alloc _))
    exact hK _ _ (K w.heap.size _ _ G S')
theorem elem_storeS {k : Option Nat} {α : Type} {T : α → MT} {xs : List α} {t ty : TypeId} {x y : Operand} {b i n : Nat} {z : α} {v0 : Value} (ho : o.op = .store t x y) (hd : o.dst = none) (hx : a.eval x = .pointer (some ⟨b, i * k.getD 1, none⟩)) (hT : tyS P t k = true) (hy : (T z).t (a.eval y) G) (hs : Shaped k (a.eval y)) (hlt : i < xs.length)
    (hv : w.heap[b]? = some (.cells v0.cells ty (0,0))) (hs0 : Shaped (some n) v0) (h0 : (ROWS k (xs.map T)).t v0 G) : ∃ v1,Shaped (some n) v1 ∧ (ROWS k ((xs.set i z).map T)).t v1 G ∧ ∀ (Q : Exit → Act → World → Prop) (K : Act → World → Prop),K a (w.setRow b v1.cells) → o.wp P a w K Q:=by
  obtain ⟨us,r,rfl,hE⟩:=h0
  obtain ⟨cs',e1,hszc,hone⟩:=cells_one hs0
  injection e1 with e1
  have htot : (flat us ++ r).length = n:=by rw [← hszc,← e1];simp
  have hul : us.length = xs.length:=by rw [hE.1,List.length_map]
  have hlu : i < us.length:=by omega
  have hfl : i * k.getD 1 + k.getD 1 ≤ (flat us).length:=by
    rw [flat_len hE.sizes,← Nat.succ_mul];exact Nat.mul_le_mul_right _ hlu
  have hEl : Els k ((xs.set i z).map T) (us.set i (a.eval y)) G:=by rw [List.map_set];exact hE.set hs hy
  have hnew : (List.take (i * k.getD 1) (flat us ++ r) ++ (a.eval y).cells.toList ++ List.drop (i * k.getD 1 + (a.eval y).cells.toList.length) (flat us ++ r)) = flat (us.set i (a.eval y)) ++ r:=by
    have hsz : (a.eval y).cells.toList.length = k.getD 1:=by rw [Array.length_toList];exact shaped_size hs
    rw [hsz,flat_set hE.sizes hlu (shaped_size hs),List.take_append_of_le_length (by omega),List.drop_append_of_le_length hfl]
    simp [List.append_assoc]
  refine ⟨.agg (flat (us.set i (a.eval y)) ++ r).toArray,Shp.rows hEl (fun x hx=>hone x (by rw [← e1];simp;exact .inr hx)) ?_,⟨_,_,rfl,hEl⟩,fun Q K hK=>?_⟩
  · rw [List.length_append,flat_len hEl.sizes,List.length_set,← htot,List.length_append,flat_len hE.sizes]
  have hst:=run_storeCells_at b (i * k.getD 1) ty (a.eval y).cells.toList 0 (flat us ++ r).toArray w (P:=P) hv (by
    have hsz : (a.eval y).cells.toList.length = k.getD 1:=by rw [Array.length_toList];exact shaped_size hs
    rw [hsz];show _ ≤ (flat us ++ r).length;rw [List.length_append];omega) (shaped_cells hs)
  simp only [Nat.add_zero] at hst
  have hr : (execOp a.eval o).run P w = .ok .skip (w.setRow b (flat (us.set i (a.eval y)) ++ r).toArray):=by
    rw [← hnew]
    simp only [execOp,ho,Instr.storeAt,hx,Instr.sureAddr,storeVar,Sem.run_bind,Sem.run_pure,Result.andThen_ok,tyS_size hT,shaped_size hs]
    simp [hst]
  unfold Oper.wp
  rw [hr]
  simp only [Oper.upon,hd]
  exact hK
theorem agg3 {v : Value} (h : Shaped (some 3) v) : ∃ x y z,v = .agg #[x,y,z]:=by
  obtain ⟨cs,rfl,h,_⟩:=h
  match cs,h with
  | ⟨[x,y,z]⟩,_=>exact ⟨x,y,z,rfl⟩
end
end Go.Proofs.YtpbkcbnghhodiaaGreat
namespace Go.Proofs.YtpbkcbnghhodiaaGreat
open Go.RowKit (Below)
section
variable {P : Program} {o : Oper} {a : Act} {w : World} {G : Gh} {τ : MT}
theorem OpR.ixAr {x y : Operand} {t e : TypeId} {b n i : Nat} {m : Int} {k : IntKind} {s : Option Nat} (hok : Gok w G) (ho : o.op = .indexAddr t x y) (ht : P.underlying t = some (.array n e)) (hs : tyS P e s = true)
    (hx : a.eval x = .pointer (some ⟨b,0,none⟩)) (hy : a.eval y = .int k m) (hm : m = (i : Int)) (hi : i < n) (h : τ.t (.pointer (some ⟨b,i * s.getD 1,none⟩)) G) : OpR P o a w G τ:=by
  subst hm
  refine .run hok (v:=.pointer (some ⟨b,i * s.getD 1,none⟩)) ?_ h
  simp [execOp,ho,Instr.indexAt,Instr.sureAddr,hx,hy,asIntOf,run_underlying ht,tyS_size hs,addr_add,hi]
end
def ARN (k : Option Nat) (τs : List MT) : MT:=⟨fun v G=>∃ us,v = .agg (flat us).toArray ∧ Els k τs us G,fun hle ⟨us,h1,h2⟩=>⟨us,h1,h2.mono hle⟩⟩
section
variable {k : Option Nat} {τs : List MT} {v : Value} {G : Gh}
theorem ARN.shaped (h : (ARN k τs).t v G) : Shaped (some (τs.length * k.getD 1)) v:=by
  obtain ⟨us,rfl,hE⟩:=h
  exact ⟨_,rfl,by show (flat us).length = _;rw [flat_len hE.sizes,hE.1],flat_one hE.shaped⟩
instance : Shp (ARN k τs) (some (τs.length * k.getD 1)):=⟨fun {_ _} h=>ARN.shaped h⟩
theorem ARN.rows (h : (ARN k τs).t v G) : (ROWS k τs).t v G:=by
  obtain ⟨us,rfl,hE⟩:=h
  exact ⟨us,[],by rw [List.append_nil],hE⟩
theorem ROWS.arn {n : Nat} (h : (ROWS k τs).t v G) (hs : Shaped (some n) v) (hn : τs.length * k.getD 1 = n) : (ARN k τs).t v G:=by
  obtain ⟨us,r,rfl,hE⟩:=h
  obtain ⟨cs,e1,hsz,_⟩:=hs
  injection e1 with e1
  have : (flat us ++ r).length = n:=by rw [← hsz,← e1];simp
  rw [List.length_append,flat_len hE.sizes,hE.1,hn] at this
  have hr : r = []:=List.length_eq_zero_iff.1 (by omega)
  subst hr
  exact ⟨us,by rw [List.append_nil],hE⟩
theorem PTS.arn (h : (PTS (τs.map fun τ=>(k,τ))).t v G) : (ARN k τs).t v G:=by
  obtain ⟨us,rfl,hl,hE⟩:=h
  refine ⟨us,rfl,by simpa using hl,fun i τ u h1 h2=>hE i (k,τ) u (by rw [List.getElem?_map,h1];rfl) h2⟩
theorem ARN.eqM {α : Type} {T : α → MT} {xs ys : List α} (h : (ARN k (xs.map T)).t v G) (e : xs = ys) : (ARN k (ys.map T)).t v G:=e ▸ h
theorem ARN.convM {α β : Type} {T : α → MT} {U : β → MT} {f : α → β} {xs : List α} {ys : List β} (h : (ARN k (xs.map T)).t v G) (e : ys = xs.map f) (hc : ∀ x,x ∈ xs → ∀ v G,(T x).t v G → (U (f x)).t v G) : (ARN k (ys.map U)).t v G:=by
  subst e
  obtain ⟨us,rfl,hE⟩:=h
  refine ⟨us,rfl,by rw [hE.1];simp,fun i τ u h1 h2=>?_⟩
  rw [List.map_map,List.getElem?_map] at h1
  cases hx : xs[i]? with
  | none=>rw [hx] at h1;cases h1
  | some x =>
    rw [hx] at h1;cases h1
    have:=hE.2 i (T x) u (by rw [List.getElem?_map,hx];rfl) h2
    exact ⟨this.1,hc x (List.mem_of_getElem? hx) u G this.2⟩
theorem OpR.ldArr {P : Program} {o : Oper} {a : Act} {w W0 : World} {x : Operand} {t ty : TypeId} {b n : Nat} (hok : Gok w G) (ho : o.op = .load t x) (hx : a.eval x = .pointer (some ⟨b,0,none⟩)) (hb : BX.ok ⟨b,ty,some n,ROWS k τs⟩ W0 w G) (hT : tyS P t (some n) = true) (hn : τs.length * k.getD 1 = n) : OpR P o a w G (ARN k τs):=by
  obtain ⟨_,_,v,hv,hs,ht⟩:=hb
  exact .run hok (by simp [execOp,ho,hx,Instr.loadAt,Instr.sureAddr,load_whole hT hv hs]) (ROWS.arn ht hs hn)
end
end Go.Proofs.YtpbkcbnghhodiaaGreat
namespace Go.Proofs.YtpbkcbnghhodiaaGreat
open Go.RowKit (Below)
section
variable {P : Program} {W0 : World} {a : Act} {w : World} {G : Gh} {o : Oper}
theorem ARN.shN {k : Option Nat} {τs : List MT} {v : Value} {n : Nat} (h : (ARN k τs).t v G) (e : τs.length * k.getD 1 = n) : Shaped (some n) v:=e ▸ ARN.shaped h
theorem run_part {k : Option Nat} {t : TypeId} {us : List Value} {i : Nat} {u : Value} (hs : tyS P t k = true) (hE : ∀ v ∈ us,Shaped k v) (hi : us[i]? = some u) : (part t (flat us).toArray (i * k.getD 1)).run P w = .ok u w:=by
  have hsz : ∀ v ∈ us,v.cells.size = k.getD 1:=fun v hv=>shaped_size (hE v hv)
  have hu:=hE u (List.mem_of_getElem? hi)
  cases k with
  | none =>
    have h1:=flat_get (j:=0) hsz hi (by decide)
    have hc : u.cells = #[u]:=hu.1
    rw [hc] at h1
    have h2 : (flat us)[i]? = some u:=by simpa using h1
    simp [part,(tyS_none hs w).1,h2]
  | some n =>
    obtain ⟨cs,rfl,hn,_⟩:=hu
    have he : (flat us).toArray.extract (i * n) (i * n + n) = cs:=by
      have hil:=(List.getElem?_eq_some_iff.1 hi).1
      have hfl:=flat_len hsz
      have hle : (i + 1) * n ≤ us.length * n:=Nat.mul_le_mul_right n hil
      rw [Nat.add_mul,Nat.one_mul] at hle
      have hfl' : (flat us).length = us.length * n:=hfl
      apply Array.ext
      · simp;omega
      · intro j h1 h2
        have h3:=flat_get (j:=j) hsz hi (show j < n by omega)
        have h3' : (flat us)[i * n + j]? = cs[j]?:=h3
        rw [Array.getElem?_eq_getElem h2] at h3'
        have h4:=(List.getElem?_eq_some_iff.1 h3').2
        simpa using h4
    have he' : (List.take n (List.drop (i * n) (flat us))).toArray = cs:=by simpa using he
    simp [part,(tyS_some hs w).1,(tyS_some hs w).2,he']
theorem OpR.ixV {α : Type} [Inhabited α] {T : α → MT} {xs : List α} {kk : Option Nat} {x y : Operand} {t e : TypeId} {n i : Nat} {m : Int} {k : IntKind} (hok : Gok w G) (ho : o.op = .index t x y) (ht : P.underlying t = some (.array n e)) (hs : tyS P e kk = true)
    (hx : (ARN kk (xs.map T)).t (a.eval x) G) (hy : a.eval y = .int k m) (hm : m = (i : Int)) (hn : n = xs.length) (hi : i < n) : OpR P o a w G (T (xs.getD i default)):=by
  subst hm
  obtain ⟨us,hu,hE⟩:=hx
  have hl : us.length = n:=by rw [hE.1,List.length_map,hn]
  have hiu : i < us.length:=by omega
  have hE2:=hE.2 i (T (xs.getD i default)) us[i] (by rw [List.getElem?_map,List.getD_eq_getElem?_getD,List.getElem?_eq_getElem (by omega)];rfl) (List.getElem?_eq_getElem hiu)
  refine .run hok (v:=us[i]) ?_ hE2.2
  simp [execOp,ho,Instr.index,hu,hy,asIntOf,run_underlying ht,tyS_size hs,hi,run_part hs hE.shaped (List.getElem?_eq_getElem hiu)]
end
end Go.Proofs.YtpbkcbnghhodiaaGreat
namespace Go.Proofs.YtpbkcbnghhodiaaGreat
open Go.RowKit (Below)
section
variable {G : Gh}
end
section
variable {P : Program} {W0 w : World} {G0 G : Gh} {N : Nat} {L : List (Nat × MT)} {B : List BX} {a : Act} {o : Oper} {fn : Func} {τ : MT}
theorem run_eqI_nil (d : Nat) {t n : TypeId} {v : Value} (h : P.underlying t = some (.interface (P.methodsAt t))) : (Op.equalIn (d + 1) t .nilIface (.iface n v)).run P w = .ok false w:=by
  simp [Op.equalIn,run_underlying h]
theorem run_eqI_int (d : Nat) {n : TypeId} {k : IntKind} {z c : Int} (hu : P.underlying n = some (.int k)) : (Op.equalIn (d + 1) n (.int .i64 z) (.int .i64 c)).run P w = .ok (z == c) w:=by
  simp [Op.equalIn,run_underlying hu]
theorem run_eqI_held (d : Nat) {t n : TypeId} {i : TypeInfo} {k : IntKind} {z c : Int} (h : P.underlying t = some (.interface (P.methodsAt t))) (hi : P.info? n = some i) (hc : i.comparable = true) (hu : P.underlying n = some (.int k)) : (Op.equalIn (d + 1 + 1) t (.iface n (.int .i64 z)) (.iface n (.int .i64 c))).run P w = .ok (z == c) w:=by
  rw [Op.equalIn]
  simp [run_underlying h,typeInfo,hi,hc,run_eqI_int d hu]
theorem OpR.errEqI {x y : Operand} {t t' n : TypeId} {z c : Int} {i : TypeInfo} {k : IntKind} (hok : Gok w G) (ho : o.op = .binOp .eql t x y t') (ht : ifaceT P t) (hi : P.info? n = some i) (hc : i.comparable = true) (hu : P.underlying n = some (.int k))
    (hx : a.eval x = errV n z) (hy : a.eval y = .iface n (.int .i64 c)) (hc0 : c ≠ 0) (h : τ.t (.bool (decide (z = c))) G) : OpR P o a w G τ:=by
  refine .run hok (v:=.bool (decide (z = c))) ?_ h
  have ht' : P.underlying t = some (.interface (P.methodsAt t)):=ht
  by_cases hz : z = 0
  · have e1 : a.eval x = .nilIface:=by rw [hx];unfold errV;rw [if_pos hz]
    have e2 : decide (z = c) = false:=decide_eq_false (by omega)
    have e3 : (Op.equal t .nilIface (.iface n (.int .i64 c))).run P w = .ok false w:=run_eqI_nil 9999 ht'
    have e4 : (binOp .eql t .nilIface (.iface n (.int .i64 c))).run P w = .ok (.bool false) w:=by simp only [binOp];simp [e3]
    rw [e2]
    simp only [execOp,ho,e1,hy,eqGuard,Sem.run_bind];simp;rw [e4];rfl
  · have e1 : a.eval x = .iface n (.int .i64 z):=by rw [hx];unfold errV;rw [if_neg hz]
    have e2 : (z == c) = decide (z = c):=by rw [Bool.eq_iff_iff];simp
    have e3 : (Op.equal t (.iface n (.int .i64 z)) (.iface n (.int .i64 c))).run P w = .ok (z == c) w:=run_eqI_held 9998 ht' hi hc hu
    have e4 : (binOp .eql t (.iface n (.int .i64 z)) (.iface n (.int .i64 c))).run P w = .ok (.bool (z == c)) w:=by simp only [binOp];simp [e3]
    rw [← e2]
    simp only [execOp,ho,e1,hy,eqGuard,Sem.run_bind];simp;rw [e4];rfl
def CIR (x : Bool × Bool × Int) : MT:=PTS [(none,BT x.1),(none,BT x.2.1),(none,IT x.2.2)]
instance {x : Bool × Bool × Int} : Shp (CIR x) (some 3):=inferInstanceAs (Shp (PTS [(none,BT x.1),(none,BT x.2.1),(none,IT x.2.2)]) (some 3))
theorem CIR.val {x : Bool × Bool × Int} {v : Value} (h : (CIR x).t v G) : v = .agg #[.bool x.1,.bool x.2.1,.int .i64 x.2.2]:=by
  obtain ⟨us,rfl,hl,hE⟩:=h
  match us,hl,hE with
  | [u0,u1,u2],_,hE =>
    obtain ⟨a0,b0⟩:=hE 0 _ u0 rfl rfl
    obtain ⟨a1,b1⟩:=hE 1 _ u1 rfl rfl
    obtain ⟨a2,b2⟩:=hE 2 _ u2 rfl rfl
    have e0 : u0 = .bool x.1:=b0
    have e1 : u1 = .bool x.2.1:=b1
    have e2 : u2 = .int .i64 x.2.2:=b2
    subst e0;subst e1;subst e2
    rfl
theorem run_part1 {t : TypeId} {cs : Array Value} {i : Nat} {v : Value} (hs : tyS P t none = true) (hv : cs[i]? = some v) : (part t cs i).run P w = .ok v w:=by
  simp [part,(tyS_none hs w).1,hv]
theorem run_cir (d : Nat) {t : TypeId} {f0 f1 f2 : Field} {x0 x1 y0 y1 : Bool} {x2 y2 : Int} (hu : P.underlying t = some (.struct #[f0, f1, f2])) (hs : P.stoodInHeld t = false) (hn : (f0.name ≠ "_" ∧ f1.name ≠ "_") ∧ f2.name ≠ "_") (ho : f0.offset = 0 ∧ f1.offset = 1 ∧ f2.offset = 2)
    (s0 : tyS P f0.type none = true) (s1 : tyS P f1.type none = true) (s2 : tyS P f2.type none = true) (u0 : P.underlying f0.type = some .bool) (u1 : P.underlying f1.type = some .bool) (u2 : P.underlying f2.type = some (.int .i64)) :
    (Op.equalIn (d + 1 + 1) t (.agg #[.bool x0,.bool x1,.int .i64 x2]) (.agg #[.bool y0,.bool y1,.int .i64 y2])).run P w = .ok (decide ((x0,x1,x2) = (y0,y1,y2))) w:=by
  have p0 : ∀ {r s u : Value},(part f0.type #[r,s,u] f0.offset).run P w = .ok r w:=run_part1 s0 (by rw [ho.1];rfl)
  have p1 : ∀ {r s u : Value},(part f1.type #[r,s,u] f1.offset).run P w = .ok s w:=run_part1 s1 (by rw [ho.2.1];rfl)
  have p2 : ∀ {r s u : Value},(part f2.type #[r,s,u] f2.offset).run P w = .ok u w:=run_part1 s2 (by rw [ho.2.2];rfl)
  have q0 : (Op.equalIn (d + 1) f0.type (.bool x0) (.bool y0)).run P w = .ok (x0 == y0) w:=by simp [Op.equalIn,run_underlying u0]
  have q1 : (Op.equalIn (d + 1) f1.type (.bool x1) (.bool y1)).run P w = .ok (x1 == y1) w:=by simp [Op.equalIn,run_underlying u1]
  have q2 : (Op.equalIn (d + 1) f2.type (.int .i64 x2) (.int .i64 y2)).run P w = .ok (x2 == y2) w:=run_eqI_int d u2
  rw [Op.equalIn]
  simp [run_underlying hu,hs,hn.1.1,hn.1.2,hn.2,p0,p1,p2,q0,q1,q2]
  by_cases e0 : x0 = y0 <;> by_cases e1 : x1 = y1 <;> by_cases e2 : x2 = y2 <;> simp [e0,e1,e2]
theorem OpR.cirNeq {X Y : Operand} {t t' : TypeId} {f0 f1 f2 : Field} {x y : Bool × Bool × Int} (hok : Gok w G) (ho : o.op = .binOp .neq t X Y t') (hu : P.underlying t = some (.struct #[f0, f1, f2])) (hs : P.stoodInHeld t = false) (hg : P.eqGuardType P.depth t = false)
    (hf : (f0.name != "_" && f1.name != "_" && f2.name != "_") = true ∧ (f0.offset = 0 ∧ f1.offset = 1 ∧ f2.offset = 2) ∧ tyS P f0.type none = true ∧ tyS P f1.type none = true ∧ tyS P f2.type none = true ∧ P.underlying f0.type = some .bool ∧ P.underlying f1.type = some .bool ∧ P.underlying f2.type = some (.int .i64))
    (hx : (CIR x).t (a.eval X) G) (hy : (CIR y).t (a.eval Y) G) (h : τ.t (.bool (decide (x ≠ y))) G) : OpR P o a w G τ:=by
  obtain ⟨hn,⟨o0,o1,o2⟩,s0,s1,s2,u0,u1,u2⟩:=hf
  refine .run hok (v:=.bool (decide (x ≠ y))) ?_ h
  simp only [Bool.and_eq_true,bne_iff_ne] at hn
  obtain ⟨x0,x1,x2⟩:=x
  obtain ⟨y0,y1,y2⟩:=y
  have ex:=CIR.val hx
  have ey:=CIR.val hy
  simp only at ex ey
  have he : (Op.equal t (a.eval X) (a.eval Y)).run P w = .ok (decide ((x0,x1,x2) = (y0,y1,y2))) w:=by
    rw [ex,ey]
    exact run_cir 9998 hu hs hn ⟨o0,o1,o2⟩ s0 s1 s2 u0 u1 u2
  have e4 : (binOp .neq t (a.eval X) (a.eval Y)).run P w = .ok (.bool (decide ((x0,x1,x2) ≠ (y0,y1,y2)))) w:=by
    rw [ex,ey] at he ⊢
    simp only [binOp];simp [he]
  rw [ex,ey] at e4
  simp only [execOp,ho,ex,ey,eqGuard,Sem.run_bind]
  simp [hg]
  rw [e4];simp
end
end Go.Proofs.YtpbkcbnghhodiaaGreat
