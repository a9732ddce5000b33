import Derived.Test.YtjphllpnhjemjaaQg
set_option linter.unusedVariables false
set_option linter.unusedSimpArgs false
set_option linter.unusedVariables false
set_option linter.unusedSimpArgs false
set_option maxHeartbeats 4000000
set_option maxRecDepth 100000
set_option synthInstance.maxSize 100000
set_option synthInstance.maxHeartbeats 400000
namespace Go.Proofs.Ytjphllpnhjemjaa
open Go.RowKit (Below)
attribute [local irreducible] Go.Code.wp Go.wpList Go.bodyPost
private theorem gS_ {W0 : World} {G0 : Gh} {N : Nat} {L : List (Nat × MT)} {B : List BX} {a : Act} {w : World} {G : Gh} {q : Prop} (h : St W0 G0 N L B a w G → q) : St W0 G0 N L B a w G → q:=h
private theorem gL_ {p : Prop} {P : Program} {arr : Array Oper} {Q : Exit → Act → World → Prop} {l : List Oper} {a : Act} {w : World} (h : p → wpList P arr Q l a w) : p → wpList P arr Q l a w:=h
private theorem gC_ {p : Prop} {P : Program} {c : Code} {Q : Exit → Act → World → Prop} {a : Act} {w : World} (h : p → c.wp P Q a w) : p → c.wp P Q a w:=h
private theorem mixedOrders : Try.prog.follows .mixedOrders = true:=by kernel_rfl
open Classical in
noncomputable def lcE (n : Int) (l : List WT) : Int:=if chW n l = 0 then lsE n.toNat l else chW n l
noncomputable def lcP (n : Int) (l : List WT) : Rat:=if chW n l = 0 then lsP n.toNat l else 0
noncomputable def lcS (n : Int) (l : List WT) : List Rat:=if chW n l = 0 then lsS n.toNat l else []
noncomputable def lcL (n : Int) (l : List WT) : List Int:=if chW n l = 0 then lsL n.toNat l else []
theorem rx_in {n : Nat} {l : List WT} {p : Rat} (hl : OKL n l) (hn : 0 < n) : INL l (rxF n l p (n + 1) 0).2 ∧ (rxF n l p (n + 1) 0).2.length ≤ n:=by
  rcases rx_dich (p:=p) hl hn with d | d | d
  · rw [d.2];exact ⟨fun k hk=>absurd hk (Nat.not_lt_zero k),Nat.zero_le _⟩
  · exact ⟨d.2.1,d.2.2.2.1⟩
  · rw [d];exact ⟨fun k hk=>absurd hk (Nat.not_lt_zero k),Nat.zero_le _⟩
section
variable {n : Int} {l : List WT} {j : Nat}
theorem ls_e (h : ¬ chW n l = 0) : lcE n l = chW n l ∧ lcP n l = 0 ∧ lcS n l = [] ∧ lcL n l = []:=by
  unfold lcE lcP lcS lcL;rw [if_neg h,if_neg h,if_neg h,if_neg h];exact ⟨rfl,rfl,rfl,rfl⟩
theorem tnn_of (h : chW n l = 0) : TNN l:=(ch_ok h).2.2.2.2.1
theorem ls_stop (h : chW n l = 0) (hj : j ≤ jsF n.toNat l) (hg : goF n.toNat l j = false) : j = jsF n.toNat l:=by
  have hz:=nnz h
  have hk:=js_ok hz.2.2.2.2.1 (tnn_of h) hz.2.1
  rcases Nat.lt_or_eq_of_le hj with e | e
  · have:=hk.2 j e;rw [hg] at this;cases this
  · exact e
theorem ls_y (h : chW n l = 0) (hj : j ≤ jsF n.toNat l) (hs : ¬ (rxF n.toNat l (itF n.toNat l j).1 (n.toNat + 1) 0).1 = []) : lcE n l = 0 ∧ lcP n l = (itF n.toNat l j).1 ∧ lcS n l = (rxF n.toNat l (itF n.toNat l j).1 (n.toNat + 1) 0).1 ∧ lcL n l = (itF n.toNat l j).2:=by
  have hg : goF n.toNat l j = false:=by unfold goF;rw [decide_eq_false hs,Bool.false_and]
  have e:=ls_stop h hj hg
  subst e
  have h0 : lsE n.toNat l = 0:=if_neg hs
  unfold lcE lcP lcS lcL lsP lsS lsL
  rw [if_pos h,if_pos h,if_pos h,if_pos h,if_pos h0,if_pos h0,if_pos h0]
  exact ⟨h0,rfl,rfl,rfl⟩
theorem ls_n (h : chW n l = 0) (hj : j ≤ jsF n.toNat l) (hs : (rxF n.toNat l (itF n.toNat l j).1 (n.toNat + 1) 0).1 = []) (ht : tuF l (rxF n.toNat l (itF n.toNat l j).1 (n.toNat + 1) 0).2 (rxF n.toNat l (itF n.toNat l j).1 (n.toNat + 1) 0).2.length = 0) : lcE n l = 16 ∧ lcP n l = 0 ∧ lcS n l = [] ∧ lcL n l = []:=by
  have hg : goF n.toNat l j = false:=by unfold goF;rw [← ti_all.2,ht];exact Bool.and_false _
  have e:=ls_stop h hj hg
  subst e
  have h0 : lsE n.toNat l = 16:=if_pos hs
  have h1 : ¬ lsE n.toNat l = 0:=by rw [h0];decide
  unfold lcE lcP lcS lcL lsP lsS lsL
  rw [if_pos h,if_pos h,if_pos h,if_pos h,if_neg h1,if_neg h1,if_neg h1]
  exact ⟨h0,rfl,rfl,rfl⟩
theorem ls_go (h : chW n l = 0) (hj : j ≤ jsF n.toNat l) (hs : (rxF n.toNat l (itF n.toNat l j).1 (n.toNat + 1) 0).1 = []) (ht : ¬ tuF l (rxF n.toNat l (itF n.toNat l j).1 (n.toNat + 1) 0).2 (rxF n.toNat l (itF n.toNat l j).1 (n.toNat + 1) 0).2.length = 0) : j < jsF n.toNat l:=by
  have hz:=nnz h
  have hk:=js_ok hz.2.2.2.2.1 (tnn_of h) hz.2.1
  have hg : goF n.toNat l j = true:=by unfold goF;rw [← ti_all.2,decide_eq_true hs,decide_eq_true ht];rfl
  rcases Nat.lt_or_eq_of_le hj with e | e
  · exact e
  · rw [e,hk.1] at hg;cases hg
theorem it_nx : (itF n.toNat l (j + 1)).1 = tiF l (rxF n.toNat l (itF n.toNat l j).1 (n.toNat + 1) 0).2 (rxF n.toNat l (itF n.toNat l j).1 (n.toNat + 1) 0).2.length / ((tuF l (rxF n.toNat l (itF n.toNat l j).1 (n.toNat + 1) 0).2 (rxF n.toNat l (itF n.toNat l j).1 (n.toNat + 1) 0).2.length : Int) : Rat):=by
  rw [ti_all.1,ti_all.2];rfl
end
abbrev SCH (p : Rat) (s : List Rat) (lo : List Int) : MT:=PTS [(some 3,QC 4400 p),(none,QNS NB s),(none,ITS lo)]
instance {n : Int} {l : List WT} : Con Try.prog 12 [IT n,WTS l] (True) (MT.tup2 (SCH (lcP n l) (lcS n l) (lcL n l)) (.ex (errV 47 (lcE n l)))):=.o2 fun hok h1 h2 hp=>by
  refine St.enter (N:=59) Try.func12 rfl rfl rfl hok (enter2 h1 h2) fun a=>?_
  have hlim:=LS.lenM h2
  simp only [LIM] at hlim
  repeat' (first|((with_reducible refine gS_ ?_);first|((with_reducible refine gL_ ?_);first|refine W.run ?_ fun a w G=>?_|refine W.mv fun a w G=>?_|refine W.asg fun a w G=>?_|refine W.bx fun b a w G=>?_|(refine W.nn hK ?_;clear hK K)|refine W.nl ?_|refine W.al fun b a w G=>?_|refine W.st fun w=>?_|refine W.stp fun w=>?_|refine W.ste ?_ fun w=>?_)|((with_reducible refine gC_ ?_);first|refine W.reg fun K hK=>?_|refine W.reg1 ?_|refine W.sq fun K hK=>?_|refine W.ds ?_ (fun β a w G hu=>W.fin ?_ hu) mixedOrders (by kernel_rfl)|refine W.sk ?_|refine W.cd (fun hc=>?_) (fun hc=>?_)|refine W.cb (fun hc=>?_) (fun hc=>?_)|refine W.bl ?_|refine W.ex ?_|refine W.rt ?_)|((with_reducible refine W.kn hK ?_);clear hK K)|(with_reducible first|refine W.bn ?_|refine W.xt ?_|refine W.xb ?_|refine W.xo ?_|refine W.tr ?_|refine W.br ?_)|refine W.rt1 rfl ?_|refine W.rt2 rfl ?_ ?_|refine W.rt3 rfl ?_ ?_ ?_)|refine W.cast (t:=22) (τ:=IT n) (τ':=NT n.toNat) (nt_of (by have:=(nnz (n:=n) (l:=l) (by omega)).1;omega)) ?_|refine W.cast (t:=36) (τ:=LSN none ((rxF n.toNat l (itF n.toNat l j).1 (n.toNat + 1) 0).2.map fun z=>IT z)) (τ':=ITS (rxF n.toNat l (itF n.toNat l j).1 (n.toNat + 1) 0).2) (fun h=>h.1) ?_|refine W.lp 22 (α:=Nat) (fun j=>jsF n.toNat l - j) (fun j=>j ≤ jsF n.toNat l) [5,8,9,10,11,12,13,21,22,23,24,25,26,27,28,29,30,31,32,33,34,35,36,37,38,39,40,41,42,43,44,45,46,47,48,49,50,51,52,53,54,55,56,57,58] (fun j=>[]) (fun j=>[(7,PTS [(some 3,QC 4400 (itF n.toNat l j).1),(none,.ex (.slice none 0 0)),(none,ITS (itF n.toNat l j).2)])]) (0) ?_ ?_ ?_ fun j hj a w G=>?_|refine W.ag (x:=j) (j+1) ?_ ?_ ?_ ?_|clear hK K|clear hu|exact True.intro|exact Nat.le_trans (by clear hp;omega) hp|exact Nat.le_trans (by clear hp;omega) hp.1|exact Nat.le_trans (by clear hp;omega) hp.2|(clear hp;omega)|apply And.intro|refine GI.i fun _=>?_|with_reducible rfl|decide|(simp only [List.length_cons,List.length_nil];omega))
  all_goals (try have hg0 : chW n l = 0:=by omega)
  all_goals (try have hz:=nnz hg0)
  all_goals (try have hin:=rx_in (p:=(itF n.toNat l j).1) hz.2.2.2.2.1 hz.2.1)
  all_goals (try have htb:=tu_bd hz.2.2.2.2.2 hin.1 _ (Nat.le_refl _))
  all_goals (try simp only [List.length_map,BIG] at *)
  all_goals (try have hs0 : (rxF n.toNat l (itF n.toNat l j).1 (n.toNat + 1) 0).1 = []:=List.length_eq_zero_iff.1 (by omega))
  all_goals (try have hs1 : ¬ (rxF n.toNat l (itF n.toNat l j).1 (n.toNat + 1) 0).1 = []:=fun e0=>by have e1 : (rxF n.toNat l (itF n.toNat l j).1 (n.toNat + 1) 0).1.length = 0:=congrArg List.length e0;omega)
  all_goals (try have hls:=ls_y hg0 hj hs1)
  all_goals (try have hln:=ls_n hg0 hj hs0 (by assumption))
  all_goals (try have hlg:=ls_go hg0 hj hs0 (by assumption))
  all_goals first
    | omega
    | rfl
    | exact hz.2.2.2.2.1
    | exact hz.2.2.2.2.2
    | exact hin.1
    | exact hls.1
    | exact hls.2.1.symm
    | exact hls.2.2.1.symm
    | exact hls.2.2.2.symm
    | exact hln.1.symm
    | exact hln.2.1
    | exact hln.2.2.1
    | exact hln.2.2.2
    | exact it_nx.symm
    | (intro h9;exact absurd (by exact_mod_cast h9) (by assumption))
    | (have hle:=ls_e (n:=n) (l:=l) (by assumption);first | exact hle.1.symm | exact hle.2.1 | exact hle.2.2.1 | exact hle.2.2.2)
    | skip
end Go.Proofs.Ytjphllpnhjemjaa
set_option linter.unusedVariables false
set_option linter.unusedSimpArgs false
set_option maxHeartbeats 4000000
set_option maxRecDepth 100000
set_option synthInstance.maxSize 100000
set_option synthInstance.maxHeartbeats 400000
namespace Go.Proofs.Ytjphllpnhjemjaa
open Go.RowKit (Below)
attribute [local irreducible] Go.Code.wp Go.wpList Go.bodyPost
def vrB (n : Int) (l : List WT) (per : FR) (st : List FR) (lo : List Int) : Bool:=decide (vlC n l per st lo = 0) && vfB l per.val (st.map FR.val) lo
abbrev SCX (m : Nat) (per : FR) (st : List FR) (lo : List Int) : MT:=PTS [(some 3,FX m per),(none,LS (some 3) (st.map (FX m))),(none,ITS lo)]
section
variable {n : Int} {l : List WT} {per : FR} {st : List FR} {lo : List Int} {j : Nat}
theorem vl_c (h : ¬ chW n l = 0) : vlC n l per st lo = chW n l ∧ vrB n l per st lo = false:=by
  have e : vlC n l per st lo = chW n l:=if_neg h
  refine ⟨e,?_⟩
  unfold vrB;rw [e,decide_eq_false h,Bool.false_and]
theorem vl_10 (h : chW n l = 0) (h1 : (st.length : Int) ≠ n) : vlC n l per st lo = 10 ∧ vrB n l per st lo = false:=by
  have e : vlC n l per st lo = 10:=by unfold vlC;rw [if_pos h,if_pos h1]
  refine ⟨e,?_⟩
  unfold vrB;rw [e];rfl
theorem all_n {α : Type} [Inhabited α] {f : α → Bool} {xs : List α} (hj : j < xs.length) (h : f (xs.getD j default) = false) : xs.all f = false:=by
  rw [List.all_eq_false]
  rw [List.getD_eq_getElem?_getD,List.getElem?_eq_getElem hj,Option.getD_some] at h
  exact ⟨_,List.getElem_mem hj,by rw [h];decide⟩
theorem all_y {α : Type} [Inhabited α] {f : α → Bool} {xs : List α} (h : ∀ k,k < xs.length → f (xs.getD k default) = true) : xs.all f = true:=by
  rw [List.all_eq_true]
  intro x hx
  obtain ⟨k,hk,rfl⟩:=List.mem_iff_getElem.1 hx
  have:=h k hk
  rwa [List.getD_eq_getElem?_getD,List.getElem?_eq_getElem hk,Option.getD_some] at this
theorem vl_3 (h : chW n l = 0) (h1 : ¬ (st.length : Int) ≠ n) (hj : j < (per :: st).length) (h2 : (!((per :: st).getD j default).ok || decide (((per :: st).getD j default).val.num.sign < 0)) = true) : vlC n l per st lo = 3 ∧ vrB n l per st lo = false:=by
  have e : vlC n l per st lo = 3:=by unfold vlC;rw [if_pos h,if_neg h1,if_pos (all_n hj (nn_t h2))]
  refine ⟨e,?_⟩
  unfold vrB;rw [e];rfl
theorem vl_9 (h : chW n l = 0) (h1 : ¬ (st.length : Int) ≠ n) (ha : ∀ k,k < (per :: st).length → nnR ((per :: st).getD k default) = true) (hj : j < lo.length) (h2 : (decide (lo.getD j default < 0) || decide (lo.getD j default ≥ (l.length : Int))) = true) : vlC n l per st lo = 9 ∧ vrB n l per st lo = false:=by
  have hb : lo.all (inB l.length) = false:=all_n hj (by
    unfold inB
    simp only [Bool.or_eq_true,decide_eq_true_eq] at h2
    rcases h2 with h2 | h2
    · rw [decide_eq_false (show ¬ 0 ≤ lo.getD j default by omega),Bool.false_and]
    · rw [decide_eq_false (show ¬ lo.getD j default < (l.length : Int) by omega),Bool.and_false])
  have e : vlC n l per st lo = 9:=by unfold vlC;rw [if_pos h,if_neg h1,if_neg (by rw [all_y ha];decide),if_pos hb]
  refine ⟨e,?_⟩
  unfold vrB;rw [e];rfl
theorem inB_y {z : Int} (h : (decide (z < 0) || decide (z ≥ (l.length : Int))) = false) : inB l.length z = true:=by
  unfold inB
  simp only [Bool.or_eq_false_iff,decide_eq_false_iff_not] at h
  rw [decide_eq_true (show 0 ≤ z by omega),decide_eq_true (show z < (l.length : Int) by omega)];rfl
theorem vl_0 (h : chW n l = 0) (h1 : ¬ (st.length : Int) ≠ n) (ha : ∀ k,k < (per :: st).length → nnR ((per :: st).getD k default) = true) (hb : ∀ k,k < lo.length → inB l.length (lo.getD k default) = true) : vlC n l per st lo = 0 ∧ vrB n l per st lo = vfB l per.val (st.map FR.val) lo ∧ INL l lo:=by
  have e : vlC n l per st lo = 0:=by unfold vlC;rw [if_pos h,if_neg h1,if_neg (by rw [all_y ha];decide),if_neg (by rw [all_y hb];decide)]
  refine ⟨e,?_,(vl_ok e).2.2.2.2⟩
  unfold vrB;rw [e];rfl
theorem mv_get {i : Nat} (h : i < st.length) : (st.map FR.val).getD i default = (st.getD i default).val:=by
  rw [List.getD_eq_getElem?_getD,List.getD_eq_getElem?_getD,List.getElem?_map,List.getElem?_eq_getElem h];rfl
theorem sl_get {p : Rat} (h1 : (l.getD j default).2.1.toNat < st.length) (h2 : (l.getD j default).1.toNat < st.length) : slF l p (st.map FR.val) j = (st.getD (l.getD j default).2.1.toNat default).val - (st.getD (l.getD j default).1.toNat default).val - wgW p (l.getD j default):=by
  unfold slF wTo wFr
  rw [mv_get h1,mv_get h2]
theorem slB_n {p : Rat} {s : List Rat} (hj : j < l.length) (h : ¬ 0 ≤ slF l p s j) : slB l p s = false:=by
  unfold slB
  rw [List.all_eq_false]
  exact ⟨j,List.mem_range.2 hj,by rw [decide_eq_false h];decide⟩
theorem slB_y {p : Rat} {s : List Rat} (h : ∀ k,k < l.length → 0 ≤ slF l p s k) : slB l p s = true:=by
  unfold slB
  rw [List.all_eq_true]
  intro k hk;exact decide_eq_true (h k (List.mem_range.1 hk))
theorem cq_lt {x y : Rat} (h : cmpQ x y < 0) : x < y:=by
  unfold cmpQ at h
  split at h
  · assumption
  · split at h <;> omega
theorem cq_ge {x y : Rat} (h : ¬ cmpQ x y < 0) : y ≤ x:=by
  unfold cmpQ at h
  split at h
  · omega
  · rename_i h1;exact Rat.not_lt.1 h1
theorem sg_0 {x : Rat} : x.num.sign = 0 ↔ x = 0:=by
  rw [Int.sign_eq_zero_iff_zero];exact Rat.num_eq_zero
theorem vf_n {p : Rat} {s : List Rat} (h : slB l p s = false) : vfB l p s lo = false:=by unfold vfB;rw [h,Bool.false_and]
theorem vf_z {p : Rat} {s : List Rat} (h : slB l p s = true) (hp : p.num.sign = 0) : vfB l p s lo = decide (((lo.length : Nat) : Int) = 0):=by
  unfold vfB;rw [h,if_pos (sg_0.1 hp),Bool.true_and]
  congr 1;apply propext;omega
theorem vf_p {p : Rat} {s : List Rat} (h : slB l p s = true) (hp : ¬ p.num.sign = 0) : vfB l p s lo = ((lpB l lo && decide (tuF l lo lo.length > 0)) && decide (cmpQ (tiF l lo lo.length) (p * (tuF l lo lo.length : Rat)) = 0)):=by
  unfold vfB;rw [h,if_neg (fun e=>hp (sg_0.2 e)),Bool.true_and]
  have e : decide (cmpQ (tiF l lo lo.length) (p * (tuF l lo lo.length : Rat)) = 0) = decide (tiF l lo lo.length = p * (tuF l lo lo.length : Rat)):=by congr 1;exact propext cmpQ_eq0
  rw [e]
end
theorem wgF {m : Nat} {w : WT} {r : FR} : Con Try.prog 43 [WTX w,FX m r] (m ≤ NB ∧ -1000000 ≤ w.2.2.2 ∧ w.2.2.2 ≤ 1000000) (QC (m + 321) (wgW r.val w)):=.o2 fun hok h1 h2 hp=>by
  refine St.enter (N:=13) Try.func43 rfl rfl rfl hok (enter2 h1 h2) fun a=>?_
  repeat' (first|((with_reducible refine gS_ ?_);first|((with_reducible refine gL_ ?_);first|refine W.run ?_ fun a w G=>?_|refine W.mv fun a w G=>?_|refine W.asg fun a w G=>?_|refine W.bx fun b a w G=>?_|(refine W.nn hK ?_;clear hK K)|refine W.nl ?_|refine W.al fun b a w G=>?_|refine W.st fun w=>?_|refine W.stp fun w=>?_|refine W.ste ?_ fun w=>?_)|((with_reducible refine gC_ ?_);first|refine W.reg fun K hK=>?_|refine W.reg1 ?_|refine W.sq fun K hK=>?_|refine W.ds ?_ (fun β a w G hu=>W.fin ?_ hu) mixedOrders (by kernel_rfl)|refine W.sk ?_|refine W.cd (fun hc=>?_) (fun hc=>?_)|refine W.cb (fun hc=>?_) (fun hc=>?_)|refine W.bl ?_|refine W.ex ?_|refine W.rt ?_)|((with_reducible refine W.kn hK ?_);clear hK K)|(with_reducible first|refine W.bn ?_|refine W.xt ?_|refine W.xb ?_|refine W.xo ?_|refine W.tr ?_|refine W.br ?_)|refine W.rt1 rfl ?_|refine W.rt2 rfl ?_ ?_|refine W.rt3 rfl ?_ ?_ ?_)|clear hK K|clear hu|exact True.intro|exact Nat.le_trans (by clear hp;omega) hp|exact Nat.le_trans (by clear hp;omega) hp.1|exact Nat.le_trans (by clear hp;omega) hp.2|(clear hp;omega)|apply And.intro|refine GI.i fun _=>?_|with_reducible rfl|decide|(simp only [List.length_cons,List.length_nil];omega))
  all_goals first | omega | decide | rfl | (simp only [BIG,NB] at *;omega) | skip
instance {m : Nat} {w : WT} {r : FR} : Con Try.prog 43 [WTX w,FX m r] (m ≤ NB ∧ -1000000 ≤ w.2.2.2 ∧ w.2.2.2 ≤ 1000000) (QC (m + 321) (wgW r.val w)):=wgF
instance {n : Int} {l : List WT} {m : Nat} {per : FR} {st : List FR} {lo : List Int} : Con Try.prog 19 [IT n,WTS l,SCX m per st lo] (m ≤ NB ∧ st.length ≤ 60 ∧ lo.length ≤ 60) (MT.tup2 (BT (vrB n l per st lo)) (.ex (errV 47 (vlC n l per st lo)))):=.o3 fun hok h1 h2 h3 hp=>by
  refine St.enter (N:=126) Try.func19 rfl rfl rfl hok (enter3 h1 h2 h3) fun a=>?_
  have hlim:=LS.lenM h2
  simp only [LIM] at hlim
  repeat' (first|((with_reducible refine gS_ ?_);first|((with_reducible refine gL_ ?_);first|refine W.run ?_ fun a w G=>?_|refine W.mv fun a w G=>?_|refine W.asg fun a w G=>?_|refine W.bx fun b a w G=>?_|(refine W.nn hK ?_;clear hK K)|refine W.nl ?_|refine W.al fun b a w G=>?_|refine W.st fun w=>?_|refine W.stp fun w=>?_|refine W.ste ?_ fun w=>?_)|((with_reducible refine gC_ ?_);first|refine W.reg fun K hK=>?_|refine W.reg1 ?_|refine W.sq fun K hK=>?_|refine W.ds ?_ (fun β a w G hu=>W.fin ?_ hu) mixedOrders (by kernel_rfl)|refine W.sk ?_|refine W.cd (fun hc=>?_) (fun hc=>?_)|refine W.cb (fun hc=>?_) (fun hc=>?_)|refine W.bl ?_|refine W.ex ?_|refine W.rt ?_)|((with_reducible refine W.kn hK ?_);clear hK K)|(with_reducible first|refine W.bn ?_|refine W.xt ?_|refine W.xb ?_|refine W.xo ?_|refine W.tr ?_|refine W.br ?_)|refine W.rt1 rfl ?_|refine W.rt2 rfl ?_ ?_|refine W.rt3 rfl ?_ ?_ ?_)|refine W.lp 37 (α:=Nat) (fun j=>(per :: st).length - j) (fun j=>j ≤ (per :: st).length ∧ ∀ k,k < j → nnR ((per :: st).getD k default) = true) [6,7,10,36,37,38,39,40,41,42,43,44,45,46,47,48,49] (fun j=>[(36,NT j)]) (fun j=>[]) (0) ?_ ?_ ?_ fun j hj a w G=>?_|refine W.ag (x:=j) (j+1) ?_ ?_ ?_ ?_|refine W.lp 54 (α:=Nat) (fun k=>lo.length - k) (fun k=>k ≤ lo.length ∧ ∀ q,q < k → inB l.length (lo.getD q default) = true) [6,7,12,53,54,55,56,57,58,59,60,61,62,63,64,65,66] (fun k=>[(53,NT k)]) (fun k=>[]) (0) ?_ ?_ ?_ fun k hk a w G=>?_|refine W.ag (x:=k) (k+1) ?_ ?_ ?_ ?_|refine W.lp 70 (α:=Nat) (fun i=>l.length - i) (fun i=>i ≤ l.length ∧ ∀ q,q < i → 0 ≤ slF l per.val (st.map FR.val) q) [6,7,14,69,70,71,72,73,74,75,76,77,78,79,80,81,82,83,84,85,86,87,88,89,90,91,92] (fun i=>[(69,NT i)]) (fun i=>[]) (0) ?_ ?_ ?_ fun i hi a w G=>?_|refine W.ag (x:=i) (i+1) ?_ ?_ ?_ ?_|clear hK K|clear hu|exact True.intro|exact Nat.le_trans (by clear hp;omega) hp|exact Nat.le_trans (by clear hp;omega) hp.1|exact Nat.le_trans (by clear hp;omega) hp.2|(clear hp;omega)|apply And.intro|refine GI.i fun _=>?_|with_reducible rfl|decide|(simp only [List.length_cons,List.length_nil];omega))
  all_goals (try simp only [LIM,BIG,NB,List.cons_append,List.nil_append,List.length_cons,List.length_nil] at *)
  all_goals (try have hg0 : chW n l = 0:=by omega)
  all_goals (try have hz:=nnz hg0)
  all_goals (try have hj1 : j < (per :: st).length:=by simp only [List.length_cons];omega)
  all_goals (try have hst : ¬ (st.length : Int) ≠ n:=by omega)
  all_goals (try have hoi:=hz.2.2.2.2.1 i (by omega))
  all_goals (try have htu:=hz.2.2.2.2.2 i (by omega))
  all_goals (try unfold okW at hoi)
  all_goals (try have hv0:=vl_0 (per:=per) (st:=st) (lo:=lo) hg0 hst (fun k hk=>hj.2 k (by simp only [List.length_cons] at hk;omega)) (fun q hq=>hk.2 q (by omega)))
  all_goals (try have hv9:=vl_9 (per:=per) (st:=st) (lo:=lo) (j:=k) hg0 hst (fun k hk=>hj.2 k (by simp only [List.length_cons] at hk;omega)) (by omega) (by assumption))
  all_goals (try have htb:=tu_bd hz.2.2.2.2.2 hv0.2.2 _ (Nat.le_refl _))
  all_goals (try have hsg:=sl_get (l:=l) (st:=st) (j:=i) (p:=per.val) (by omega) (by omega))
  all_goals (try have hsy:=slB_y (l:=l) (p:=per.val) (s:=st.map FR.val) fun q hq=>hi.2 q (by omega))
  all_goals (try have hsn:=slB_n (l:=l) (p:=per.val) (s:=st.map FR.val) (j:=i) (by omega) (by rw [hsg];have:=cq_lt (by assumption);grind))
  all_goals first
    | omega
    | rfl
    | exact hv0.1
    | exact hv0.2.2
    | exact hz.2.2.2.2.2
    | exact (vl_c (by assumption)).1.symm
    | exact (vl_c (by assumption)).2.symm
    | exact (vl_10 hg0 (by assumption)).1.symm
    | exact (vl_10 hg0 (by assumption)).2.symm
    | exact (vl_3 hg0 hst hj1 (by assumption)).1.symm
    | exact (vl_3 hg0 hst hj1 (by assumption)).2.symm
    | exact hv9.1.symm
    | exact hv9.2.symm
    | (intro q hq
       rcases Nat.lt_or_eq_of_le (Nat.le_of_lt_succ hq) with e | e
       · exact hj.2 q e
       · subst e;exact nn_f (by assumption))
    | (intro q hq
       rcases Nat.lt_or_eq_of_le (Nat.le_of_lt_succ hq) with e | e
       · exact hk.2 q e
       · subst e;exact inB_y (by assumption))
    | (intro q hq
       rcases Nat.lt_or_eq_of_le (Nat.le_of_lt_succ hq) with e | e
       · exact hi.2 q e
       · subst e;rw [hsg];have:=cq_ge (by assumption);grind)
    | (rw [hv0.2.1,vf_n hsn];done)
    | (rw [hv0.2.1];exact (vf_z hsy (by assumption)).symm)
    | (rw [hv0.2.1];exact (vf_p hsy (by assumption)).symm)
    | skip
end Go.Proofs.Ytjphllpnhjemjaa
set_option linter.unusedVariables false
set_option linter.unusedSimpArgs false
set_option maxHeartbeats 4000000
set_option maxRecDepth 100000
set_option synthInstance.maxSize 100000
set_option synthInstance.maxHeartbeats 400000
namespace Go.Proofs.Ytjphllpnhjemjaa
open Go.RowKit (Below)
attribute [local irreducible] Go.Code.wp Go.wpList Go.bodyPost
theorem gdm {a b n : Int} : (((decide (a < 0) || decide (a ≥ n)) || decide (b < 0)) || decide (b ≥ n)) = (decide (min a b < 0) || decide (max a b ≥ n)):=by
  rw [Bool.eq_iff_iff]
  simp only [Bool.or_eq_true,decide_eq_true_eq]
  omega
section
variable {n m k i : Nat} {l : List WT} {p : Rat}
end
def rsC (n : Nat) (l : List WT) (p : Rat) : Int:=if rsF n l p (n + 1) 0 = [] then 16 else 0
theorem rsC_n {n : Nat} {l : List WT} {p : Rat} (h : rsF n l p (n + 1) 0 = []) : rsC n l p = 16:=if_pos h
theorem rsC_y {n : Nat} {l : List WT} {p : Rat} (h : ¬ rsF n l p (n + 1) 0 = []) : rsC n l p = 0:=if_neg h
instance {n : Int} {l : List WT} : Con Try.prog 26 [IT n,WTS l] (True) (IT (chW n l)):=.o2 fun hok h1 h2 hp=>by
  refine St.enter (N:=76) Try.func26 rfl rfl rfl hok (enter2 h1 h2) fun a=>?_
  have hlim:=LS.lenM h2
  simp only [LIM] at hlim
  repeat' (first|((with_reducible refine gS_ ?_);first|((with_reducible refine gL_ ?_);first|refine W.run ?_ fun a w G=>?_|refine W.mv fun a w G=>?_|refine W.asg fun a w G=>?_|refine W.bx fun b a w G=>?_|(refine W.nn hK ?_;clear hK K)|refine W.nl ?_|refine W.al fun b a w G=>?_|refine W.st fun w=>?_|refine W.stp fun w=>?_|refine W.ste ?_ fun w=>?_)|((with_reducible refine gC_ ?_);first|refine W.reg fun K hK=>?_|refine W.reg1 ?_|refine W.sq fun K hK=>?_|refine W.ds ?_ (fun β a w G hu=>W.fin ?_ hu) mixedOrders (by kernel_rfl)|refine W.sk ?_|refine W.cd (fun hc=>?_) (fun hc=>?_)|refine W.cb (fun hc=>?_) (fun hc=>?_)|refine W.bl ?_|refine W.ex ?_|refine W.rt ?_)|((with_reducible refine W.kn hK ?_);clear hK K)|(with_reducible first|refine W.bn ?_|refine W.xt ?_|refine W.xb ?_|refine W.xo ?_|refine W.tr ?_|refine W.br ?_)|refine W.rt1 rfl ?_|refine W.rt2 rfl ?_ ?_|refine W.rt3 rfl ?_ ?_ ?_)|refine W.lp 15 (α:=Nat) (fun j=>l.length - j) (fun j=>j ≤ l.length ∧ fsW n l = fsW n (l.drop j)) [4,5,15,16,17,18,19,20,21,22,23,24,25,26,27,28,29,30,31,32,33,34,35,36,37,38,39,40,41,42,43,44,45,46,47,48,49,50,51,52,53,54,55,56,57,58,59,60,61,62,63,64,65,66,67,68,69,70,71,72,73,74,75] (fun j=>[(5,NT j)]) (fun j=>[]) (0) ?_ ?_ ?_ fun j hj a w G=>?_|refine W.ag (x:=j) (j+1) ?_ ?_ ?_ ?_|clear hK K|clear hu|exact True.intro|exact Nat.le_trans (by clear hp;omega) hp|exact Nat.le_trans (by clear hp;omega) hp.1|exact Nat.le_trans (by clear hp;omega) hp.2|(clear hp;omega)|apply And.intro|refine GI.i fun _=>?_|with_reducible rfl|decide|(simp only [List.length_cons,List.length_nil];omega))
  all_goals (try rw [gdm] at *)
  all_goals (try have g9:=gd_9 (n:=n) (w:=l.getD j default) (by assumption))
  all_goals (try have g3:=gd_3 (n:=n) (w:=l.getD j default) (by assumption) (by assumption))
  all_goals (try have g0:=gd_0 (n:=n) (w:=l.getD j default) (by assumption) (by assumption))
  all_goals first
    | omega
    | (have h9:=ch_3 (n:=n) (l:=l) (by assumption);first | exact h9 | exact h9.symm | (rw [h9];done) | (rw [← h9];done))
    | (have h9:=ch_4 (n:=n) (l:=l) (by assumption) (by assumption);first | exact h9 | exact h9.symm | (rw [h9];done) | (rw [← h9];done))
    | (have h9:=(ch_f (by assumption) (by assumption)).trans (hj.2.trans ((fs_stop (n:=n) (l:=l) (j:=j) (by omega) (by rw [g9];decide)).trans g9));first | exact h9 | exact h9.symm | (rw [h9];done) | (rw [← h9];done))
    | (have h9:=(ch_f (by assumption) (by assumption)).trans (hj.2.trans ((fs_stop (n:=n) (l:=l) (j:=j) (by omega) (by rw [g3];decide)).trans g3));first | exact h9 | exact h9.symm | (rw [h9];done) | (rw [← h9];done))
    | (have h9:=(ch_f (by assumption) (by assumption)).trans (hj.2.trans (fs_end (n:=n) (l:=l) (j:=j) (by omega)));first | exact h9 | exact h9.symm | (rw [h9];done) | (rw [← h9];done))
    | exact hj.2.trans (fs_drop (by omega) g0)
    | rfl
    | skip
theorem chkRR {n : Int} {l : List WT} : Con Try.prog 26 [IT n,WRS l] (64 < l.length) (IT (chW n l)):=.o2 fun hok h1 h2 hp=>by
  refine St.enter (N:=76) Try.func26 rfl rfl rfl hok (enter2 h1 h2) fun a=>?_
  repeat' (first|((with_reducible refine gS_ ?_);first|((with_reducible refine gL_ ?_);first|refine W.run ?_ fun a w G=>?_|refine W.mv fun a w G=>?_|refine W.asg fun a w G=>?_|refine W.bx fun b a w G=>?_|(refine W.nn hK ?_;clear hK K)|refine W.nl ?_|refine W.al fun b a w G=>?_|refine W.st fun w=>?_|refine W.stp fun w=>?_|refine W.ste ?_ fun w=>?_)|((with_reducible refine gC_ ?_);first|with_reducible refine W.cbt (by exact decide_eq_true (show ((l.length : Nat) : Int) > 64 by omega)) ?_|refine W.reg fun K hK=>?_|refine W.reg1 ?_|refine W.sq fun K hK=>?_|refine W.ds ?_ (fun β a w G hu=>W.fin ?_ hu) mixedOrders (by kernel_rfl)|refine W.sk ?_|refine W.cd (fun hc=>?_) (fun hc=>?_)|refine W.cb (fun hc=>?_) (fun hc=>?_)|refine W.bl ?_|refine W.ex ?_|refine W.rt ?_)|((with_reducible refine W.kn hK ?_);clear hK K)|(with_reducible first|refine W.bn ?_|refine W.xt ?_|refine W.xb ?_|refine W.xo ?_|refine W.tr ?_|refine W.br ?_)|refine W.rt1 rfl ?_|refine W.rt2 rfl ?_ ?_|refine W.rt3 rfl ?_ ?_ ?_)|clear hK K|clear hu|exact True.intro|exact Nat.le_trans (by clear hp;omega) hp|exact Nat.le_trans (by clear hp;omega) hp.1|exact Nat.le_trans (by clear hp;omega) hp.2|(clear hp;omega)|apply And.intro|refine GI.i fun _=>?_|with_reducible rfl|decide|(simp only [List.length_cons,List.length_nil];omega))
  all_goals first
    | omega
    | (have h9:=ch_3 (n:=n) (l:=l) (by assumption);first | exact h9 | exact h9.symm | (rw [h9];done) | (rw [← h9];done))
    | (have h9:=ch_4 (n:=n) (l:=l) (by assumption) (by omega);first | exact h9 | exact h9.symm | (rw [h9];done) | (rw [← h9];done))
    | rfl
    | skip
instance {n : Int} {l : List WT} : Con Try.prog 26 [IT n,WRS l] (64 < l.length) (IT (chW n l)):=chkRR
end Go.Proofs.Ytjphllpnhjemjaa
set_option linter.unusedVariables false
set_option linter.unusedSimpArgs false
namespace Go.Proofs.Ytjphllpnhjemjaa
open Go.RowKit (Below)
section
variable {P : Program} {B : List BX} {L L' : List (Nat × MT)} {W0 W1 : World} {G0 G1 : Gh} {N : Nat} {a : Act} {w : World} {G : Gh} {Q : Exit → Act → World → Prop} {p : Prop} {K : Act → World → Prop} {d : Nat} {ty : TypeId} {k : Option Nat} {τ : MT}
end
end Go.Proofs.Ytjphllpnhjemjaa
set_option linter.unusedVariables false
set_option linter.unusedSimpArgs false
set_option maxHeartbeats 4000000
set_option maxRecDepth 100000
set_option synthInstance.maxSize 100000
set_option synthInstance.maxHeartbeats 400000
namespace Go.Proofs.Ytjphllpnhjemjaa
open Go.RowKit (Below)
attribute [local irreducible] Go.Code.wp Go.wpList Go.bodyPost
theorem sg_ge {x : Rat} (h : ¬ x.num.sign < 0) : 0 ≤ x:=by have:=(num_sg x).2.2.2;grind
theorem skT_get {l : List WT} {p : Rat} {s : List Rat} {j m : Nat} (h : j < m) : (skT l p s m).getD j default = slF l p s j:=by
  unfold skT
  rw [List.getD_eq_getElem?_getD,List.getElem?_map,List.getElem?_range h];rfl
end Go.Proofs.Ytjphllpnhjemjaa
set_option linter.unusedVariables false
set_option linter.unusedSimpArgs false
set_option maxHeartbeats 4000000
set_option maxRecDepth 100000
set_option synthInstance.maxSize 100000
set_option synthInstance.maxHeartbeats 400000
namespace Go.Proofs.Ytjphllpnhjemjaa
open Go.RowKit (Below)
attribute [local irreducible] Go.Code.wp Go.wpList Go.bodyPost
instance : DecidableEq FR:=fun r s=>decidable_of_iff (r.s = s.s ∧ r.p = s.p ∧ r.q = s.q) ⟨fun h=>by obtain ⟨a,b,c⟩:=r;obtain ⟨d,e,f⟩:=s;simp only at h;obtain ⟨rfl,rfl,rfl⟩:=h;rfl,fun h=>by subst h;exact ⟨rfl,rfl,rfl⟩⟩
theorem FR.eq_dec {r s : FR} : ((r.s == s.s) && decide (r.p = s.p) && decide (r.q = s.q)) = decide (r = s):=by
  rw [Bool.eq_iff_iff,Bool.and_eq_true,Bool.and_eq_true,decide_eq_true_eq,decide_eq_true_eq,decide_eq_true_eq,beq_iff_eq]
  obtain ⟨a,b,c⟩:=r;obtain ⟨d,e,f⟩:=s;simp [and_assoc]
theorem FR.of_inj {x y : Rat} (h : FR.of x = FR.of y) : x = y:=by rw [← FR.of_val (x:=x),h,FR.of_val]
section
variable {α : Type} {l k : List α} {j : Nat}
theorem eq_ln [DecidableEq α] (h : decide (((l.length : Nat) : Int) ≠ ((k.length : Nat) : Int)) = true) : false = decide (l = k):=by
  rw [decide_eq_true_eq] at h;exact (decide_eq_false fun e=>h (by rw [e])).symm
theorem eq_at [Inhabited α] [DecidableEq α] (hj : j < l.length) (hl : l.length = k.length) (h : l.getD j default ≠ k.getD j default) : false = decide (l = k):=(decide_eq_false fun e=>h (by rw [e])).symm
theorem eq_nx [Inhabited α] (hj : j < l.length) (hl : l.length = k.length) (h : l.take j = k.take j) (e : l.getD j default = k.getD j default) : l.take (j + 1) = k.take (j + 1):=by
  rw [List.getD_eq_getElem?_getD,List.getD_eq_getElem?_getD,List.getElem?_eq_getElem hj,List.getElem?_eq_getElem (by omega)] at e
  rw [List.take_add_one,List.take_add_one,h,List.getElem?_eq_getElem hj,List.getElem?_eq_getElem (by omega)]
  simp only [Option.getD_some] at e;rw [e]
theorem eq_en [DecidableEq α] (hj : ¬ j < l.length) (hl : l.length = k.length) (h : l.take j = k.take j) : true = decide (l = k):=by
  rw [List.take_of_length_le (by omega),List.take_of_length_le (by omega)] at h
  exact (decide_eq_true h).symm
end
theorem dig_getD (l : List Nat) (j : Nat) : dig l j = l.getD j default:=rfl
theorem w41 {l k : List Nat} : Con Try.prog 41 [SL l,SL k] (True) (BT (decide (l = k))):=.o2 fun hok h1 h2 hp=>by
  refine St.enter (N:=26) Try.func41 rfl rfl rfl hok (enter2 h1 h2) fun a=>?_
  have hlim:=SL.lim h1
  have hlim2:=SL.lim h2
  simp only [LIM] at hlim hlim2
  repeat' (first|((with_reducible refine gS_ ?_);first|((with_reducible refine gL_ ?_);first|refine W.run ?_ fun a w G=>?_|refine W.mv fun a w G=>?_|refine W.asg fun a w G=>?_|refine W.bx fun b a w G=>?_|(refine W.nn hK ?_;clear hK K)|refine W.nl ?_|refine W.al fun b a w G=>?_|refine W.st fun w=>?_|refine W.stp fun w=>?_|refine W.ste ?_ fun w=>?_)|((with_reducible refine gC_ ?_);first|refine W.reg fun K hK=>?_|refine W.reg1 ?_|refine W.sq fun K hK=>?_|refine W.ds ?_ (fun β a w G hu=>W.fin ?_ hu) mixedOrders (by kernel_rfl)|refine W.sk ?_|refine W.cd (fun hc=>?_) (fun hc=>?_)|refine W.cb (fun hc=>?_) (fun hc=>?_)|refine W.bl ?_|refine W.ex ?_|refine W.rt ?_)|((with_reducible refine W.kn hK ?_);clear hK K)|(with_reducible first|refine W.bn ?_|refine W.xt ?_|refine W.xb ?_|refine W.xo ?_|refine W.tr ?_|refine W.br ?_)|refine W.rt1 rfl ?_|refine W.rt2 rfl ?_ ?_|refine W.rt3 rfl ?_ ?_ ?_)|refine W.lp 11 (α:=Nat) (fun j=>l.length - j) (fun j=>j ≤ l.length ∧ l.take j = k.take j) [4,5,11,12,13,14,15,16,17,18,19,20,21,22,23,24,25] (fun j=>[(5,NT j)]) (fun j=>[]) (0) ?_ ?_ ?_ fun j hj a w G=>?_|refine W.ag (x:=j) (j+1) ?_ ?_ ?_ ?_|clear hK K|clear hu|exact True.intro|exact Nat.le_trans (by clear hp;omega) hp|exact Nat.le_trans (by clear hp;omega) hp.1|exact Nat.le_trans (by clear hp;omega) hp.2|(clear hp;omega)|apply And.intro|refine GI.i fun _=>?_|with_reducible rfl|decide|(simp only [List.length_cons,List.length_nil];omega))
  all_goals first
    | exact eq_ln (decide_eq_true hc)
    | (simp;done)
    | (exact (decide_eq_false fun e=>hc (by rw [e])).symm)
    | (have hle : l.length = k.length := by (have h0 : ¬ ((l.length : Nat) : Int) ≠ ((k.length : Nat) : Int) := by assumption); omega
       first
       | omega
       | exact eq_en (by omega) hle hj.2
       | ((simp only [Int.toNat_natCast,dig_getD] at *);first
         | exact eq_at (by omega) hle (by assumption)
         | exact eq_nx (by omega) hle hj.2 (Classical.not_not.1 (by assumption))))
    | skip
instance {l k : List Nat} {τ1 : MT} [j1 : NL τ1 (SL l)] {τ2 : MT} [j2 : NL τ2 (SL k)] : Con Try.prog 41 [τ1,τ2] (True) (BT (decide (l = k))):=.o2 fun hok h1 h2 hp=>w41.c2 hok (j1.h h1) (j2.h h2) hp
theorem w14 {r s : FR} : Con Try.prog 14 [RX r,RX s] (True) (BT (decide (r = s))):=.o2 fun hok h1 h2 hp=>by
  refine St.enter (N:=24) Try.func14 rfl rfl rfl hok (enter2 h1 h2) fun a=>?_
  repeat' (first|((with_reducible refine gS_ ?_);first|((with_reducible refine gL_ ?_);first|refine W.run ?_ fun a w G=>?_|refine W.mv fun a w G=>?_|refine W.asg fun a w G=>?_|refine W.bx fun b a w G=>?_|(refine W.nn hK ?_;clear hK K)|refine W.nl ?_|refine W.al fun b a w G=>?_|refine W.st fun w=>?_|refine W.stp fun w=>?_|refine W.ste ?_ fun w=>?_)|((with_reducible refine gC_ ?_);first|refine W.reg fun K hK=>?_|refine W.reg1 ?_|refine W.sq fun K hK=>?_|refine W.ds ?_ (fun β a w G hu=>W.fin ?_ hu) mixedOrders (by kernel_rfl)|refine W.sk ?_|refine W.cd (fun hc=>?_) (fun hc=>?_)|refine W.cb (fun hc=>?_) (fun hc=>?_)|refine W.bl ?_|refine W.ex ?_|refine W.rt ?_)|((with_reducible refine W.kn hK ?_);clear hK K)|(with_reducible first|refine W.bn ?_|refine W.xt ?_|refine W.xb ?_|refine W.xo ?_|refine W.tr ?_|refine W.br ?_)|refine W.rt1 rfl ?_|refine W.rt2 rfl ?_ ?_|refine W.rt3 rfl ?_ ?_ ?_)|clear hK K|clear hu|exact True.intro|exact Nat.le_trans (by clear hp;omega) hp|exact Nat.le_trans (by clear hp;omega) hp.1|exact Nat.le_trans (by clear hp;omega) hp.2|(clear hp;omega)|apply And.intro|refine GI.i fun _=>?_|with_reducible rfl|decide|(simp only [List.length_cons,List.length_nil];omega))
  all_goals first | exact FR.eq_dec | skip
instance {r s : FR} {τ1 : MT} [j1 : NR τ1 (RX r)] {τ2 : MT} [j2 : NR τ2 (RX s)] : Con Try.prog 14 [τ1,τ2] (True) (BT (decide (r = s))):=.o2 fun hok h1 h2 hp=>w14.c2 hok (j1.h h1) (j2.h h2) hp
theorem w24 {xs ys : List FR} : Con Try.prog 24 [LS (some 3) (xs.map RX),LS (some 3) (ys.map RX)] (True) (BT (decide (xs = ys))):=.o2 fun hok h1 h2 hp=>by
  refine St.enter (N:=27) Try.func24 rfl rfl rfl hok (enter2 h1 h2) fun a=>?_
  have hlim:=LS.lenM h1
  have hlim2:=LS.lenM h2
  simp only [LIM] at hlim hlim2
  repeat' (first|((with_reducible refine gS_ ?_);first|((with_reducible refine gL_ ?_);first|refine W.run ?_ fun a w G=>?_|refine W.mv fun a w G=>?_|refine W.asg fun a w G=>?_|refine W.bx fun b a w G=>?_|(refine W.nn hK ?_;clear hK K)|refine W.nl ?_|refine W.al fun b a w G=>?_|refine W.st fun w=>?_|refine W.stp fun w=>?_|refine W.ste ?_ fun w=>?_)|((with_reducible refine gC_ ?_);first|refine W.reg fun K hK=>?_|refine W.reg1 ?_|refine W.sq fun K hK=>?_|refine W.ds ?_ (fun β a w G hu=>W.fin ?_ hu) mixedOrders (by kernel_rfl)|refine W.sk ?_|refine W.cd (fun hc=>?_) (fun hc=>?_)|refine W.cb (fun hc=>?_) (fun hc=>?_)|refine W.bl ?_|refine W.ex ?_|refine W.rt ?_)|((with_reducible refine W.kn hK ?_);clear hK K)|(with_reducible first|refine W.bn ?_|refine W.xt ?_|refine W.xb ?_|refine W.xo ?_|refine W.tr ?_|refine W.br ?_)|refine W.rt1 rfl ?_|refine W.rt2 rfl ?_ ?_|refine W.rt3 rfl ?_ ?_ ?_)|refine W.lp 11 (α:=Nat) (fun j=>xs.length - j) (fun j=>j ≤ xs.length ∧ xs.take j = ys.take j) [4,5,11,12,13,14,15,16,17,18,19,20,21,22,23,24,25,26] (fun j=>[(5,NT j)]) (fun j=>[]) (0) ?_ ?_ ?_ fun j hj a w G=>?_|refine W.ag (x:=j) (j+1) ?_ ?_ ?_ ?_|clear hK K|clear hu|exact True.intro|exact Nat.le_trans (by clear hp;omega) hp|exact Nat.le_trans (by clear hp;omega) hp.1|exact Nat.le_trans (by clear hp;omega) hp.2|(clear hp;omega)|apply And.intro|refine GI.i fun _=>?_|with_reducible rfl|decide|(simp only [List.length_cons,List.length_nil];omega))
  all_goals first
    | exact eq_ln (decide_eq_true hc)
    | (simp;done)
    | (exact (decide_eq_false fun e=>hc (by rw [e])).symm)
    | (have hle : xs.length = ys.length := by (have h0 : ¬ ((xs.length : Nat) : Int) ≠ ((ys.length : Nat) : Int) := by assumption); omega
       first
       | omega
       | exact eq_en (by omega) hle hj.2
       | (first
         | (refine eq_at (j:=j) (by omega) hle ?_;simp only [Bool.not_eq_true',decide_eq_false_iff_not] at hc;exact hc)
         | exact eq_nx (by omega) hle hj.2 (by simpa using hc)))
    | skip
instance {xs ys : List FR} {τ1 : MT} [j1 : NR τ1 (LS (some 3) (xs.map RX))] {τ2 : MT} [j2 : NR τ2 (LS (some 3) (ys.map RX))] : Con Try.prog 24 [τ1,τ2] (True) (BT (decide (xs = ys))):=.o2 fun hok h1 h2 hp=>w24.c2 hok (j1.h h1) (j2.h h2) hp
abbrev LFR (l : List FR) : MT:=LS (some 3) (l.map RX)
instance {l : List FR} : AsT (LS (some 3) (l.map RX)) LFR l:=⟨fun h=>h⟩
theorem NM.lfr {n : Nat} {l : List Rat} {v : Value} {G : Gh} (h : (NM n l).t v G) : (LFR (l.map FR.of)).t v G:=LS.convM (T:=QC n) (U:=RX) (f:=FR.of) h (by simp) fun x hx v G hv=>FX.toRX (QC.toFX hv (one_le_of_lt x.den_nz hv.1.2))
instance NR.nm {n : Nat} {l : List Rat} : NR (LS (some 3) (l.map (QC n))) (LS (some 3) ((l.map FR.of).map RX)):=⟨NM.lfr⟩
instance NR.rts {n : Nat} {rs : List (List Rat)} : NR (LS none (rs.map (NM n))) (LS none ((rs.map (List.map FR.of)).map LFR)):=⟨fun h=>LS.convM (T:=NM n) (U:=LFR) (f:=List.map FR.of) h (by simp) fun x hx v G hv=>NM.lfr hv⟩
theorem mof_inj {l k : List Rat} (h : l.map FR.of = k.map FR.of) : l = k:=by
  induction l generalizing k with
  | nil=>cases k with
    | nil=>rfl
    | cons y k=>cases h
  | cons x l ih=>cases k with
    | nil=>cases h
    | cons y k=>simp only [List.map_cons,List.cons.injEq] at h;rw [FR.of_inj h.1,ih h.2]
theorem mof_dec {l k : List Rat} : decide (l.map FR.of = k.map FR.of) = decide (l = k):=decide_eq_decide.2 ⟨mof_inj,fun h=>by rw [h]⟩
theorem PTS.lenL {α : Type} {T : α → MT} {xs : List α} {v : Value} {G : Gh} (h : (PTS [(none,LS none (xs.map T))]).t v G) : xs.length ≤ LIM:=by
  obtain ⟨us,_,hl,hE⟩:=h
  match us,hl with
  | u :: us,_=>exact LS.lenM (hE 0 _ u rfl rfl).2
instance (priority:=1100) {n m : Nat} {l k : List Rat} {τ1 τ2 : MT} [j1 : NU τ1 (NM n l)] [j2 : NU τ2 (NM m k)] : Con Try.prog 24 [τ1,τ2] True (BT (decide (l = k))):=.o2 fun hok h1 h2 hp=>by
  have:=(inferInstance : Con Try.prog 24 [NM n l,NM m k] _ _).c2 hok (j1.h h1) (j2.h h2) hp
  rwa [mof_dec] at this
end Go.Proofs.Ytjphllpnhjemjaa
set_option linter.unusedVariables false
set_option linter.unusedSimpArgs false
set_option maxHeartbeats 4000000
set_option maxRecDepth 100000
set_option synthInstance.maxSize 100000
set_option synthInstance.maxHeartbeats 400000
namespace Go.Proofs.Ytjphllpnhjemjaa
open Go.RowKit (Below)
attribute [local irreducible] Go.Code.wp Go.wpList Go.bodyPost
def lgR (r : FR) : Bool:=decide (((r.p.length : Nat) : Int) + ((r.q.length : Nat) : Int) > 4)
def lrg (l : List WT) : Bool:=if 16 < l.length then (decide (((l.length : Nat) : Int) ≤ 64) || decide (((l.length : Nat) : Int) > 200)) else l.any fun w=>lgR w.2.2.1
theorem lrg_1 {l : List WT} (h : ((l.length : Nat) : Int) > 16) : lrg l = (decide (((l.length : Nat) : Int) ≤ 64) || decide (((l.length : Nat) : Int) > 200)):=if_pos (by omega)
theorem lrg_0 {l : List WT} (h : ¬ ((l.length : Nat) : Int) > 16) : lrg l = l.any fun w=>lgR w.2.2.1:=if_neg (by omega)
theorem lrg_t {l : List WT} {j : Nat} (h : ¬ ((l.length : Nat) : Int) > 16) (hj : j < l.length) (h2 : lgR (l.getD j default).2.2.1 = true) : lrg l = true:=by
  rw [lrg_0 h,List.any_eq_true]
  rw [List.getD_eq_getElem?_getD,List.getElem?_eq_getElem hj,Option.getD_some] at h2
  exact ⟨_,List.getElem_mem hj,h2⟩
theorem lrg_f {l : List WT} (h : ¬ ((l.length : Nat) : Int) > 16) (h2 : ∀ j,j < l.length → lgR (l.getD j default).2.2.1 = false) : lrg l = false:=by
  rw [lrg_0 h,List.any_eq_false]
  intro w hw
  obtain ⟨j,hj,rfl⟩:=List.mem_iff_getElem.1 hw
  have:=h2 j hj
  rw [List.getD_eq_getElem?_getD,List.getElem?_eq_getElem hj,Option.getD_some] at this
  rw [this];decide
theorem val128 {l : List Nat} (hw : wfl l) (h : l.length ≤ 4) : Go.Proofs.Ytjphllpnhjemjaa.val l < 2 ^ 256:=by
  have h1:=val_lt hw
  exact Nat.lt_of_lt_of_le h1 (by have:=Nat.pow_le_pow_right (show 0 < 2 by decide) (show 32 * l.length ≤ 256 by omega);first | exact this | (rw [← Nat.pow_mul] ;exact this) | (refine Nat.le_trans ?_ this;rw [Nat.pow_mul];exact Nat.le_refl _))
theorem RX.toFX4 {r : FR} {v : Value} {G : Gh} (h : (RX r).t v G) (hs : lgR r = false) : (FX 256 r).t v G:=by
  have hs:=of_decide_eq_false hs
  obtain ⟨x,y,e,hp,hq⟩:=h
  exact ⟨by decide,val128 (SL.wf hp) (by omega),val128 (SL.wf hq) (by omega),x,y,e,hp,hq⟩
instance NS.f4 {r : FR} : NS (RX r) (FX 256 r) (lgR r = false):=⟨fun hs h=>RX.toFX4 h hs⟩
theorem WRS.to {l : List WT} {v : Value} {G : Gh} (h : (WRS l).t v G) (hs : ∀ w ∈ l,lgR w.2.2.1 = false) : (WTS l).t v G :=
  LS.convM (T:=WRX) (U:=WTX) (f:=fun w=>w) h (by simp) fun w hw v G hv=>by
    have:=hs w hw
    exact NS.h (τ:=WRX w) (τ':=WTX w) (by simpa using this) hv
theorem lrg_s {l : List WT} (h : lrg l = false) (hl : l.length ≤ 16) : ∀ w ∈ l,lgR w.2.2.1 = false:=by
  rw [lrg_0 (by omega),List.any_eq_false] at h
  intro w hw
  simpa using h w hw
instance NR.wts {l : List WT} : NR (WTS l) (WRS l):=⟨fun h=>LS.convM (T:=WTX) (U:=WRX) (f:=fun w=>w) h (by simp) fun w hw v G hv=>NR.h (τ:=WTX w) (τ':=WRX w) hv⟩
theorem w8 {r : FR} : Con Try.prog 8 [RX r] (True) (BT (lgR r)):=.o1 fun hok h1 hp=>by
  refine St.enter (N:=11) Try.func8 rfl rfl rfl hok (enter1 h1) fun a=>?_
  have hl1 : r.p.length ≤ LIM ∧ r.q.length ≤ LIM:=by obtain ⟨x,y,e,hp2,hq2⟩:=h1;exact ⟨SL.lim hp2,SL.lim hq2⟩
  simp only [LIM] at hl1
  repeat' (first|((with_reducible refine gS_ ?_);first|((with_reducible refine gL_ ?_);first|refine W.run ?_ fun a w G=>?_|refine W.mv fun a w G=>?_|refine W.asg fun a w G=>?_|refine W.bx fun b a w G=>?_|(refine W.nn hK ?_;clear hK K)|refine W.nl ?_|refine W.al fun b a w G=>?_|refine W.st fun w=>?_|refine W.stp fun w=>?_|refine W.ste ?_ fun w=>?_)|((with_reducible refine gC_ ?_);first|refine W.reg fun K hK=>?_|refine W.reg1 ?_|refine W.sq fun K hK=>?_|refine W.ds ?_ (fun β a w G hu=>W.fin ?_ hu) mixedOrders (by kernel_rfl)|refine W.sk ?_|refine W.cd (fun hc=>?_) (fun hc=>?_)|refine W.cb (fun hc=>?_) (fun hc=>?_)|refine W.bl ?_|refine W.ex ?_|refine W.rt ?_)|((with_reducible refine W.kn hK ?_);clear hK K)|(with_reducible first|refine W.bn ?_|refine W.xt ?_|refine W.xb ?_|refine W.xo ?_|refine W.tr ?_|refine W.br ?_)|refine W.rt1 rfl ?_|refine W.rt2 rfl ?_ ?_|refine W.rt3 rfl ?_ ?_ ?_)|clear hK K|clear hu|exact True.intro|exact Nat.le_trans (by clear hp;omega) hp|exact Nat.le_trans (by clear hp;omega) hp.1|exact Nat.le_trans (by clear hp;omega) hp.2|(clear hp;omega)|apply And.intro|refine GI.i fun _=>?_|with_reducible rfl|decide|(simp only [List.length_cons,List.length_nil];omega))
  all_goals first | omega | rfl | skip
instance {r : FR} {τ1 : MT} [j1 : NR τ1 (RX r)] : Con Try.prog 8 [τ1] (True) (BT (lgR r)):=.o1 fun hok h1 hp=>w8.c1 hok (j1.h h1) hp
theorem w25 {l : List WT} : Con Try.prog 25 [WRS l] (True) (BT (lrg l)):=.o1 fun hok h1 hp=>by
  refine St.enter (N:=27) Try.func25 rfl rfl rfl hok (enter1 h1) fun a=>?_
  have hlim:=LS.lenM h1
  simp only [LIM] at hlim
  repeat' (first|((with_reducible refine gS_ ?_);first|((with_reducible refine gL_ ?_);first|refine W.run ?_ fun a w G=>?_|refine W.mv fun a w G=>?_|refine W.asg fun a w G=>?_|refine W.bx fun b a w G=>?_|(refine W.nn hK ?_;clear hK K)|refine W.nl ?_|refine W.al fun b a w G=>?_|refine W.st fun w=>?_|refine W.stp fun w=>?_|refine W.ste ?_ fun w=>?_)|((with_reducible refine gC_ ?_);first|refine W.reg fun K hK=>?_|refine W.reg1 ?_|refine W.sq fun K hK=>?_|refine W.ds ?_ (fun β a w G hu=>W.fin ?_ hu) mixedOrders (by kernel_rfl)|refine W.sk ?_|refine W.cd (fun hc=>?_) (fun hc=>?_)|refine W.cb (fun hc=>?_) (fun hc=>?_)|refine W.bl ?_|refine W.ex ?_|refine W.rt ?_)|((with_reducible refine W.kn hK ?_);clear hK K)|(with_reducible first|refine W.bn ?_|refine W.xt ?_|refine W.xb ?_|refine W.xo ?_|refine W.tr ?_|refine W.br ?_)|refine W.rt1 rfl ?_|refine W.rt2 rfl ?_ ?_|refine W.rt3 rfl ?_ ?_ ?_)|refine W.lp 15 (α:=Nat) (fun j=>l.length - j) (fun j=>j ≤ l.length ∧ ∀ k,k < j → lgR (l.getD k default).2.2.1 = false) [2,3,15,16,17,18,19,20,21,22,23,24,25,26] (fun j=>[(3,NT j)]) (fun j=>[]) (0) ?_ ?_ ?_ fun j hj a w G=>?_|refine W.ag (x:=j) (j+1) ?_ ?_ ?_ ?_|clear hK K|clear hu|exact True.intro|exact Nat.le_trans (by clear hp;omega) hp|exact Nat.le_trans (by clear hp;omega) hp.1|exact Nat.le_trans (by clear hp;omega) hp.2|(clear hp;omega)|apply And.intro|refine GI.i fun _=>?_|with_reducible rfl|decide|(simp only [List.length_cons,List.length_nil];omega))
  all_goals first
    | omega
    | rfl
    | exact (lrg_1 (by assumption)).symm
    | exact (lrg_t (j:=j) (by assumption) (by omega) (decide_eq_true (by assumption))).symm
    | exact (lrg_f (by assumption) fun q hq=>hj.2 q (by omega)).symm
    | (intro q hq
       rcases Nat.lt_or_eq_of_le (Nat.le_of_lt_succ hq) with e | e
       · exact hj.2 q e
       · subst e;exact decide_eq_false (by assumption))
    | skip
instance {l : List WT} {τ1 : MT} [j1 : NR τ1 (WRS l)] : Con Try.prog 25 [τ1] (True) (BT (lrg l)):=.o1 fun hok h1 hp=>w25.c1 hok (j1.h h1) hp
theorem exA_ch : chW 2 exA = 0:=by decide +kernel
theorem exA_lc : lcE 2 exA = 0 ∧ lcP 2 exA = 5 ∧ lcS 2 exA = [0,3]:=by
  unfold lcE lcP lcS
  rw [if_pos exA_ch,if_pos exA_ch,if_pos exA_ch]
  exact exA_l
theorem exA_gv : gvC 2 exA (FR.of 4) = 0:=by
  unfold gvC
  rw [if_pos exA_ch,if_pos (by unfold nnR;rw [FR.of_ok,FR.of_val];decide +kernel)]
theorem exA_st : stC 2 exA (FR.of 4) = 16:=by
  unfold stC
  rw [if_pos exA_gv,FR.of_val]
  exact if_pos exA_4
theorem wtx_mk {n : Nat} {x : Rat} {a b c : Int} (hn : n ≤ 256) {v : Value} {G : Gh} (h : (PTS [(none,IT a),(none,IT b),(some 3,QC n x),(none,IT c)]).t v G) : (WTX (a,b,FR.of x,c)).t v G:=by
  obtain ⟨us,e1,h1,h2⟩:=h
  refine ⟨us,e1,h1,fun i p u hp hu=>?_⟩
  match i,hp with
  | 0,hp=>cases hp;exact h2 0 _ u rfl hu
  | 1,hp=>cases hp;exact h2 1 _ u rfl hu
  | 2,hp=>cases hp;obtain ⟨d1,d2⟩:=h2 2 _ u rfl hu;exact ⟨d1,FX.up (QC.toFX d2 (one_le_of_lt x.den_nz d2.1.2)) hn⟩
  | 3,hp=>cases hp;exact h2 3 _ u rfl hu
  | i + 4,hp=>cases hp
instance {n : Nat} {x : Rat} {a b c : Int} : Fit (PTS [(none,IT a),(none,IT b),(some 3,QC n x),(none,IT c)]) WTX (a,b,FR.of x,c) (n ≤ 256):=⟨fun e _ _ h=>wtx_mk e h⟩
theorem exaw  : Con Try.prog 22 [] (True) (LS (some 6) (([(0,1,FR.of 3,0),(1,0,FR.of 2,1)] : List WT).map WTX)):=.o0 fun hok  hp=>by
  refine St.enter (N:=6) Try.func22 rfl rfl rfl hok enter0 fun a=>?_
  repeat' (first|((with_reducible refine gS_ ?_);first|((with_reducible refine gL_ ?_);first|refine W.run ?_ fun a w G=>?_|refine W.mv fun a w G=>?_|refine W.asg fun a w G=>?_|refine W.bx fun b a w G=>?_|(refine W.nn hK ?_;clear hK K)|refine W.nl ?_|refine W.al fun b a w G=>?_|refine W.st fun w=>?_|refine W.stp fun w=>?_|refine W.ste ?_ fun w=>?_)|((with_reducible refine gC_ ?_);first|refine W.reg fun K hK=>?_|refine W.reg1 ?_|refine W.sq fun K hK=>?_|refine W.ds ?_ (fun β a w G hu=>W.fin ?_ hu) mixedOrders (by kernel_rfl)|refine W.sk ?_|refine W.cd (fun hc=>?_) (fun hc=>?_)|refine W.cb (fun hc=>?_) (fun hc=>?_)|refine W.bl ?_|refine W.ex ?_|refine W.rt ?_)|((with_reducible refine W.kn hK ?_);clear hK K)|(with_reducible first|refine W.bn ?_|refine W.xt ?_|refine W.xb ?_|refine W.xo ?_|refine W.tr ?_|refine W.br ?_)|refine W.rt1 rfl ?_|refine W.rt2 rfl ?_ ?_|refine W.rt3 rfl ?_ ?_ ?_)|clear hK K|clear hu|exact True.intro|exact Nat.le_trans (by clear hp;omega) hp|exact Nat.le_trans (by clear hp;omega) hp.1|exact Nat.le_trans (by clear hp;omega) hp.2|(clear hp;omega)|apply And.intro|refine GI.i fun _=>?_|with_reducible rfl|decide|(simp only [List.length_cons,List.length_nil];omega))
  all_goals first | omega | rfl | decide | skip
theorem exA_eq : ([(0,1,FR.of 3,0),(1,0,FR.of 2,1)] : List WT) = exA:=by decide +kernel
instance : Con Try.prog 22 [] True (WTS exA):=.o0 fun hok hp=>by have h:=exaw.h (vs:=[]) hok trivial hp;rw [exA_eq] at h;exact h
instance  : Con Try.prog 6 [] (True) (BT true):=.o0 fun hok  hp=>by
  refine St.enter (N:=36) Try.func6 rfl rfl rfl hok enter0 fun a=>?_
  repeat' (first|((with_reducible refine gS_ ?_);first|((with_reducible refine gL_ ?_);first|refine W.run ?_ fun a w G=>?_|refine W.mv fun a w G=>?_|refine W.asg fun a w G=>?_|refine W.bx fun b a w G=>?_|(refine W.nn hK ?_;clear hK K)|refine W.nl ?_|refine W.al fun b a w G=>?_|refine W.st fun w=>?_|refine W.stp fun w=>?_|refine W.ste ?_ fun w=>?_)|((with_reducible refine gC_ ?_);first|refine W.reg fun K hK=>?_|refine W.reg1 ?_|refine W.sq fun K hK=>?_|refine W.ds ?_ (fun β a w G hu=>W.fin ?_ hu) mixedOrders (by kernel_rfl)|refine W.sk ?_|refine W.cd (fun hc=>?_) (fun hc=>?_)|refine W.cb (fun hc=>?_) (fun hc=>?_)|refine W.bl ?_|refine W.ex ?_|refine W.rt ?_)|((with_reducible refine W.kn hK ?_);clear hK K)|(with_reducible first|refine W.bn ?_|refine W.xt ?_|refine W.xb ?_|refine W.xo ?_|refine W.tr ?_|refine W.br ?_)|refine W.rt1 rfl ?_|refine W.rt2 rfl ?_ ?_|refine W.rt3 rfl ?_ ?_ ?_)|clear hK K|clear hu|exact True.intro|exact Nat.le_trans (by clear hp;omega) hp|exact Nat.le_trans (by clear hp;omega) hp.1|exact Nat.le_trans (by clear hp;omega) hp.2|(clear hp;omega)|apply And.intro|refine GI.i fun _=>?_|with_reducible rfl|decide|(simp only [List.length_cons,List.length_nil];omega))
  all_goals first
    | omega
    | (rw [exA_lc.1,exA_lc.2.1,exA_lc.2.2,exA_st];decide +kernel)
    | decide
    | skip
end Go.Proofs.Ytjphllpnhjemjaa
set_option linter.unusedVariables false
set_option linter.unusedSimpArgs false
set_option maxHeartbeats 4000000
set_option maxRecDepth 100000
set_option synthInstance.maxSize 100000
set_option synthInstance.maxHeartbeats 400000
namespace Go.Proofs.Ytjphllpnhjemjaa
open Go.RowKit (Below)
attribute [local irreducible] Go.Code.wp Go.wpList Go.bodyPost
theorem ch_big {n : Int} {l : List WT} (h : 64 < l.length) : ¬ chW n l = 0:=fun e=>by have:=ch_ok e;omega
theorem st_big {n : Int} {l : List WT} {r : FR} (h : ¬ chW n l = 0) : gvC n l r = chW n l ∧ stC n l r = chW n l ∧ stL n l r = [] ∧ skL n l r = []:=by
  have e : gvC n l r = chW n l:=gv_c h
  have h1:=st_e (n:=n) (l:=l) (r:=r) (by rw [e];exact h)
  exact ⟨e,h1.1.trans e,h1.2,sk_e (by rw [h1.1,e];exact h)⟩
theorem gv_y {n : Int} {l : List WT} {r : FR} (h : chW n l = 0) (h2 : nnR r = true) : gvC n l r = 0:=by unfold gvC;rw [if_pos h,h2];rfl
theorem st_rs {n : Int} {l : List WT} {r : FR} (h : chW n l = 0) (h2 : nnR r = true) : stC n l r = rsC n.toNat l r.val ∧ stL n l r = rsF n.toNat l r.val (n.toNat + 1) 0:=by
  unfold stC stL
  rw [if_pos (gv_y h h2),if_pos (gv_y h h2)]
  exact ⟨rfl,rfl⟩
theorem rs_len {n : Nat} {l : List WT} {p : Rat} (hl : OKL n l) (h : ¬ rsF n l p (n + 1) 0 = []) : (rsF n l p (n + 1) 0).length = n:=by
  obtain ⟨j,hj,_⟩:=rs_fea hl _ _ h
  rw [hj,roF_len.1]
instance {n : Int} {l : List WT} {r : FR} : Con Try.prog 42 [IT n,WRS l,FX 256 r] (64 < l.length) (.ex (errV 47 (gvC n l r))):=.o3 fun hok h1 h2 h3 hp=>by
  refine St.enter (N:=23) Try.func42 rfl rfl rfl hok (enter3 h1 h2 h3) fun a=>?_
  have hb:=ch_big (n:=n) hp
  have hs:=st_big (r:=r) hb
  repeat' (first|((with_reducible refine gS_ ?_);first|((with_reducible refine gL_ ?_);first|refine W.run ?_ fun a w G=>?_|refine W.mv fun a w G=>?_|refine W.asg fun a w G=>?_|refine W.bx fun b a w G=>?_|(refine W.nn hK ?_;clear hK K)|refine W.nl ?_|refine W.al fun b a w G=>?_|refine W.st fun w=>?_|refine W.stp fun w=>?_|refine W.ste ?_ fun w=>?_)|((with_reducible refine gC_ ?_);first|refine W.reg fun K hK=>?_|refine W.reg1 ?_|refine W.sq fun K hK=>?_|refine W.ds ?_ (fun β a w G hu=>W.fin ?_ hu) mixedOrders (by kernel_rfl)|refine W.sk ?_|refine W.cd (fun hc=>?_) (fun hc=>?_)|refine W.cb (fun hc=>?_) (fun hc=>?_)|refine W.bl ?_|refine W.ex ?_|refine W.rt ?_)|((with_reducible refine W.kn hK ?_);clear hK K)|(with_reducible first|refine W.bn ?_|refine W.xt ?_|refine W.xb ?_|refine W.xo ?_|refine W.tr ?_|refine W.br ?_)|refine W.rt1 rfl ?_|refine W.rt2 rfl ?_ ?_|refine W.rt3 rfl ?_ ?_ ?_)|clear hK K|clear hu|exact True.intro|exact Nat.le_trans (by clear hp;omega) hp|exact Nat.le_trans (by clear hp;omega) hp.1|exact Nat.le_trans (by clear hp;omega) hp.2|(clear hp;omega)|apply And.intro|refine GI.i fun _=>?_|with_reducible rfl|decide|(simp only [List.length_cons,List.length_nil];omega))
  all_goals first
    | omega
    | exact hs.1.symm
    | exact hs.2.1.symm
    | (rw [hs.2.1];done)
    | exact hs.2.2.1
    | exact hs.2.2.1.symm
    | exact hs.2.2.2
    | exact hs.2.2.2.symm
    | skip
instance {n : Int} {l : List WT} {r : FR} : Con Try.prog 15 [IT n,WRS l,FX 256 r] (64 < l.length) (MT.tup2 (QNS NB (stL n l r)) (.ex (errV 47 (stC n l r)))):=.o3 fun hok h1 h2 h3 hp=>by
  refine St.enter (N:=29) Try.func15 rfl rfl rfl hok (enter3 h1 h2 h3) fun a=>?_
  have hb:=ch_big (n:=n) hp
  have hs:=st_big (r:=r) hb
  repeat' (first|((with_reducible refine gS_ ?_);first|((with_reducible refine gL_ ?_);first|refine W.run ?_ fun a w G=>?_|refine W.mv fun a w G=>?_|refine W.asg fun a w G=>?_|refine W.bx fun b a w G=>?_|(refine W.nn hK ?_;clear hK K)|refine W.nl ?_|refine W.al fun b a w G=>?_|refine W.st fun w=>?_|refine W.stp fun w=>?_|refine W.ste ?_ fun w=>?_)|((with_reducible refine gC_ ?_);first|refine W.reg fun K hK=>?_|refine W.reg1 ?_|refine W.sq fun K hK=>?_|refine W.ds ?_ (fun β a w G hu=>W.fin ?_ hu) mixedOrders (by kernel_rfl)|refine W.sk ?_|refine W.cd (fun hc=>?_) (fun hc=>?_)|refine W.cb (fun hc=>?_) (fun hc=>?_)|refine W.bl ?_|refine W.ex ?_|refine W.rt ?_)|((with_reducible refine W.kn hK ?_);clear hK K)|(with_reducible first|refine W.bn ?_|refine W.xt ?_|refine W.xb ?_|refine W.xo ?_|refine W.tr ?_|refine W.br ?_)|refine W.rt1 rfl ?_|refine W.rt2 rfl ?_ ?_|refine W.rt3 rfl ?_ ?_ ?_)|clear hK K|clear hu|exact True.intro|exact Nat.le_trans (by clear hp;omega) hp|exact Nat.le_trans (by clear hp;omega) hp.1|exact Nat.le_trans (by clear hp;omega) hp.2|(clear hp;omega)|apply And.intro|refine GI.i fun _=>?_|with_reducible rfl|decide|(simp only [List.length_cons,List.length_nil];omega))
  all_goals first
    | omega
    | exact hs.1.symm
    | exact hs.2.1.symm
    | (rw [hs.2.1];done)
    | exact hs.2.2.1
    | exact hs.2.2.1.symm
    | exact hs.2.2.2
    | exact hs.2.2.2.symm
    | skip
instance {n : Int} {l : List WT} {r : FR} : Con Try.prog 16 [IT n,WRS l,FX 256 r] (64 < l.length) (MT.tup2 (QNS (NB + NB + 1 + 4800 + 1) (skL n l r)) (.ex (errV 47 (stC n l r)))):=.o3 fun hok h1 h2 h3 hp=>by
  refine St.enter (N:=49) Try.func16 rfl rfl rfl hok (enter3 h1 h2 h3) fun a=>?_
  have hb:=ch_big (n:=n) hp
  have hs:=st_big (r:=r) hb
  repeat' (first|((with_reducible refine gS_ ?_);first|((with_reducible refine gL_ ?_);first|refine W.run ?_ fun a w G=>?_|refine W.mv fun a w G=>?_|refine W.asg fun a w G=>?_|refine W.bx fun b a w G=>?_|(refine W.nn hK ?_;clear hK K)|refine W.nl ?_|refine W.al fun b a w G=>?_|refine W.st fun w=>?_|refine W.stp fun w=>?_|refine W.ste ?_ fun w=>?_)|((with_reducible refine gC_ ?_);first|refine W.reg fun K hK=>?_|refine W.reg1 ?_|refine W.sq fun K hK=>?_|refine W.ds ?_ (fun β a w G hu=>W.fin ?_ hu) mixedOrders (by kernel_rfl)|refine W.sk ?_|refine W.cd (fun hc=>?_) (fun hc=>?_)|refine W.cb (fun hc=>?_) (fun hc=>?_)|refine W.bl ?_|refine W.ex ?_|refine W.rt ?_)|((with_reducible refine W.kn hK ?_);clear hK K)|(with_reducible first|refine W.bn ?_|refine W.xt ?_|refine W.xb ?_|refine W.xo ?_|refine W.tr ?_|refine W.br ?_)|refine W.rt1 rfl ?_|refine W.rt2 rfl ?_ ?_|refine W.rt3 rfl ?_ ?_ ?_)|clear hK K|clear hu|exact True.intro|exact Nat.le_trans (by clear hp;omega) hp|exact Nat.le_trans (by clear hp;omega) hp.1|exact Nat.le_trans (by clear hp;omega) hp.2|(clear hp;omega)|apply And.intro|refine GI.i fun _=>?_|with_reducible rfl|decide|(simp only [List.length_cons,List.length_nil];omega))
  all_goals first
    | omega
    | exact hs.1.symm
    | exact hs.2.1.symm
    | (rw [hs.2.1];done)
    | exact hs.2.2.1
    | exact hs.2.2.1.symm
    | exact hs.2.2.2
    | exact hs.2.2.2.symm
    | skip
end Go.Proofs.Ytjphllpnhjemjaa
set_option linter.unusedVariables false
set_option linter.unusedSimpArgs false
set_option maxHeartbeats 4000000
set_option maxRecDepth 100000
set_option synthInstance.maxSize 100000
set_option synthInstance.maxHeartbeats 400000
namespace Go.Proofs.Ytjphllpnhjemjaa
open Go.RowKit (Below)
attribute [local irreducible] Go.Code.wp Go.wpList Go.bodyPost
instance NS.l4 {k : Option Nat} {xs : List FR} : NS (LS k (xs.map RX)) (LS k (xs.map (FX 256))) (∀ r ∈ xs,lgR r = false):=⟨fun e h =>
  LS.convM (T:=RX) (U:=FX 256) (f:=fun r=>r) h (by simp) fun x hx v G hv=>RX.toFX4 hv (e x hx)⟩
theorem any_at4 {xs : List FR} (h : xs.any lgR = true) : ∃ j,j < xs.length ∧ lgR (xs.getD j default) = true:=by
  obtain ⟨x,hx,hl⟩:=List.any_eq_true.1 h
  obtain ⟨j,hj,rfl⟩:=List.mem_iff_getElem.1 hx
  exact ⟨j,hj,by rw [List.getD_eq_getElem?_getD,List.getElem?_eq_getElem hj];exact hl⟩
theorem vr_y {n : Int} {l : List WT} {per : FR} {st : List FR} {lo : List Int} (h : vlC n l per st lo = 0) : vrB n l per st lo = vfB l per.val (st.map FR.val) lo:=by
  unfold vrB;rw [decide_eq_true h,Bool.true_and]
theorem lrg_b {l : List WT} (h : lrg l = false) (h2 : ¬ l.length ≤ 16) : 64 < l.length:=by
  rw [lrg_1 (by omega),Bool.or_eq_false_iff,decide_eq_false_iff_not,decide_eq_false_iff_not] at h
  omega
instance {n : Int} {l : List WT} {per : FR} {st : List FR} {lo : List Int} {m : Nat} : Con Try.prog 19 [IT n,WRS l,SCX m per st lo] (64 < l.length) (MT.tup2 (BT (vrB n l per st lo)) (.ex (errV 47 (vlC n l per st lo)))):=.o3 fun hok h1 h2 h3 hp=>by
  refine St.enter (N:=126) Try.func19 rfl rfl rfl hok (enter3 h1 h2 h3) fun a=>?_
  have hb:=ch_big (n:=n) hp
  have hs:=vl_c (per:=per) (st:=st) (lo:=lo) hb
  repeat' (first|((with_reducible refine gS_ ?_);first|((with_reducible refine gL_ ?_);first|refine W.run ?_ fun a w G=>?_|refine W.mv fun a w G=>?_|refine W.asg fun a w G=>?_|refine W.bx fun b a w G=>?_|(refine W.nn hK ?_;clear hK K)|refine W.nl ?_|refine W.al fun b a w G=>?_|refine W.st fun w=>?_|refine W.stp fun w=>?_|refine W.ste ?_ fun w=>?_)|((with_reducible refine gC_ ?_);first|refine W.reg fun K hK=>?_|refine W.reg1 ?_|refine W.sq fun K hK=>?_|refine W.ds ?_ (fun β a w G hu=>W.fin ?_ hu) mixedOrders (by kernel_rfl)|refine W.sk ?_|refine W.cd (fun hc=>?_) (fun hc=>?_)|refine W.cb (fun hc=>?_) (fun hc=>?_)|refine W.bl ?_|refine W.ex ?_|refine W.rt ?_)|((with_reducible refine W.kn hK ?_);clear hK K)|(with_reducible first|refine W.bn ?_|refine W.xt ?_|refine W.xb ?_|refine W.xo ?_|refine W.tr ?_|refine W.br ?_)|refine W.rt1 rfl ?_|refine W.rt2 rfl ?_ ?_|refine W.rt3 rfl ?_ ?_ ?_)|clear hK K|clear hu|exact True.intro|exact Nat.le_trans (by clear hp;omega) hp|exact Nat.le_trans (by clear hp;omega) hp.1|exact Nat.le_trans (by clear hp;omega) hp.2|(clear hp;omega)|apply And.intro|refine GI.i fun _=>?_|with_reducible rfl|decide|(simp only [List.length_cons,List.length_nil];omega))
  all_goals first
    | omega
    | exact hs.1.symm
    | exact hs.2.symm
    | skip
end Go.Proofs.Ytjphllpnhjemjaa
