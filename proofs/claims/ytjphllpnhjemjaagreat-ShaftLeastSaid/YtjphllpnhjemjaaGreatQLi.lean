import Derived.Test.YtjphllpnhjemjaaGreatQLh
set_option linter.unusedVariables false
set_option linter.unusedSimpArgs false
set_option linter.unusedVariables false
set_option linter.unusedSimpArgs false
set_option maxHeartbeats 4000000
set_option maxRecDepth 100000
set_option synthInstance.maxSize 100000
set_option synthInstance.maxHeartbeats 400000
namespace Go.Proofs.YtjphllpnhjemjaaGreat
open Go.RowKit (Below)
attribute [local irreducible] Go.Code.wp Go.wpList Go.bodyPost
private theorem gS_ {W0 : World} {G0 : Gh} {N : Nat} {L : List (Nat × MT)} {B : List BX} {a : Act} {w : World} {G : Gh} {q : Prop} (h : St W0 G0 N L B a w G → q) : St W0 G0 N L B a w G → q:=h
private theorem gL_ {p : Prop} {P : Program} {arr : Array Oper} {Q : Exit → Act → World → Prop} {l : List Oper} {a : Act} {w : World} (h : p → wpList P arr Q l a w) : p → wpList P arr Q l a w:=h
private theorem gC_ {p : Prop} {P : Program} {c : Code} {Q : Exit → Act → World → Prop} {a : Act} {w : World} (h : p → c.wp P Q a w) : p → c.wp P Q a w:=h
private theorem mixedOrders : Tryz.prog.follows .mixedOrders = true:=by kernel_rfl
theorem nn_cons {per : FR} {st : List FR} (h : nnR per = true) (hs : ∀ k,k < st.length → nnR (st.getD k default) = true) : ∀ k,k < (per :: st).length → nnR ((per :: st).getD k default) = true:=fun k hk=>by
  cases k with
  | zero=>exact h
  | succ k=>exact hs k (by simpa using hk)
theorem sg_lt {x : Rat} (h : x.num.sign < 0) : x < 0:=(num_sg x).2.2.1 h
theorem sg_ge {x : Rat} (h : ¬ x.num.sign < 0) : 0 ≤ x:=by have:=(num_sg x).2.2.2;grind
theorem skT_get {l : List WT} {p : Rat} {s : List Rat} {j m : Nat} (h : j < m) : (skT l p s m).getD j default = slF l p s j:=by
  unfold skT
  rw [List.getD_eq_getElem?_getD,List.getElem?_map,List.getElem?_range h];rfl
theorem slkQ {m : Nat} {l : List WT} {s : List Rat} {r : FR} : Con Tryz.prog 17 [WTS l,QNS NB s,FX m r] (OKL s.length l ∧ (∀ j,j < l.length → 0 ≤ (l.getD j default).2.2.2 ∧ (l.getD j default).2.2.2 ≤ 8) ∧ m ≤ NB ∧ l.length ≤ 64) (QNS (NB + NB + 1 + (m + 193) + 1) (skT l r.val s l.length)):=.o3 fun hok h1 h2 h3 hp=>by
  refine St.enter (N:=45) Tryz.func17 rfl rfl rfl hok (enter3 h1 h2 h3) fun a=>?_
  have hlim:=LS.lenM h1
  simp only [LIM] at hlim
  have own43 : OwnAt 43:=⟨⟩
  repeat' (first|with_reducible refine W.sep 5 9 25 (some 3) (QC (NB + NB + 1) (s.getD (l.getD j default).2.1.toNat default - s.getD (l.getD j default).1.toNat default)) rfl (fun b a w G=>?_) (fun W1 G1 K hK=>?_)|((with_reducible refine gS_ ?_);first|((with_reducible refine gL_ ?_);first|refine W.run ?_ fun a w G=>?_|refine W.mv fun a w G=>?_|refine W.asg fun a w G=>?_|refine W.bx fun b a w G=>?_|(refine W.nn hK ?_;clear hK K)|refine W.nl ?_|refine W.al fun b a w G=>?_|refine W.st fun w=>?_|refine W.stp fun w=>?_|refine W.ste ?_ fun w=>?_)|((with_reducible refine gC_ ?_);first|refine W.reg fun K hK=>?_|refine W.reg1 ?_|refine W.sq fun K hK=>?_|refine W.ds ?_ (fun β a w G hu=>W.fin ?_ hu) mixedOrders (by kernel_rfl)|refine W.sk ?_|refine W.cd (fun hc=>?_) (fun hc=>?_)|refine W.cb (fun hc=>?_) (fun hc=>?_)|refine W.bl ?_|refine W.ex ?_|refine W.rt ?_)|((with_reducible refine W.kn hK ?_);clear hK K)|(with_reducible first|refine W.bn ?_|refine W.xt ?_|refine W.xb ?_|refine W.xo ?_|refine W.tr ?_|refine W.br ?_)|refine W.rt1 rfl ?_|refine W.rt2 rfl ?_ ?_|refine W.rt3 rfl ?_ ?_ ?_)|((with_reducible refine W.sepN ?_);refine W.sepE hK (by intro p hp;repeat (first|exact hp|apply List.mem_cons_of_mem)))|refine W.lpo 10 (OWNS.nil (k:=some 3) (e:=25)) (T:=QC (NB + NB + 1 + (m + 193) + 1)) (xs0:=[]) (fun j=>l.length - j) (fun j=>j ≤ l.length) (fun j=>skT l r.val s j) [7,8,9,10,11,12,13,14,15,16,17,18,19,20,21,22,23,24,25,26,27,28,29,30,31,32,33,34,35,36,37,38,39,40,41,42,43] (fun j V=>[(8,NT j),(7,.ex V)]) (fun j=>[]) 0 ?_ ?_ ?_ ?_ fun j hj V own a w G hO=>?_|refine W.ds ?_ (fun β a w G hu=>W.fing ?_) mixedOrders (by kernel_rfl)|refine W.ap (mt:=FX 1 default) (T:=QC (NB + NB + 1 + (m + 193) + 1)) hO ?_ fun V own a w G hO=>?_|refine W.ago (K:=fun _ _=>True) (T:=QC (NB + NB + 1 + (m + 193) + 1)) hO (x:=j) (j+1) ?_ ?_ ?_ ?_ ?_|refine W.fzo (T:=QC (NB + NB + 1 + (m + 193) + 1)) 6 hO ?_ fun G=>?_|clear hK K|clear hu|exact True.intro|exact Nat.le_trans (by clear hp;omega) hp|exact Nat.le_trans (by clear hp;omega) hp.1|exact Nat.le_trans (by clear hp;omega) hp.2|(clear hp;omega)|apply And.intro|refine GI.i fun _=>?_|with_reducible rfl|decide|(simp only [List.length_cons,List.length_nil];omega))
  all_goals (try have hoi:=hp.1 j (by omega))
  all_goals (try have htu:=hp.2.1 j (by omega))
  all_goals (try unfold okW at hoi)
  all_goals (try simp only [List.length_map,skT_len,LIM,BIG,NB,List.length_cons,List.length_nil] at *)
  all_goals first
    | omega
    | rfl
    | exact skT_go
    | exact skT_go.symm
    | (have e9 : j = l.length := by omega
       rw [e9])
    | (rw [← sl_get (by omega) (by omega)];exact skT_go)
    | (rw [← sl_get (by omega) (by omega)];exact skT_go.symm)
    | skip
instance {m : Nat} {l : List WT} {s : List Rat} {r : FR} : Con Tryz.prog 17 [WTS l,QNS NB s,FX m r] (OKL s.length l ∧ (∀ j,j < l.length → 0 ≤ (l.getD j default).2.2.2 ∧ (l.getD j default).2.2.2 ≤ 8) ∧ m ≤ NB ∧ l.length ≤ 64) (QNS (NB + NB + 1 + (m + 193) + 1) (skT l r.val s l.length)):=slkQ
theorem slkF {m : Nat} {l : List WT} {st : List FR} {r : FR} : Con Tryz.prog 17 [WTS l,LS (some 3) (st.map (FX m)),FX m r] (OKL st.length l ∧ (∀ j,j < l.length → 0 ≤ (l.getD j default).2.2.2 ∧ (l.getD j default).2.2.2 ≤ 8) ∧ m ≤ NB ∧ l.length ≤ 64) (QNS (m + m + 1 + (m + 193) + 1) (skT l r.val (st.map FR.val) l.length)):=.o3 fun hok h1 h2 h3 hp=>by
  refine St.enter (N:=45) Tryz.func17 rfl rfl rfl hok (enter3 h1 h2 h3) fun a=>?_
  have hlim:=LS.lenM h1
  simp only [LIM] at hlim
  have own43 : OwnAt 43:=⟨⟩
  repeat' (first|with_reducible refine W.sep 5 9 25 (some 3) (QC (m + m + 1) ((st.getD (l.getD j default).2.1.toNat default).val - (st.getD (l.getD j default).1.toNat default).val)) rfl (fun b a w G=>?_) (fun W1 G1 K hK=>?_)|((with_reducible refine gS_ ?_);first|((with_reducible refine gL_ ?_);first|refine W.run ?_ fun a w G=>?_|refine W.mv fun a w G=>?_|refine W.asg fun a w G=>?_|refine W.bx fun b a w G=>?_|(refine W.nn hK ?_;clear hK K)|refine W.nl ?_|refine W.al fun b a w G=>?_|refine W.st fun w=>?_|refine W.stp fun w=>?_|refine W.ste ?_ fun w=>?_)|((with_reducible refine gC_ ?_);first|refine W.reg fun K hK=>?_|refine W.reg1 ?_|refine W.sq fun K hK=>?_|refine W.ds ?_ (fun β a w G hu=>W.fin ?_ hu) mixedOrders (by kernel_rfl)|refine W.sk ?_|refine W.cd (fun hc=>?_) (fun hc=>?_)|refine W.cb (fun hc=>?_) (fun hc=>?_)|refine W.bl ?_|refine W.ex ?_|refine W.rt ?_)|((with_reducible refine W.kn hK ?_);clear hK K)|(with_reducible first|refine W.bn ?_|refine W.xt ?_|refine W.xb ?_|refine W.xo ?_|refine W.tr ?_|refine W.br ?_)|refine W.rt1 rfl ?_|refine W.rt2 rfl ?_ ?_|refine W.rt3 rfl ?_ ?_ ?_)|((with_reducible refine W.sepN ?_);refine W.sepE hK (by intro p hp;repeat (first|exact hp|apply List.mem_cons_of_mem)))|refine W.lpo 10 (OWNS.nil (k:=some 3) (e:=25)) (T:=QC (m + m + 1 + (m + 193) + 1)) (xs0:=[]) (fun j=>l.length - j) (fun j=>j ≤ l.length) (fun j=>skT l r.val (st.map FR.val) j) [7,8,9,10,11,12,13,14,15,16,17,18,19,20,21,22,23,24,25,26,27,28,29,30,31,32,33,34,35,36,37,38,39,40,41,42,43] (fun j V=>[(8,NT j),(7,.ex V)]) (fun j=>[]) 0 ?_ ?_ ?_ ?_ fun j hj V own a w G hO=>?_|refine W.ds ?_ (fun β a w G hu=>W.fing ?_) mixedOrders (by kernel_rfl)|refine W.ap (mt:=FX 1 default) (T:=QC (m + m + 1 + (m + 193) + 1)) hO ?_ fun V own a w G hO=>?_|refine W.ago (K:=fun _ _=>True) (T:=QC (m + m + 1 + (m + 193) + 1)) hO (x:=j) (j+1) ?_ ?_ ?_ ?_ ?_|refine W.fzo (T:=QC (m + m + 1 + (m + 193) + 1)) 6 hO ?_ fun G=>?_|clear hK K|clear hu|exact True.intro|exact Nat.le_trans (by clear hp;omega) hp|exact Nat.le_trans (by clear hp;omega) hp.1|exact Nat.le_trans (by clear hp;omega) hp.2|(clear hp;omega)|apply And.intro|refine GI.i fun _=>?_|with_reducible rfl|decide|(simp only [List.length_cons,List.length_nil];omega))
  all_goals (try have hoi:=hp.1 j (by omega))
  all_goals (try have htu:=hp.2.1 j (by omega))
  all_goals (try unfold okW at hoi)
  all_goals (try simp only [List.length_map,skT_len,LIM,BIG,NB,List.length_cons,List.length_nil] at *)
  all_goals first
    | omega
    | rfl
    | exact skT_go
    | exact skT_go.symm
    | (have e9 : j = l.length := by omega
       rw [e9])
    | (rw [← sl_get (by omega) (by omega)];exact skT_go)
    | (rw [← sl_get (by omega) (by omega)];exact skT_go.symm)
    | skip
instance {m : Nat} {l : List WT} {st : List FR} {r : FR} : Con Tryz.prog 17 [WTS l,LS (some 3) (st.map (FX m)),FX m r] (OKL st.length l ∧ (∀ j,j < l.length → 0 ≤ (l.getD j default).2.2.2 ∧ (l.getD j default).2.2.2 ≤ 8) ∧ m ≤ NB ∧ l.length ≤ 64) (QNS (m + m + 1 + (m + 193) + 1) (skT l r.val (st.map FR.val) l.length)):=slkF
instance {n : Int} {l : List WT} {m : Nat} {per : FR} {st : List FR} {lo : List Int} : Con Tryz.prog 22 [IT n,WTS l,SCX m per st lo] (chW n l = 0 ∧ m ≤ NB ∧ st.length ≤ 60 ∧ lo.length ≤ 60) (IT (vlC n l per st lo)):=.o3 fun hok h1 h2 h3 hp=>by
  refine St.enter (N:=70) Tryz.func22 rfl rfl rfl hok (enter3 h1 h2 h3) fun a=>?_
  have hlim:=LS.lenM h2
  simp only [LIM] at hlim
  repeat' (first|((with_reducible refine gS_ ?_);first|((with_reducible refine gL_ ?_);first|refine W.run ?_ fun a w G=>?_|refine W.mv fun a w G=>?_|refine W.asg fun a w G=>?_|refine W.bx fun b a w G=>?_|(refine W.nn hK ?_;clear hK K)|refine W.nl ?_|refine W.al fun b a w G=>?_|refine W.st fun w=>?_|refine W.stp fun w=>?_|refine W.ste ?_ fun w=>?_)|((with_reducible refine gC_ ?_);first|refine W.reg fun K hK=>?_|refine W.reg1 ?_|refine W.sq fun K hK=>?_|refine W.ds ?_ (fun β a w G hu=>W.fin ?_ hu) mixedOrders (by kernel_rfl)|refine W.sk ?_|refine W.cd (fun hc=>?_) (fun hc=>?_)|refine W.cb (fun hc=>?_) (fun hc=>?_)|refine W.bl ?_|refine W.ex ?_|refine W.rt ?_)|((with_reducible refine W.kn hK ?_);clear hK K)|(with_reducible first|refine W.bn ?_|refine W.xt ?_|refine W.xb ?_|refine W.xo ?_|refine W.tr ?_|refine W.br ?_)|refine W.rt1 rfl ?_|refine W.rt2 rfl ?_ ?_|refine W.rt3 rfl ?_ ?_ ?_)|refine W.lp 24 (α:=Nat) (fun j=>st.length - j) (fun j=>j ≤ st.length ∧ ∀ k,k < j → nnR (st.getD k default) = true) [6,7,24,25,26,27,28,29,30,31,32,33,34,35,36,37,38,39,40,41,42,43,44,45,46] (fun j=>[(7,NT j)]) (fun j=>[]) (0) ?_ ?_ ?_ fun j hj a w G=>?_|refine W.ag (x:=j) (j+1) ?_ ?_ ?_ ?_|refine W.lp 47 (α:=Nat) (fun k=>lo.length - k) (fun k=>k ≤ lo.length ∧ ∀ q,q < k → inB l.length (lo.getD q default) = true) [6,8,47,48,49,50,51,52,53,54,55,56,57,58,59,60,61,62,63,64,65,66,67,68,69] (fun k=>[(8,NT k)]) (fun k=>[]) (0) ?_ ?_ ?_ fun k hk a w G=>?_|refine W.ag (x:=k) (k+1) ?_ ?_ ?_ ?_|clear hK K|clear hu|exact True.intro|exact Nat.le_trans (by clear hp;omega) hp|exact Nat.le_trans (by clear hp;omega) hp.1|exact Nat.le_trans (by clear hp;omega) hp.2|(clear hp;omega)|apply And.intro|refine GI.i fun _=>?_|with_reducible rfl|decide|(simp only [List.length_cons,List.length_nil];omega))
  all_goals (try simp only [LIM,BIG,NB] at *)
  all_goals (try have hst : ¬ (st.length : Int) ≠ n:=by omega)
  all_goals (try have hper : nnR per = true:=nn_f (by assumption))
  all_goals (try have ha:=nn_cons hper (fun k hk=>hj.2 k (by omega)))
  all_goals (try have h10:=vl_10 (per:=per) (lo:=lo) hp.1 (by assumption))
  all_goals (try have h30:=vl_3 (per:=per) (st:=st) (lo:=lo) (j:=0) hp.1 hst (by simp) (by assumption))
  all_goals (try have h3j:=vl_3 (per:=per) (st:=st) (lo:=lo) (j:=j + 1) hp.1 hst (by simp only [List.length_cons];omega) (by assumption))
  all_goals (try have hv0:=vl_0 (per:=per) (st:=st) (lo:=lo) hp.1 hst ha (fun q hq=>hk.2 q (by omega)))
  all_goals (try have hv9:=vl_9 (per:=per) (st:=st) (lo:=lo) (j:=k) hp.1 hst ha (by omega) (by assumption))
  all_goals first
    | omega
    | rfl
    | exact hv0.1
    | exact hv0.1.symm
    | exact hv9.1
    | exact hv9.1.symm
    | exact h10.1.symm
    | exact h30.1.symm
    | exact h3j.1.symm
    | (intro q hq
       rcases Nat.lt_or_eq_of_le (Nat.le_of_lt_succ hq) with e | e
       · exact hj.2 q e
       · subst e;exact nn_f (by assumption))
    | (intro q hq
       rcases Nat.lt_or_eq_of_le (Nat.le_of_lt_succ hq) with e | e
       · exact hk.2 q e
       · subst e;exact inB_y (by assumption))
    | skip
instance {l : List WT} {m : Nat} {per : FR} {st : List FR} {lo : List Int} : Con Tryz.prog 23 [WTS l,SCX m per st lo] (OKL st.length l ∧ INL l lo ∧ (∀ j,j < l.length → 0 ≤ (l.getD j default).2.2.2 ∧ (l.getD j default).2.2.2 ≤ 8) ∧ m ≤ NB ∧ l.length ≤ 64 ∧ st.length ≤ 60 ∧ lo.length ≤ 60) (BT (vfB l per.val (st.map FR.val) lo)):=.o2 fun hok h1 h2 hp=>by
  refine St.enter (N:=92) Tryz.func23 rfl rfl rfl hok (enter2 h1 h2) fun a=>?_
  have hlim:=LS.lenM h1
  simp only [LIM] at hlim
  repeat' (first|((with_reducible refine gS_ ?_);first|((with_reducible refine gL_ ?_);first|refine W.run ?_ fun a w G=>?_|refine W.mv fun a w G=>?_|refine W.asg fun a w G=>?_|refine W.bx fun b a w G=>?_|(refine W.nn hK ?_;clear hK K)|refine W.nl ?_|refine W.al fun b a w G=>?_|refine W.st fun w=>?_|refine W.stp fun w=>?_|refine W.ste ?_ fun w=>?_)|((with_reducible refine gC_ ?_);first|refine W.reg fun K hK=>?_|refine W.reg1 ?_|refine W.sq fun K hK=>?_|refine W.ds ?_ (fun β a w G hu=>W.fin ?_ hu) mixedOrders (by kernel_rfl)|refine W.sk ?_|refine W.cd (fun hc=>?_) (fun hc=>?_)|refine W.cb (fun hc=>?_) (fun hc=>?_)|refine W.bl ?_|refine W.ex ?_|refine W.rt ?_)|((with_reducible refine W.kn hK ?_);clear hK K)|(with_reducible first|refine W.bn ?_|refine W.xt ?_|refine W.xb ?_|refine W.xo ?_|refine W.tr ?_|refine W.br ?_)|refine W.rt1 rfl ?_|refine W.rt2 rfl ?_ ?_|refine W.rt3 rfl ?_ ?_ ?_)|refine W.lp 18 (α:=Nat) (fun i=>l.length - i) (fun i=>i ≤ l.length ∧ ∀ q,q < i → 0 ≤ slF l per.val (st.map FR.val) q) [4,6,18,19,20,21,22,23,24,25,26,27,28,29] (fun i=>[(6,NT i)]) (fun i=>[]) (0) ?_ ?_ ?_ fun i hi a w G=>?_|refine W.ag (x:=i) (i+1) ?_ ?_ ?_ ?_|refine W.lp 39 (α:=Nat) (fun k=>lo.length - k) (fun k=>k ≤ lo.length ∧ ∀ q,q < k → (l.getD (lo.getD q default).toNat default).2.1 = (l.getD (lo.getD ((q + 1) % lo.length) default).toNat default).1) [4,8,9,10,11,39,40,41,42,43,44,45,46,47,48,49,50,51,52,53,54,55,56,57,58,59,60,61,62,63,64,65,66,67,68,69,70,71,72,73,74,75,76,77,78,79] (fun k=>[(9,NT k),(8,IT (tuF l lo k))]) (fun k=>[(7,QC (129 * k + 1) (tiF l lo k))]) (0) ?_ ?_ ?_ fun k hk a w G=>?_|refine W.ag (x:=k) (k+1) ?_ ?_ ?_ ?_|clear hK K|clear hu|exact True.intro|exact Nat.le_trans (by clear hp;omega) hp|exact Nat.le_trans (by clear hp;omega) hp.1|exact Nat.le_trans (by clear hp;omega) hp.2|(clear hp;omega)|apply And.intro|refine GI.i fun _=>?_|with_reducible rfl|decide|(simp only [List.length_cons,List.length_nil];omega))
  all_goals (try simp only [LIM,BIG,NB,skT_len] at *)
  all_goals (try rw [skT_get (by omega)] at *)
  all_goals (try have hm : (k + 1) % lo.length < lo.length:=Nat.mod_lt _ (by omega))
  all_goals (try have hi1:=hp.2.1 k (by omega))
  all_goals (try have hi2:=hp.2.1 ((k + 1) % lo.length) hm)
  all_goals (try have hb:=tu_bd hp.2.2.1 hp.2.1 k (by omega))
  all_goals (try have hb2:=tu_bd hp.2.2.1 hp.2.1 (k + 1) (by omega))
  all_goals (try have hb3 : tuF l lo (k + 1) = tuF l lo k + (l.getD (lo.getD k default).toNat default).2.2.2:=rfl)
  all_goals (try have hsy:=slB_y (l:=l) (p:=per.val) (s:=st.map FR.val) fun q hq=>hi.2 q (by omega))
  all_goals (try have hsn:=slB_n (l:=l) (p:=per.val) (s:=st.map FR.val) (j:=i) (by omega) (fun h9=>by have:=sg_lt (by assumption);grind))
  all_goals (try have hga:=vf_adj (lo:=lo) hsy (by assumption) (j:=k) (by omega) (by assumption))
  all_goals (try have hgz:=vf_z (lo:=lo) hsy (by assumption))
  all_goals (try have hgr:=vf_ref (lo:=lo) hsy (by assumption) (fun q hq=>hk.2 q (by omega)))
  all_goals (try have ek : k = lo.length:=by omega)
  all_goals first
    | omega
    | rfl
    | exact hp.1
    | exact hp.2.2.1
    | exact hgz.symm
    | exact hga.symm
    | (rw [vf_n hsn];done)
    | (rw [hgr,ek];done)
    | (intro q hq
       rcases Nat.lt_or_eq_of_le (Nat.le_of_lt_succ hq) with e | e
       · exact hi.2 q e
       · subst e;exact sg_ge (by assumption))
    | (intro q hq
       rcases Nat.lt_or_eq_of_le (Nat.le_of_lt_succ hq) with e | e
       · exact hk.2 q e
       · subst e;omega)
    | skip
end Go.Proofs.YtjphllpnhjemjaaGreat
set_option linter.unusedVariables false
set_option linter.unusedSimpArgs false
set_option maxHeartbeats 4000000
set_option maxRecDepth 100000
set_option synthInstance.maxSize 100000
set_option synthInstance.maxHeartbeats 400000
namespace Go.Proofs.YtjphllpnhjemjaaGreat
open Go.RowKit (Below)
attribute [local irreducible] Go.Code.wp Go.wpList Go.bodyPost
instance : DecidableEq FR:=fun r s=>decidable_of_iff (r.s = s.s ∧ r.p = s.p ∧ r.q = s.q) ⟨fun h=>by obtain ⟨a,b,c⟩:=r;obtain ⟨d,e,f⟩:=s;simp only at h;obtain ⟨rfl,rfl,rfl⟩:=h;rfl,fun h=>by subst h;exact ⟨rfl,rfl,rfl⟩⟩
theorem FR.eq_dec {r s : FR} : ((r.s == s.s) && decide (r.p = s.p) && decide (r.q = s.q)) = decide (r = s):=by
  rw [Bool.eq_iff_iff,Bool.and_eq_true,Bool.and_eq_true,decide_eq_true_eq,decide_eq_true_eq,decide_eq_true_eq,beq_iff_eq]
  obtain ⟨a,b,c⟩:=r;obtain ⟨d,e,f⟩:=s;simp [and_assoc]
theorem FR.of_inj {x y : Rat} (h : FR.of x = FR.of y) : x = y:=by rw [← FR.of_val (x:=x),h,FR.of_val]
section
variable {α : Type} {l k : List α} {j : Nat}
theorem eq_ln [DecidableEq α] (h : decide (((l.length : Nat) : Int) ≠ ((k.length : Nat) : Int)) = true) : false = decide (l = k):=by
  rw [decide_eq_true_eq] at h;exact (decide_eq_false fun e=>h (by rw [e])).symm
theorem eq_at [Inhabited α] [DecidableEq α] (hj : j < l.length) (hl : l.length = k.length) (h : l.getD j default ≠ k.getD j default) : false = decide (l = k):=(decide_eq_false fun e=>h (by rw [e])).symm
theorem eq_nx [Inhabited α] (hj : j < l.length) (hl : l.length = k.length) (h : l.take j = k.take j) (e : l.getD j default = k.getD j default) : l.take (j + 1) = k.take (j + 1):=by
  rw [List.getD_eq_getElem?_getD,List.getD_eq_getElem?_getD,List.getElem?_eq_getElem hj,List.getElem?_eq_getElem (by omega)] at e
  rw [List.take_add_one,List.take_add_one,h,List.getElem?_eq_getElem hj,List.getElem?_eq_getElem (by omega)]
  simp only [Option.getD_some] at e;rw [e]
theorem eq_en [DecidableEq α] (hj : ¬ j < l.length) (hl : l.length = k.length) (h : l.take j = k.take j) : true = decide (l = k):=by
  rw [List.take_of_length_le (by omega),List.take_of_length_le (by omega)] at h
  exact (decide_eq_true h).symm
end
theorem dig_getD (l : List Nat) (j : Nat) : dig l j = l.getD j default:=rfl
theorem w48 {l k : List Nat} : Con Tryz.prog 48 [SL l,SL k] (True) (BT (decide (l = k))):=.o2 fun hok h1 h2 hp=>by
  refine St.enter (N:=26) Tryz.func48 rfl rfl rfl hok (enter2 h1 h2) fun a=>?_
  have hlim:=SL.lim h1
  have hlim2:=SL.lim h2
  simp only [LIM] at hlim hlim2
  repeat' (first|((with_reducible refine gS_ ?_);first|((with_reducible refine gL_ ?_);first|refine W.run ?_ fun a w G=>?_|refine W.mv fun a w G=>?_|refine W.asg fun a w G=>?_|refine W.bx fun b a w G=>?_|(refine W.nn hK ?_;clear hK K)|refine W.nl ?_|refine W.al fun b a w G=>?_|refine W.st fun w=>?_|refine W.stp fun w=>?_|refine W.ste ?_ fun w=>?_)|((with_reducible refine gC_ ?_);first|refine W.reg fun K hK=>?_|refine W.reg1 ?_|refine W.sq fun K hK=>?_|refine W.ds ?_ (fun β a w G hu=>W.fin ?_ hu) mixedOrders (by kernel_rfl)|refine W.sk ?_|refine W.cd (fun hc=>?_) (fun hc=>?_)|refine W.cb (fun hc=>?_) (fun hc=>?_)|refine W.bl ?_|refine W.ex ?_|refine W.rt ?_)|((with_reducible refine W.kn hK ?_);clear hK K)|(with_reducible first|refine W.bn ?_|refine W.xt ?_|refine W.xb ?_|refine W.xo ?_|refine W.tr ?_|refine W.br ?_)|refine W.rt1 rfl ?_|refine W.rt2 rfl ?_ ?_|refine W.rt3 rfl ?_ ?_ ?_)|refine W.lp 11 (α:=Nat) (fun j=>l.length - j) (fun j=>j ≤ l.length ∧ l.take j = k.take j) [4,5,11,12,13,14,15,16,17,18,19,20,21,22,23,24,25] (fun j=>[(5,NT j)]) (fun j=>[]) (0) ?_ ?_ ?_ fun j hj a w G=>?_|refine W.ag (x:=j) (j+1) ?_ ?_ ?_ ?_|clear hK K|clear hu|exact True.intro|exact Nat.le_trans (by clear hp;omega) hp|exact Nat.le_trans (by clear hp;omega) hp.1|exact Nat.le_trans (by clear hp;omega) hp.2|(clear hp;omega)|apply And.intro|refine GI.i fun _=>?_|with_reducible rfl|decide|(simp only [List.length_cons,List.length_nil];omega))
  all_goals first
    | exact eq_ln (decide_eq_true hc)
    | (simp;done)
    | (exact (decide_eq_false fun e=>hc (by rw [e])).symm)
    | (have hle : l.length = k.length := by (have h0 : ¬ ((l.length : Nat) : Int) ≠ ((k.length : Nat) : Int) := by assumption); omega
       first
       | omega
       | exact eq_en (by omega) hle hj.2
       | ((simp only [Int.toNat_natCast,dig_getD] at *);first
         | exact eq_at (by omega) hle (by assumption)
         | exact eq_nx (by omega) hle hj.2 (Classical.not_not.1 (by assumption))))
    | skip
instance {l k : List Nat} {τ1 : MT} [j1 : NL τ1 (SL l)] {τ2 : MT} [j2 : NL τ2 (SL k)] : Con Tryz.prog 48 [τ1,τ2] (True) (BT (decide (l = k))):=.o2 fun hok h1 h2 hp=>w48.c2 hok (j1.h h1) (j2.h h2) hp
theorem w20 {r s : FR} : Con Tryz.prog 20 [RX r,RX s] (True) (BT (decide (r = s))):=.o2 fun hok h1 h2 hp=>by
  refine St.enter (N:=24) Tryz.func20 rfl rfl rfl hok (enter2 h1 h2) fun a=>?_
  repeat' (first|((with_reducible refine gS_ ?_);first|((with_reducible refine gL_ ?_);first|refine W.run ?_ fun a w G=>?_|refine W.mv fun a w G=>?_|refine W.asg fun a w G=>?_|refine W.bx fun b a w G=>?_|(refine W.nn hK ?_;clear hK K)|refine W.nl ?_|refine W.al fun b a w G=>?_|refine W.st fun w=>?_|refine W.stp fun w=>?_|refine W.ste ?_ fun w=>?_)|((with_reducible refine gC_ ?_);first|refine W.reg fun K hK=>?_|refine W.reg1 ?_|refine W.sq fun K hK=>?_|refine W.ds ?_ (fun β a w G hu=>W.fin ?_ hu) mixedOrders (by kernel_rfl)|refine W.sk ?_|refine W.cd (fun hc=>?_) (fun hc=>?_)|refine W.cb (fun hc=>?_) (fun hc=>?_)|refine W.bl ?_|refine W.ex ?_|refine W.rt ?_)|((with_reducible refine W.kn hK ?_);clear hK K)|(with_reducible first|refine W.bn ?_|refine W.xt ?_|refine W.xb ?_|refine W.xo ?_|refine W.tr ?_|refine W.br ?_)|refine W.rt1 rfl ?_|refine W.rt2 rfl ?_ ?_|refine W.rt3 rfl ?_ ?_ ?_)|clear hK K|clear hu|exact True.intro|exact Nat.le_trans (by clear hp;omega) hp|exact Nat.le_trans (by clear hp;omega) hp.1|exact Nat.le_trans (by clear hp;omega) hp.2|(clear hp;omega)|apply And.intro|refine GI.i fun _=>?_|with_reducible rfl|decide|(simp only [List.length_cons,List.length_nil];omega))
  all_goals first | exact FR.eq_dec | skip
instance {r s : FR} {τ1 : MT} [j1 : NR τ1 (RX r)] {τ2 : MT} [j2 : NR τ2 (RX s)] : Con Tryz.prog 20 [τ1,τ2] (True) (BT (decide (r = s))):=.o2 fun hok h1 h2 hp=>w20.c2 hok (j1.h h1) (j2.h h2) hp
theorem w16 {xs ys : List FR} : Con Tryz.prog 16 [LS (some 3) (xs.map RX),LS (some 3) (ys.map RX)] (True) (BT (decide (xs = ys))):=.o2 fun hok h1 h2 hp=>by
  refine St.enter (N:=27) Tryz.func16 rfl rfl rfl hok (enter2 h1 h2) fun a=>?_
  have hlim:=LS.lenM h1
  have hlim2:=LS.lenM h2
  simp only [LIM] at hlim hlim2
  repeat' (first|((with_reducible refine gS_ ?_);first|((with_reducible refine gL_ ?_);first|refine W.run ?_ fun a w G=>?_|refine W.mv fun a w G=>?_|refine W.asg fun a w G=>?_|refine W.bx fun b a w G=>?_|(refine W.nn hK ?_;clear hK K)|refine W.nl ?_|refine W.al fun b a w G=>?_|refine W.st fun w=>?_|refine W.stp fun w=>?_|refine W.ste ?_ fun w=>?_)|((with_reducible refine gC_ ?_);first|refine W.reg fun K hK=>?_|refine W.reg1 ?_|refine W.sq fun K hK=>?_|refine W.ds ?_ (fun β a w G hu=>W.fin ?_ hu) mixedOrders (by kernel_rfl)|refine W.sk ?_|refine W.cd (fun hc=>?_) (fun hc=>?_)|refine W.cb (fun hc=>?_) (fun hc=>?_)|refine W.bl ?_|refine W.ex ?_|refine W.rt ?_)|((with_reducible refine W.kn hK ?_);clear hK K)|(with_reducible first|refine W.bn ?_|refine W.xt ?_|refine W.xb ?_|refine W.xo ?_|refine W.tr ?_|refine W.br ?_)|refine W.rt1 rfl ?_|refine W.rt2 rfl ?_ ?_|refine W.rt3 rfl ?_ ?_ ?_)|refine W.lp 11 (α:=Nat) (fun j=>xs.length - j) (fun j=>j ≤ xs.length ∧ xs.take j = ys.take j) [4,5,11,12,13,14,15,16,17,18,19,20,21,22,23,24,25,26] (fun j=>[(5,NT j)]) (fun j=>[]) (0) ?_ ?_ ?_ fun j hj a w G=>?_|refine W.ag (x:=j) (j+1) ?_ ?_ ?_ ?_|clear hK K|clear hu|exact True.intro|exact Nat.le_trans (by clear hp;omega) hp|exact Nat.le_trans (by clear hp;omega) hp.1|exact Nat.le_trans (by clear hp;omega) hp.2|(clear hp;omega)|apply And.intro|refine GI.i fun _=>?_|with_reducible rfl|decide|(simp only [List.length_cons,List.length_nil];omega))
  all_goals first
    | exact eq_ln (decide_eq_true hc)
    | (simp;done)
    | (exact (decide_eq_false fun e=>hc (by rw [e])).symm)
    | (have hle : xs.length = ys.length := by (have h0 : ¬ ((xs.length : Nat) : Int) ≠ ((ys.length : Nat) : Int) := by assumption); omega
       first
       | omega
       | exact eq_en (by omega) hle hj.2
       | (first
         | (refine eq_at (j:=j) (by omega) hle ?_;simp only [Bool.not_eq_true',decide_eq_false_iff_not] at hc;exact hc)
         | exact eq_nx (by omega) hle hj.2 (by simpa using hc)))
    | skip
instance {xs ys : List FR} {τ1 : MT} [j1 : NR τ1 (LS (some 3) (xs.map RX))] {τ2 : MT} [j2 : NR τ2 (LS (some 3) (ys.map RX))] : Con Tryz.prog 16 [τ1,τ2] (True) (BT (decide (xs = ys))):=.o2 fun hok h1 h2 hp=>w16.c2 hok (j1.h h1) (j2.h h2) hp
abbrev LFR (l : List FR) : MT:=LS (some 3) (l.map RX)
instance {l : List FR} : AsT (LS (some 3) (l.map RX)) LFR l:=⟨fun h=>h⟩
theorem NM.lfr {n : Nat} {l : List Rat} {v : Value} {G : Gh} (h : (NM n l).t v G) : (LFR (l.map FR.of)).t v G:=LS.convM (T:=QC n) (U:=RX) (f:=FR.of) h (by simp) fun x hx v G hv=>FX.toRX (QC.toFX hv (one_le_of_lt x.den_nz hv.1.2))
instance NR.nm {n : Nat} {l : List Rat} : NR (LS (some 3) (l.map (QC n))) (LS (some 3) ((l.map FR.of).map RX)):=⟨NM.lfr⟩
instance NR.rts {n : Nat} {rs : List (List Rat)} : NR (LS none (rs.map (NM n))) (LS none ((rs.map (List.map FR.of)).map LFR)):=⟨fun h=>LS.convM (T:=NM n) (U:=LFR) (f:=List.map FR.of) h (by simp) fun x hx v G hv=>NM.lfr hv⟩
theorem mof_inj {l k : List Rat} (h : l.map FR.of = k.map FR.of) : l = k:=by
  induction l generalizing k with
  | nil=>cases k with
    | nil=>rfl
    | cons y k=>cases h
  | cons x l ih=>cases k with
    | nil=>cases h
    | cons y k=>simp only [List.map_cons,List.cons.injEq] at h;rw [FR.of_inj h.1,ih h.2]
theorem mof_dec {l k : List Rat} : decide (l.map FR.of = k.map FR.of) = decide (l = k):=decide_eq_decide.2 ⟨mof_inj,fun h=>by rw [h]⟩
theorem PTS.lenL {α : Type} {T : α → MT} {xs : List α} {v : Value} {G : Gh} (h : (PTS [(none,LS none (xs.map T))]).t v G) : xs.length ≤ LIM:=by
  obtain ⟨us,_,hl,hE⟩:=h
  match us,hl with
  | u :: us,_=>exact LS.lenM (hE 0 _ u rfl rfl).2
instance (priority:=1100) {n m : Nat} {l k : List Rat} {τ1 τ2 : MT} [j1 : NU τ1 (NM n l)] [j2 : NU τ2 (NM m k)] : Con Tryz.prog 16 [τ1,τ2] True (BT (decide (l = k))):=.o2 fun hok h1 h2 hp=>by
  have:=(inferInstance : Con Tryz.prog 16 [NM n l,NM m k] _ _).c2 hok (j1.h h1) (j2.h h2) hp
  rwa [mof_dec] at this
end Go.Proofs.YtjphllpnhjemjaaGreat
set_option linter.unusedVariables false
set_option linter.unusedSimpArgs false
set_option maxHeartbeats 4000000
set_option maxRecDepth 100000
set_option synthInstance.maxSize 100000
set_option synthInstance.maxHeartbeats 400000
namespace Go.Proofs.YtjphllpnhjemjaaGreat
open Go.RowKit (Below)
attribute [local irreducible] Go.Code.wp Go.wpList Go.bodyPost
def lgR (r : FR) : Bool:=decide (((r.p.length : Nat) : Int) + ((r.q.length : Nat) : Int) > 4)
def lrg (l : List WT) : Bool:=if 16 < l.length then (decide (((l.length : Nat) : Int) ≤ 64) || decide (((l.length : Nat) : Int) > 200)) else l.any fun w=>lgR w.2.2.1
theorem lrg_1 {l : List WT} (h : ((l.length : Nat) : Int) > 16) : lrg l = (decide (((l.length : Nat) : Int) ≤ 64) || decide (((l.length : Nat) : Int) > 200)):=if_pos (by omega)
theorem lrg_0 {l : List WT} (h : ¬ ((l.length : Nat) : Int) > 16) : lrg l = l.any fun w=>lgR w.2.2.1:=if_neg (by omega)
theorem lrg_t {l : List WT} {j : Nat} (h : ¬ ((l.length : Nat) : Int) > 16) (hj : j < l.length) (h2 : lgR (l.getD j default).2.2.1 = true) : lrg l = true:=by
  rw [lrg_0 h,List.any_eq_true]
  rw [List.getD_eq_getElem?_getD,List.getElem?_eq_getElem hj,Option.getD_some] at h2
  exact ⟨_,List.getElem_mem hj,h2⟩
theorem lrg_f {l : List WT} (h : ¬ ((l.length : Nat) : Int) > 16) (h2 : ∀ j,j < l.length → lgR (l.getD j default).2.2.1 = false) : lrg l = false:=by
  rw [lrg_0 h,List.any_eq_false]
  intro w hw
  obtain ⟨j,hj,rfl⟩:=List.mem_iff_getElem.1 hw
  have:=h2 j hj
  rw [List.getD_eq_getElem?_getD,List.getElem?_eq_getElem hj,Option.getD_some] at this
  rw [this];decide
theorem val128 {l : List Nat} (hw : wfl l) (h : l.length ≤ 4) : Go.Proofs.YtjphllpnhjemjaaGreat.val l < 2 ^ 128:=by
  have h1:=val_lt hw
  exact Nat.lt_of_lt_of_le h1 (by have:=Nat.pow_le_pow_right (show 0 < 2 by decide) (show 32 * l.length ≤ 128 by omega);first | exact this | (rw [← Nat.pow_mul] ;exact this) | (refine Nat.le_trans ?_ this;rw [Nat.pow_mul];exact Nat.le_refl _))
theorem RX.toFX4 {r : FR} {v : Value} {G : Gh} (h : (RX r).t v G) (hs : lgR r = false) : (FX 128 r).t v G:=by
  have hs:=of_decide_eq_false hs
  obtain ⟨x,y,e,hp,hq⟩:=h
  exact ⟨by decide,val128 (SL.wf hp) (by omega),val128 (SL.wf hq) (by omega),x,y,e,hp,hq⟩
instance NS.f4 {r : FR} : NS (RX r) (FX 128 r) (lgR r = false):=⟨fun hs h=>RX.toFX4 h hs⟩
theorem WRS.to {l : List WT} {v : Value} {G : Gh} (h : (WRS l).t v G) (hs : ∀ w ∈ l,lgR w.2.2.1 = false) : (WTS l).t v G :=
  LS.convM (T:=WRX) (U:=WTX) (f:=fun w=>w) h (by simp) fun w hw v G hv=>by
    have:=hs w hw
    exact NS.h (τ:=WRX w) (τ':=WTX w) (by simpa using this) hv
theorem lrg_s {l : List WT} (h : lrg l = false) (hl : l.length ≤ 16) : ∀ w ∈ l,lgR w.2.2.1 = false:=by
  rw [lrg_0 (by omega),List.any_eq_false] at h
  intro w hw
  simpa using h w hw
instance NR.wts {l : List WT} : NR (WTS l) (WRS l):=⟨fun h=>LS.convM (T:=WTX) (U:=WRX) (f:=fun w=>w) h (by simp) fun w hw v G hv=>NR.h (τ:=WTX w) (τ':=WRX w) hv⟩
theorem w8 {r : FR} : Con Tryz.prog 8 [RX r] (True) (BT (lgR r)):=.o1 fun hok h1 hp=>by
  refine St.enter (N:=11) Tryz.func8 rfl rfl rfl hok (enter1 h1) fun a=>?_
  have hl1 : r.p.length ≤ LIM ∧ r.q.length ≤ LIM:=by obtain ⟨x,y,e,hp2,hq2⟩:=h1;exact ⟨SL.lim hp2,SL.lim hq2⟩
  simp only [LIM] at hl1
  repeat' (first|((with_reducible refine gS_ ?_);first|((with_reducible refine gL_ ?_);first|refine W.run ?_ fun a w G=>?_|refine W.mv fun a w G=>?_|refine W.asg fun a w G=>?_|refine W.bx fun b a w G=>?_|(refine W.nn hK ?_;clear hK K)|refine W.nl ?_|refine W.al fun b a w G=>?_|refine W.st fun w=>?_|refine W.stp fun w=>?_|refine W.ste ?_ fun w=>?_)|((with_reducible refine gC_ ?_);first|refine W.reg fun K hK=>?_|refine W.reg1 ?_|refine W.sq fun K hK=>?_|refine W.ds ?_ (fun β a w G hu=>W.fin ?_ hu) mixedOrders (by kernel_rfl)|refine W.sk ?_|refine W.cd (fun hc=>?_) (fun hc=>?_)|refine W.cb (fun hc=>?_) (fun hc=>?_)|refine W.bl ?_|refine W.ex ?_|refine W.rt ?_)|((with_reducible refine W.kn hK ?_);clear hK K)|(with_reducible first|refine W.bn ?_|refine W.xt ?_|refine W.xb ?_|refine W.xo ?_|refine W.tr ?_|refine W.br ?_)|refine W.rt1 rfl ?_|refine W.rt2 rfl ?_ ?_|refine W.rt3 rfl ?_ ?_ ?_)|clear hK K|clear hu|exact True.intro|exact Nat.le_trans (by clear hp;omega) hp|exact Nat.le_trans (by clear hp;omega) hp.1|exact Nat.le_trans (by clear hp;omega) hp.2|(clear hp;omega)|apply And.intro|refine GI.i fun _=>?_|with_reducible rfl|decide|(simp only [List.length_cons,List.length_nil];omega))
  all_goals first | omega | rfl | skip
instance {r : FR} {τ1 : MT} [j1 : NR τ1 (RX r)] : Con Tryz.prog 8 [τ1] (True) (BT (lgR r)):=.o1 fun hok h1 hp=>w8.c1 hok (j1.h h1) hp
theorem w7 {l : List WT} : Con Tryz.prog 7 [WRS l] (True) (BT (lrg l)):=.o1 fun hok h1 hp=>by
  refine St.enter (N:=27) Tryz.func7 rfl rfl rfl hok (enter1 h1) fun a=>?_
  have hlim:=LS.lenM h1
  simp only [LIM] at hlim
  repeat' (first|((with_reducible refine gS_ ?_);first|((with_reducible refine gL_ ?_);first|refine W.run ?_ fun a w G=>?_|refine W.mv fun a w G=>?_|refine W.asg fun a w G=>?_|refine W.bx fun b a w G=>?_|(refine W.nn hK ?_;clear hK K)|refine W.nl ?_|refine W.al fun b a w G=>?_|refine W.st fun w=>?_|refine W.stp fun w=>?_|refine W.ste ?_ fun w=>?_)|((with_reducible refine gC_ ?_);first|refine W.reg fun K hK=>?_|refine W.reg1 ?_|refine W.sq fun K hK=>?_|refine W.ds ?_ (fun β a w G hu=>W.fin ?_ hu) mixedOrders (by kernel_rfl)|refine W.sk ?_|refine W.cd (fun hc=>?_) (fun hc=>?_)|refine W.cb (fun hc=>?_) (fun hc=>?_)|refine W.bl ?_|refine W.ex ?_|refine W.rt ?_)|((with_reducible refine W.kn hK ?_);clear hK K)|(with_reducible first|refine W.bn ?_|refine W.xt ?_|refine W.xb ?_|refine W.xo ?_|refine W.tr ?_|refine W.br ?_)|refine W.rt1 rfl ?_|refine W.rt2 rfl ?_ ?_|refine W.rt3 rfl ?_ ?_ ?_)|refine W.lp 15 (α:=Nat) (fun j=>l.length - j) (fun j=>j ≤ l.length ∧ ∀ k,k < j → lgR (l.getD k default).2.2.1 = false) [2,3,15,16,17,18,19,20,21,22,23,24,25,26] (fun j=>[(3,NT j)]) (fun j=>[]) (0) ?_ ?_ ?_ fun j hj a w G=>?_|refine W.ag (x:=j) (j+1) ?_ ?_ ?_ ?_|clear hK K|clear hu|exact True.intro|exact Nat.le_trans (by clear hp;omega) hp|exact Nat.le_trans (by clear hp;omega) hp.1|exact Nat.le_trans (by clear hp;omega) hp.2|(clear hp;omega)|apply And.intro|refine GI.i fun _=>?_|with_reducible rfl|decide|(simp only [List.length_cons,List.length_nil];omega))
  all_goals first
    | omega
    | rfl
    | exact (lrg_1 (by assumption)).symm
    | exact (lrg_t (j:=j) (by assumption) (by omega) (decide_eq_true (by assumption))).symm
    | exact (lrg_f (by assumption) fun q hq=>hj.2 q (by omega)).symm
    | (intro q hq
       rcases Nat.lt_or_eq_of_le (Nat.le_of_lt_succ hq) with e | e
       · exact hj.2 q e
       · subst e;exact decide_eq_false (by assumption))
    | skip
instance {l : List WT} {τ1 : MT} [j1 : NR τ1 (WRS l)] : Con Tryz.prog 7 [τ1] (True) (BT (lrg l)):=.o1 fun hok h1 hp=>w7.c1 hok (j1.h h1) hp
theorem exA_ch : chW 2 exA = 0:=by decide +kernel
theorem exA_lc : lcE 2 exA = 0 ∧ lcP 2 exA = 5 ∧ lcS 2 exA = [0,3]:=by
  unfold lcE lcP lcS
  rw [if_pos exA_ch,if_pos exA_ch,if_pos exA_ch]
  exact exA_l
theorem exA_gv : gvC 2 exA (FR.of 4) = 0:=by
  unfold gvC
  rw [if_pos exA_ch,if_pos (by unfold nnR;rw [FR.of_ok,FR.of_val];decide +kernel)]
theorem exA_st : stC 2 exA (FR.of 4) = 16:=by
  unfold stC
  rw [if_pos exA_gv,FR.of_val]
  exact if_pos exA_4
theorem wtx_mk {n : Nat} {x : Rat} {a b c : Int} (hn : n ≤ 128) {v : Value} {G : Gh} (h : (PTS [(none,IT a),(none,IT b),(some 3,QC n x),(none,IT c)]).t v G) : (WTX (a,b,FR.of x,c)).t v G:=by
  obtain ⟨us,e1,h1,h2⟩:=h
  refine ⟨us,e1,h1,fun i p u hp hu=>?_⟩
  match i,hp with
  | 0,hp=>cases hp;exact h2 0 _ u rfl hu
  | 1,hp=>cases hp;exact h2 1 _ u rfl hu
  | 2,hp=>cases hp;obtain ⟨d1,d2⟩:=h2 2 _ u rfl hu;exact ⟨d1,FX.up (QC.toFX d2 (one_le_of_lt x.den_nz d2.1.2)) hn⟩
  | 3,hp=>cases hp;exact h2 3 _ u rfl hu
  | i + 4,hp=>cases hp
instance {n : Nat} {x : Rat} {a b c : Int} : Fit (PTS [(none,IT a),(none,IT b),(some 3,QC n x),(none,IT c)]) WTX (a,b,FR.of x,c) (n ≤ 128):=⟨fun e _ _ h=>wtx_mk e h⟩
theorem exaw  : Con Tryz.prog 24 [] (True) (LS (some 6) (([(0,1,FR.of 3,0),(1,0,FR.of 2,1)] : List WT).map WTX)):=.o0 fun hok  hp=>by
  refine St.enter (N:=6) Tryz.func24 rfl rfl rfl hok enter0 fun a=>?_
  repeat' (first|((with_reducible refine gS_ ?_);first|((with_reducible refine gL_ ?_);first|refine W.run ?_ fun a w G=>?_|refine W.mv fun a w G=>?_|refine W.asg fun a w G=>?_|refine W.bx fun b a w G=>?_|(refine W.nn hK ?_;clear hK K)|refine W.nl ?_|refine W.al fun b a w G=>?_|refine W.st fun w=>?_|refine W.stp fun w=>?_|refine W.ste ?_ fun w=>?_)|((with_reducible refine gC_ ?_);first|refine W.reg fun K hK=>?_|refine W.reg1 ?_|refine W.sq fun K hK=>?_|refine W.ds ?_ (fun β a w G hu=>W.fin ?_ hu) mixedOrders (by kernel_rfl)|refine W.sk ?_|refine W.cd (fun hc=>?_) (fun hc=>?_)|refine W.cb (fun hc=>?_) (fun hc=>?_)|refine W.bl ?_|refine W.ex ?_|refine W.rt ?_)|((with_reducible refine W.kn hK ?_);clear hK K)|(with_reducible first|refine W.bn ?_|refine W.xt ?_|refine W.xb ?_|refine W.xo ?_|refine W.tr ?_|refine W.br ?_)|refine W.rt1 rfl ?_|refine W.rt2 rfl ?_ ?_|refine W.rt3 rfl ?_ ?_ ?_)|clear hK K|clear hu|exact True.intro|exact Nat.le_trans (by clear hp;omega) hp|exact Nat.le_trans (by clear hp;omega) hp.1|exact Nat.le_trans (by clear hp;omega) hp.2|(clear hp;omega)|apply And.intro|refine GI.i fun _=>?_|with_reducible rfl|decide|(simp only [List.length_cons,List.length_nil];omega))
  all_goals first | omega | rfl | decide | skip
theorem exA_eq : ([(0,1,FR.of 3,0),(1,0,FR.of 2,1)] : List WT) = exA:=by decide +kernel
instance : Con Tryz.prog 24 [] True (WTS exA):=.o0 fun hok hp=>by have h:=exaw.h (vs:=[]) hok trivial hp;rw [exA_eq] at h;exact h
instance  : Con Tryz.prog 6 [] (True) (BT true):=.o0 fun hok  hp=>by
  refine St.enter (N:=36) Tryz.func6 rfl rfl rfl hok enter0 fun a=>?_
  repeat' (first|((with_reducible refine gS_ ?_);first|((with_reducible refine gL_ ?_);first|refine W.run ?_ fun a w G=>?_|refine W.mv fun a w G=>?_|refine W.asg fun a w G=>?_|refine W.bx fun b a w G=>?_|(refine W.nn hK ?_;clear hK K)|refine W.nl ?_|refine W.al fun b a w G=>?_|refine W.st fun w=>?_|refine W.stp fun w=>?_|refine W.ste ?_ fun w=>?_)|((with_reducible refine gC_ ?_);first|refine W.reg fun K hK=>?_|refine W.reg1 ?_|refine W.sq fun K hK=>?_|refine W.ds ?_ (fun β a w G hu=>W.fin ?_ hu) mixedOrders (by kernel_rfl)|refine W.sk ?_|refine W.cd (fun hc=>?_) (fun hc=>?_)|refine W.cb (fun hc=>?_) (fun hc=>?_)|refine W.bl ?_|refine W.ex ?_|refine W.rt ?_)|((with_reducible refine W.kn hK ?_);clear hK K)|(with_reducible first|refine W.bn ?_|refine W.xt ?_|refine W.xb ?_|refine W.xo ?_|refine W.tr ?_|refine W.br ?_)|refine W.rt1 rfl ?_|refine W.rt2 rfl ?_ ?_|refine W.rt3 rfl ?_ ?_ ?_)|clear hK K|clear hu|exact True.intro|exact Nat.le_trans (by clear hp;omega) hp|exact Nat.le_trans (by clear hp;omega) hp.1|exact Nat.le_trans (by clear hp;omega) hp.2|(clear hp;omega)|apply And.intro|refine GI.i fun _=>?_|with_reducible rfl|decide|(simp only [List.length_cons,List.length_nil];omega))
  all_goals first
    | omega
    | (rw [exA_lc.1,exA_lc.2.1,exA_lc.2.2,exA_st];decide +kernel)
    | decide
    | skip
end Go.Proofs.YtjphllpnhjemjaaGreat
set_option linter.unusedVariables false
set_option linter.unusedSimpArgs false
set_option maxHeartbeats 4000000
set_option maxRecDepth 100000
set_option synthInstance.maxSize 100000
set_option synthInstance.maxHeartbeats 400000
namespace Go.Proofs.YtjphllpnhjemjaaGreat
open Go.RowKit (Below)
attribute [local irreducible] Go.Code.wp Go.wpList Go.bodyPost
theorem ch_big {n : Int} {l : List WT} (h : 64 < l.length) : ¬ chW n l = 0:=fun e=>by have:=ch_ok e;omega
theorem st_big {n : Int} {l : List WT} {r : FR} (h : ¬ chW n l = 0) : gvC n l r = chW n l ∧ stC n l r = chW n l ∧ stL n l r = [] ∧ skL n l r = []:=by
  have e : gvC n l r = chW n l:=gv_c h
  have h1:=st_e (n:=n) (l:=l) (r:=r) (by rw [e];exact h)
  exact ⟨e,h1.1.trans e,h1.2,sk_e (by rw [h1.1,e];exact h)⟩
instance {n : Int} {l : List WT} {r : FR} : Con Tryz.prog 27 [IT n,WRS l,FX 128 r] (64 < l.length) (.ex (errV 59 (gvC n l r))):=.o3 fun hok h1 h2 h3 hp=>by
  refine St.enter (N:=23) Tryz.func27 rfl rfl rfl hok (enter3 h1 h2 h3) fun a=>?_
  have hb:=ch_big (n:=n) hp
  have hs:=st_big (r:=r) hb
  repeat' (first|((with_reducible refine gS_ ?_);first|((with_reducible refine gL_ ?_);first|refine W.run ?_ fun a w G=>?_|refine W.mv fun a w G=>?_|refine W.asg fun a w G=>?_|refine W.bx fun b a w G=>?_|(refine W.nn hK ?_;clear hK K)|refine W.nl ?_|refine W.al fun b a w G=>?_|refine W.st fun w=>?_|refine W.stp fun w=>?_|refine W.ste ?_ fun w=>?_)|((with_reducible refine gC_ ?_);first|refine W.reg fun K hK=>?_|refine W.reg1 ?_|refine W.sq fun K hK=>?_|refine W.ds ?_ (fun β a w G hu=>W.fin ?_ hu) mixedOrders (by kernel_rfl)|refine W.sk ?_|refine W.cd (fun hc=>?_) (fun hc=>?_)|refine W.cb (fun hc=>?_) (fun hc=>?_)|refine W.bl ?_|refine W.ex ?_|refine W.rt ?_)|((with_reducible refine W.kn hK ?_);clear hK K)|(with_reducible first|refine W.bn ?_|refine W.xt ?_|refine W.xb ?_|refine W.xo ?_|refine W.tr ?_|refine W.br ?_)|refine W.rt1 rfl ?_|refine W.rt2 rfl ?_ ?_|refine W.rt3 rfl ?_ ?_ ?_)|clear hK K|clear hu|exact True.intro|exact Nat.le_trans (by clear hp;omega) hp|exact Nat.le_trans (by clear hp;omega) hp.1|exact Nat.le_trans (by clear hp;omega) hp.2|(clear hp;omega)|apply And.intro|refine GI.i fun _=>?_|with_reducible rfl|decide|(simp only [List.length_cons,List.length_nil];omega))
  all_goals first
    | omega
    | exact hs.1.symm
    | exact hs.2.1.symm
    | (rw [hs.2.1];done)
    | exact hs.2.2.1
    | exact hs.2.2.1.symm
    | exact hs.2.2.2
    | exact hs.2.2.2.symm
    | skip
instance {n : Int} {l : List WT} {r : FR} : Con Tryz.prog 9 [IT n,WRS l,FX 128 r] (64 < l.length) (MT.tup2 (QNS NB (stL n l r)) (.ex (errV 59 (stC n l r)))):=.o3 fun hok h1 h2 h3 hp=>by
  refine St.enter (N:=29) Tryz.func9 rfl rfl rfl hok (enter3 h1 h2 h3) fun a=>?_
  have hb:=ch_big (n:=n) hp
  have hs:=st_big (r:=r) hb
  repeat' (first|((with_reducible refine gS_ ?_);first|((with_reducible refine gL_ ?_);first|refine W.run ?_ fun a w G=>?_|refine W.mv fun a w G=>?_|refine W.asg fun a w G=>?_|refine W.bx fun b a w G=>?_|(refine W.nn hK ?_;clear hK K)|refine W.nl ?_|refine W.al fun b a w G=>?_|refine W.st fun w=>?_|refine W.stp fun w=>?_|refine W.ste ?_ fun w=>?_)|((with_reducible refine gC_ ?_);first|refine W.reg fun K hK=>?_|refine W.reg1 ?_|refine W.sq fun K hK=>?_|refine W.ds ?_ (fun β a w G hu=>W.fin ?_ hu) mixedOrders (by kernel_rfl)|refine W.sk ?_|refine W.cd (fun hc=>?_) (fun hc=>?_)|refine W.cb (fun hc=>?_) (fun hc=>?_)|refine W.bl ?_|refine W.ex ?_|refine W.rt ?_)|((with_reducible refine W.kn hK ?_);clear hK K)|(with_reducible first|refine W.bn ?_|refine W.xt ?_|refine W.xb ?_|refine W.xo ?_|refine W.tr ?_|refine W.br ?_)|refine W.rt1 rfl ?_|refine W.rt2 rfl ?_ ?_|refine W.rt3 rfl ?_ ?_ ?_)|clear hK K|clear hu|exact True.intro|exact Nat.le_trans (by clear hp;omega) hp|exact Nat.le_trans (by clear hp;omega) hp.1|exact Nat.le_trans (by clear hp;omega) hp.2|(clear hp;omega)|apply And.intro|refine GI.i fun _=>?_|with_reducible rfl|decide|(simp only [List.length_cons,List.length_nil];omega))
  all_goals first
    | omega
    | exact hs.1.symm
    | exact hs.2.1.symm
    | (rw [hs.2.1];done)
    | exact hs.2.2.1
    | exact hs.2.2.1.symm
    | exact hs.2.2.2
    | exact hs.2.2.2.symm
    | skip
instance gTH10_3_2 : GcT 3 2 false 5 [6,13,14,15,16,17,18,19,20,21,22]:=⟨⟩
instance gTH10_3_3 : GcT 3 3 false 6 [13,14,15,16,17,18,19,20,21,22]:=⟨⟩
instance gTH10_3_4 : GcT 3 4 false 24 [25,26,27,28,29,30]:=⟨⟩
instance gTH10_3_5 : GcT 3 5 false 31 [32,33,34,35,36,37]:=⟨⟩
instance gTH10_3_8 : GcT 3 8 false 38 [39,40,41,42,43,44,45,46,47,48,49,50,51,52]:=⟨⟩
instance gTH10_3_12 : GcT 3 12 false 5 [12,53,54,62,63]:=⟨⟩
end Go.Proofs.YtjphllpnhjemjaaGreat
set_option linter.unusedVariables false
set_option linter.unusedSimpArgs false
namespace Go.Proofs.YtjphllpnhjemjaaGreat
theorem conv0 {n : Nat} {l : List WT} {p : Rat} (hl : OKL n l) (hk : ¬ laF n l p n < 0) : cokF l (roF n l p (n + 1)).2 n (laF n l p n).toNat = true:=by
  obtain ⟨rn,h⟩:=Jnv.ro (p:=p) hl n
  obtain ⟨rn',h',hla⟩:=h.rd hl roF_len.1 roF_len.2 (Nat.le_refl l.length)
  obtain ⟨tm,T,hI⟩:=Inv.ro (p:=p) hl (n + 1)
  have hlt:=la_lt hl hk
  have e1 : rn' (laF n l p n).toNat = n + 1:=by
    rcases hla with e | e
    · exact absurd (show laF n l p n < 0 by unfold laF;omega) hk
    · exact e.2
  have key : ∀ k,k ≤ n → n + 1 - k ≤ rn' (bknF l (roF n l p (n + 1)).2 (laF n l p n).toNat k) ∧ ∀ j,j ≤ k → 0 ≤ (roF n l p (n + 1)).2.getD (bknF l (roF n l p (n + 1)).2 (laF n l p n).toNat j) default:=by
    intro k
    induction k with
    | zero => intro _; refine ⟨by rw [show bknF l (roF n l p (n + 1)).2 (laF n l p n).toNat 0 = (laF n l p n).toNat from rfl, e1]; omega, fun j hj => ?_⟩
              obtain rfl : j = 0:=by omega
              exact h'.j0 _ hlt.1 (by rw [show bknF l (roF n l p (n + 1)).2 (laF n l p n).toNat 0 = (laF n l p n).toNat from rfl,e1];omega)
    | succ k ih =>
      intro hkn
      obtain ⟨a1,a2⟩:=ih (by omega)
      have hb:=bkn_lt hl hI hlt.1 k fun j hj=>a2 j (by omega)
      have hb0:=a2 k (Nat.le_refl k)
      have hb1:=bkn_lt hl hI hlt.1 (k + 1) fun j hj=>a2 j (by omega)
      have a3 : n + 1 - (k + 1) ≤ rn' (bknF l (roF n l p (n + 1)).2 (laF n l p n).toNat (k + 1)):=by
        rcases hI.ca _ hb with hc | ⟨c,hc1,hc2,_⟩
        · rw [hc.1] at hb0;exact absurd hb0 (by decide)
        · have:=h'.j1 _ hb c hc1 hc2
          show n + 1 - (k + 1) ≤ rn' (wFr (l.getD ((roF n l p (n + 1)).2.getD (bknF l (roF n l p (n + 1)).2 (laF n l p n).toNat k) default).toNat default))
          rw [hc1]
          simp only [Int.toNat_natCast]
          omega
      refine ⟨a3,fun j hj=>?_⟩
      by_cases e : j = k + 1
      · subst e;exact h'.j0 _ hb1 (by omega)
      · exact a2 j (by omega)
  exact cok_iff.2 fun k hk=>(key k hk).2 k (Nat.le_refl k)
theorem rx_two {n : Nat} {l : List WT} {p : Rat} (hl : OKL n l) (hn : 0 < n) : rxF n l p (n + 1) 0 ≠ ([],[]):=by
  have key : ∀ m k,k + m = n + 1 → 0 < m → rxF n l p m k ≠ ([],[]):=by
    intro m
    induction m with
    | zero=>intro k _ h;exact absurd h (Nat.lt_irrefl 0)
    | succ m ih =>
      intro k hk _
      unfold rxF
      split
      · intro e
        have:=roF_len (n:=n) (l:=l) (p:=p) (k:=k + 1)
        rw [show (roF n l p (k + 1)).1 = [] from congrArg Prod.fst e] at this
        have h0 : 0 = n:=this.1
        omega
      · rename_i h1
        split
        · rename_i hc
          obtain ⟨tm,T,hI⟩:=Inv.ro (p:=p) hl (k + 1)
          have:=cy_list hl hI (la_lt hl h1).1 hc
          intro e
          have e2:=congrArg Prod.snd e
          simp only at e2
          rw [e2] at this
          exact absurd this.2.1 (by simp)
        · rename_i hc
          rcases Nat.eq_zero_or_pos m with e | e
          · have : k = n:=by omega
            subst this
            exact absurd (conv0 hl h1) hc
          · exact ih (k + 1) (by omega) e
  exact key _ _ (by omega) (Nat.succ_pos n)
inductive Wy (l : List WT) (a : Nat) : Nat → Nat → Int → Rat → Prop
  | nil : Wy l a 0 a 0 0
  | cons {s b i : Nat} {k : Int} {tm : Rat} : Wy l a s b k tm → i < l.length → wFr (l.getD i default) = b → Wy l a (s + 1) (wTo (l.getD i default)) (k + (l.getD i default).2.2.2) (tm + (l.getD i default).2.2.1.val)
theorem Wy.fea {l : List WT} {p : Rat} {P : Nat → Rat} (h : FEA l p P) {a s b : Nat} {k : Int} {tm : Rat} (w : Wy l a s b k tm) : P a + (tm - (k : Rat) * p) ≤ P b:=by
  induction w with
  | nil=>rw [Rat.intCast_zero];grind
  | @cons s b i k tm w hi hf ih =>
    have h1:=h i hi
    rw [hf] at h1
    unfold wgW at h1
    rw [Rat.intCast_add]
    grind
theorem Wy.closed {l : List WT} {p : Rat} {P : Nat → Rat} (h : FEA l p P) {a s : Nat} {k : Int} {tm : Rat} (w : Wy l a s a k tm) : tm ≤ (k : Rat) * p:=by
  have:=w.fea h;grind
theorem Wy.turns {l : List WT} {M : Int} (ht : ∀ i,i < l.length → 0 ≤ (l.getD i default).2.2.2 ∧ (l.getD i default).2.2.2 ≤ M) {a s b : Nat} {k : Int} {tm : Rat} (w : Wy l a s b k tm) : 0 ≤ k ∧ k ≤ M * (s : Int):=by
  induction w with
  | nil=>exact ⟨Int.le_refl 0,by simp⟩
  | @cons s b i k tm w hi hf ih =>
    have h1:=ht i hi
    have e : M * ((s + 1 : Nat) : Int) = M * (s : Int) + M:=by rw [Int.natCast_add,Int.mul_add];simp
    rw [e];omega
theorem Wy.lt {n : Nat} {l : List WT} (hl : OKL n l) {a s b : Nat} {k : Int} {tm : Rat} (ha : a < n) (w : Wy l a s b k tm) : b < n:=by
  cases w with
  | nil=>exact ha
  | cons w hi hf=>exact (hl _ hi).to
theorem wk_loop {l : List WT} {lo : List Int} (hi : INL l lo) (hd : LPD l lo) (hl : ∃ n,OKL n l) : ∀ k,k ≤ lo.length → ∃ b,Wy l (wFr (l.getD (lo.getD 0 default).toNat default)) k b (tuF l lo k) (tiF l lo k) ∧ (∀ hk : k < lo.length,b = wFr (l.getD (lo.getD k default).toNat default)) ∧ (k = lo.length → 0 < k → b = wFr (l.getD (lo.getD 0 default).toNat default)):=by
  obtain ⟨n,hl⟩:=hl
  intro k
  induction k with
  | zero=>intro _;exact ⟨_,.nil,fun _=>rfl,fun _ h=>absurd h (Nat.lt_irrefl 0)⟩
  | succ k ih =>
    intro hk
    obtain ⟨b,hw,h1,_⟩:=ih (by omega)
    have hik:=hi k (by omega)
    have hik2 : (lo.getD k default).toNat < l.length:=by omega
    have hb:=h1 (by omega)
    refine ⟨_,.cons hw hik2 hb.symm,fun h2=>?_,fun h2 _=>?_⟩
    · have:=hd k (by omega)
      rw [Nat.mod_eq_of_lt h2] at this
      unfold wTo wFr;rw [this]
    · have:=hd k (by omega)
      rw [h2,Nat.mod_self] at this
      unfold wTo wFr;rw [this]
theorem cy_lpd {n : Nat} {l : List WT} {p : Rat} {s : List Rat} {b : List Int} {tm : Nat → Nat} {T ev : Nat} (hl : OKL n l) (h : Inv n l p s b tm T) (hv : ev < n) (hc : cokF l b n ev = true) : LPD l (cyF l b n ev):=by
  obtain ⟨h1,h2,h3,h4,_,h6⟩:=cy_loop hl h hv hc
  have hcy : cyF l b n ev = ((List.range (prF l b n ev)).map fun k=>b.getD (bknF l b (e0F l b n ev) k) default).reverse:=if_pos hc
  have hlen : (cyF l b n ev).length = prF l b n ev:=by rw [hcy,List.length_reverse,List.length_map,List.length_range]
  have hget : ∀ q,q < prF l b n ev → (cyF l b n ev).getD q default = b.getD (bknF l b (e0F l b n ev) (prF l b n ev - 1 - q)) default:=fun q hq=>by
    rw [hcy,List.getD_eq_getElem?_getD,List.getElem?_reverse (by simpa using hq),List.getElem?_map,List.length_map,List.length_range,List.getElem?_range (by omega)];rfl
  have hto : ∀ q,q ≤ prF l b n ev → (l.getD (b.getD (bknF l b (e0F l b n ev) q) default).toNat default).2.1 = ((bknF l b (e0F l b n ev) q : Nat) : Int):=fun q hq=>by
    obtain ⟨a1,a2⟩:=h6 q hq
    rcases h.ca _ a2 with hx | ⟨i,hi1,hi2,hi3,_⟩
    · rw [hx.1] at a1;exact absurd a1 (by decide)
    · rw [hi1,Int.toNat_natCast]
      have:=hl i hi2
      unfold okW at this
      unfold wTo at hi3
      omega
  have hfr : ∀ q,q < prF l b n ev → (l.getD (b.getD (bknF l b (e0F l b n ev) q) default).toNat default).1 = ((bknF l b (e0F l b n ev) (q + 1) : Nat) : Int):=fun q hq=>by
    obtain ⟨a1,a2⟩:=h6 q (by omega)
    show _ = ((wFr (l.getD (b.getD (bknF l b (e0F l b n ev) q) default).toNat default) : Nat) : Int)
    rcases h.ca _ a2 with hx | ⟨i,hi1,hi2,hi3,_⟩
    · rw [hx.1] at a1;exact absurd a1 (by decide)
    · rw [hi1,Int.toNat_natCast]
      have:=hl i hi2
      unfold okW at this
      unfold wFr
      omega
  intro k hk
  rw [hlen] at hk ⊢
  rw [hget k hk,hto _ (by omega)]
  rcases Nat.lt_or_ge (k + 1) (prF l b n ev) with e | e
  · rw [Nat.mod_eq_of_lt e,hget _ e,hfr _ (by omega),show prF l b n ev - 1 - (k + 1) + 1 = prF l b n ev - 1 - k by omega]
  · have e1 : k + 1 = prF l b n ev:=by omega
    rw [e1,Nat.mod_self,hget 0 (by omega),hfr _ (by omega),show prF l b n ev - 1 - k = 0 by omega,show prF l b n ev - 1 - 0 + 1 = prF l b n ev by omega,h4];rfl
theorem rx_lpd {n : Nat} {l : List WT} {p : Rat} (hl : OKL n l) (hn : 0 < n) : LPD l (rxF n l p (n + 1) 0).2:=by
  have key : ∀ m k,LPD l (rxF n l p m k).2:=by
    intro m
    induction m with
    | zero=>intro k q hq;exact absurd hq (Nat.not_lt_zero q)
    | succ m ih =>
      intro k
      unfold rxF
      split
      · intro q hq;exact absurd hq (Nat.not_lt_zero q)
      · rename_i hk
        split
        · rename_i hc
          obtain ⟨tm,T,hI⟩:=Inv.ro (p:=p) hl (k + 1)
          exact cy_lpd hl hI (la_lt hl hk).1 hc
        · exact ih (k + 1)
  exact key _ _
end Go.Proofs.YtjphllpnhjemjaaGreat
set_option linter.unusedVariables false
set_option linter.unusedSimpArgs false
namespace Go.Proofs.YtjphllpnhjemjaaGreat
theorem cmpB_gt0 {x y : Rat} : cmpQ x y > 0 ↔ y < x:=by
  unfold cmpQ
  split
  · rename_i h;exact ⟨fun h1=>absurd h1 (by decide),fun h1=>by grind⟩
  · split
    · rename_i h;exact ⟨fun _=>h,fun _=>by decide⟩
    · rename_i h;exact ⟨fun h1=>absurd h1 (by decide),fun h1=>absurd h1 h⟩
theorem Wy.nn {l : List WT} (ht : ∀ i,i < l.length → 0 ≤ (l.getD i default).2.2.2) {a s b : Nat} {k : Int} {tm : Rat} (w : Wy l a s b k tm) : 0 ≤ k:=by
  induction w with
  | nil=>exact Int.le_refl 0
  | @cons s b i k tm w hi hf ih=>have:=ht i hi;omega
abbrev BS:=Bool × Rat
def ixT (n T a b k : Nat) : Nat:=(a * n + b) * (T + 1) + k
theorem ixT_lt {n T a b k : Nat} (ha : a < n) (hb : b < n) (hk : k ≤ T) : ixT n T a b k < n * n * (T + 1):=by
  unfold ixT
  have h1 : a * n + b + 1 ≤ n * n:=by
    have:=Nat.mul_le_mul_right n (show a + 1 ≤ n from ha)
    rw [Nat.succ_mul] at this;omega
  have h2:=Nat.mul_le_mul_right (T + 1) h1
  rw [Nat.succ_mul] at h2;omega
theorem ixT_inj {n T a b k a' b' k' : Nat} (hb : b < n) (hk : k ≤ T) (hb' : b' < n) (hk' : k' ≤ T) (h : ixT n T a b k = ixT n T a' b' k') : a = a' ∧ b = b' ∧ k = k':=by
  unfold ixT at h
  have e1 : ((a * n + b) * (T + 1) + k) / (T + 1) = a * n + b:=by rw [Nat.mul_comm,Nat.mul_add_div (by omega),Nat.div_eq_of_lt (by omega),Nat.add_zero]
  have e2 : ((a' * n + b') * (T + 1) + k') / (T + 1) = a' * n + b':=by rw [Nat.mul_comm,Nat.mul_add_div (by omega),Nat.div_eq_of_lt (by omega),Nat.add_zero]
  have h1 : a * n + b = a' * n + b':=by rw [← e1,← e2,h]
  have h2 : k = k':=by rw [h1] at h;omega
  have e3 : (a * n + b) / n = a:=by rw [Nat.mul_comm,Nat.mul_add_div (by omega),Nat.div_eq_of_lt hb,Nat.add_zero]
  have e4 : (a' * n + b') / n = a':=by rw [Nat.mul_comm,Nat.mul_add_div (by omega),Nat.div_eq_of_lt hb',Nat.add_zero]
  have h3 : a = a':=by rw [← e3,← e4,h1]
  subst h3
  exact ⟨rfl,by omega,h2⟩
section
variable (n T : Nat) (l : List WT) (t : List BS)
def tuW (i : Nat) : Nat:=(l.getD i default).2.2.2.toNat
def rk1 (fr i k : Nat) (o : List BS) : List BS :=
  if (t.getD (ixT n T fr (wFr (l.getD i default)) k) default).1 = true then
    (if (!(o.getD (ixT n T fr (wTo (l.getD i default)) (k + tuW l i)) default).1 || decide (cmpQ ((t.getD (ixT n T fr (wFr (l.getD i default)) k) default).2 + (l.getD i default).2.2.1.val) (o.getD (ixT n T fr (wTo (l.getD i default)) (k + tuW l i)) default).2 > 0)) = true
      then o.set (ixT n T fr (wTo (l.getD i default)) (k + tuW l i)) (true,(t.getD (ixT n T fr (wFr (l.getD i default)) k) default).2 + (l.getD i default).2.2.1.val) else o)
  else o
def rkF (fr i : Nat) (o : List BS) : Nat → List BS
  | 0=>o
  | k + 1=>rk1 n T l t fr i k (rkF fr i o k)
def riF (fr : Nat) (o : List BS) : Nat → List BS
  | 0=>o
  | i + 1=>rkF n T l t fr i (riF fr o i) (T + 1 - tuW l i)
def rfF (o : List BS) : Nat → List BS
  | 0=>o
  | f + 1=>riF n T l t f (rfF o f) l.length
def raF : List BS:=rfF n T l t (List.replicate t.length (false,0)) n
end
def SndT (n T : Nat) (l : List WT) (s : Nat) (o : List BS) : Prop:=∀ a b k,a < n → b < n → k ≤ T → (o.getD (ixT n T a b k) default).1 = true → Wy l a s b (k : Int) (o.getD (ixT n T a b k) default).2
def leT (o o' : List BS) : Prop:=∀ j,(o.getD j default).1 = true → (o'.getD j default).1 = true ∧ (o.getD j default).2 ≤ (o'.getD j default).2
def DomT (n T : Nat) (l : List WT) (t : List BS) (fr i k : Nat) (o : List BS) : Prop:=(t.getD (ixT n T fr (wFr (l.getD i default)) k) default).1 = true →
  (o.getD (ixT n T fr (wTo (l.getD i default)) (k + tuW l i)) default).1 = true ∧ (t.getD (ixT n T fr (wFr (l.getD i default)) k) default).2 + (l.getD i default).2.2.1.val ≤ (o.getD (ixT n T fr (wTo (l.getD i default)) (k + tuW l i)) default).2
theorem leT.refl {o : List BS} : leT o o:=fun j h=>⟨h,Rat.le_refl⟩
theorem leT.trans {o o' o'' : List BS} (h : leT o o') (h' : leT o' o'') : leT o o'':=fun j hj=>by
  obtain ⟨h1,h2⟩:=h j hj
  obtain ⟨h3,h4⟩:=h' j h1
  exact ⟨h3,Rat.le_trans h2 h4⟩
theorem DomT.mono {n T : Nat} {l : List WT} {t : List BS} {fr i k : Nat} {o o' : List BS} (h : DomT n T l t fr i k o) (hle : leT o o') : DomT n T l t fr i k o':=fun ht=>by
  obtain ⟨h1,h2⟩:=h ht
  obtain ⟨h3,h4⟩:=hle _ h1
  exact ⟨h3,Rat.le_trans h2 h4⟩
structure RP (n T : Nat) (l : List WT) (s : Nat) (o o' : List BS) : Prop where
  len : o'.length = o.length
  le : leT o o'
  snd : SndT n T l s o → SndT n T l s o'
theorem RP.refl {n T : Nat} {l : List WT} {s : Nat} {o : List BS} : RP n T l s o o:=⟨rfl,.refl,id⟩
theorem RP.trans {n T : Nat} {l : List WT} {s : Nat} {o o' o'' : List BS} (h : RP n T l s o o') (h' : RP n T l s o' o'') : RP n T l s o o'':=⟨h'.len.trans h.len,h.le.trans h'.le,fun x=>h'.snd (h.snd x)⟩
section
variable {n T : Nat} {l : List WT} {t : List BS} {s : Nat}
theorem gsetB {o : List BS} {i j : Nat} {x : BS} (h : i < o.length) : (o.set i x).getD j default = if j = i then x else o.getD j default:=gset h
theorem rk1_rp (hl : OKL n l) (ht : TNN l) (hs : SndT n T l s t) {fr i k : Nat} (hf : fr < n) (hi : i < l.length) (hk : k + tuW l i ≤ T) {o : List BS} (ho : o.length = n * n * (T + 1)) : RP n T l (s + 1) o (rk1 n T l t fr i k o) ∧ DomT n T l t fr i k (rk1 n T l t fr i k o):=by
  have hw:=hl i hi
  have hix:=ixT_lt hf hw.to hk
  unfold rk1
  split
  · rename_i hx
    have hwk:=hs fr _ k hf hw.fr (by omega) hx
    have hcons:=Wy.cons hwk hi rfl
    have e0 : (k : Int) + (l.getD i default).2.2.2 = ((k + tuW l i : Nat) : Int):=by
      have:=ht i hi
      unfold tuW;omega
    rw [e0] at hcons
    split
    · rename_i hc
      refine ⟨⟨List.length_set ..,fun j hj=>?_,fun h a b k' ha hb hk' h1=>?_⟩,fun _=>?_⟩
      · rw [gsetB (by rw [ho];exact hix)]
        split
        · rename_i e
          refine ⟨rfl,?_⟩
          rw [e] at hj ⊢
          rw [hj] at hc
          simp only [Bool.not_true,Bool.false_or,decide_eq_true_eq] at hc
          exact Rat.le_of_lt (cmpB_gt0.1 hc)
        · exact ⟨hj,Rat.le_refl⟩
      · rw [gsetB (by rw [ho];exact hix)] at h1 ⊢
        split at h1
        · rename_i e
          obtain ⟨rfl,rfl,rfl⟩:=ixT_inj hb hk' hw.to hk e
          rw [if_pos rfl]
          exact hcons
        · rename_i e
          rw [if_neg e]
          exact h a b k' ha hb hk' h1
      · rw [gsetB (by rw [ho];exact hix),if_pos rfl]
        exact ⟨rfl,Rat.le_refl⟩
    · rename_i hc
      refine ⟨.refl,fun _=>?_⟩
      have hc' : (o.getD (ixT n T fr (wTo (l.getD i default)) (k + tuW l i)) default).1 = true ∧ ¬ cmpQ ((t.getD (ixT n T fr (wFr (l.getD i default)) k) default).2 + (l.getD i default).2.2.1.val) (o.getD (ixT n T fr (wTo (l.getD i default)) (k + tuW l i)) default).2 > 0:=by
        simp only [Bool.or_eq_true,Bool.not_eq_true',decide_eq_true_eq,not_or] at hc
        exact ⟨by simpa using hc.1,hc.2⟩
      exact ⟨hc'.1,Rat.not_lt.1 fun h=>hc'.2 (cmpB_gt0.2 h)⟩
  · rename_i hx
    exact ⟨.refl,fun h=>absurd h hx⟩
theorem rkF_rp (hl : OKL n l) (ht : TNN l) (hs : SndT n T l s t) {fr i : Nat} (hf : fr < n) (hi : i < l.length) {o : List BS} (ho : o.length = n * n * (T + 1)) : ∀ m,m ≤ T + 1 - tuW l i → RP n T l (s + 1) o (rkF n T l t fr i o m) ∧ ∀ k,k < m → DomT n T l t fr i k (rkF n T l t fr i o m):=by
  intro m
  induction m with
  | zero=>intro _;exact ⟨.refl,fun k hk=>absurd hk (Nat.not_lt_zero k)⟩
  | succ m ih =>
    intro hm
    obtain ⟨h1,h2⟩:=ih (by omega)
    have h3:=rk1_rp hl ht hs hf hi (k:=m) (by omega) (o:=rkF n T l t fr i o m) (h1.len.trans ho)
    refine ⟨h1.trans h3.1,fun k hk=>?_⟩
    rcases Nat.lt_or_eq_of_le (Nat.le_of_lt_succ hk) with e | e
    · exact (h2 k e).mono h3.1.le
    · subst e;exact h3.2
theorem riF_rp (hl : OKL n l) (ht : TNN l) (hs : SndT n T l s t) {fr : Nat} (hf : fr < n) {o : List BS} (ho : o.length = n * n * (T + 1)) : ∀ m,m ≤ l.length → RP n T l (s + 1) o (riF n T l t fr o m) ∧ ∀ i k,i < m → k + tuW l i ≤ T → DomT n T l t fr i k (riF n T l t fr o m):=by
  intro m
  induction m with
  | zero=>intro _;exact ⟨.refl,fun i k hi=>absurd hi (Nat.not_lt_zero i)⟩
  | succ m ih =>
    intro hm
    obtain ⟨h1,h2⟩:=ih (by omega)
    have h3:=rkF_rp hl ht hs hf (i:=m) (by omega) (o:=riF n T l t fr o m) (h1.len.trans ho) _ (Nat.le_refl _)
    refine ⟨h1.trans h3.1,fun i k hi hk=>?_⟩
    rcases Nat.lt_or_eq_of_le (Nat.le_of_lt_succ hi) with e | e
    · exact (h2 i k e hk).mono h3.1.le
    · subst e;exact h3.2 k (by omega)
theorem rfF_rp (hl : OKL n l) (ht : TNN l) (hs : SndT n T l s t) {o : List BS} (ho : o.length = n * n * (T + 1)) : ∀ m,m ≤ n → RP n T l (s + 1) o (rfF n T l t o m) ∧ ∀ fr i k,fr < m → i < l.length → k + tuW l i ≤ T → DomT n T l t fr i k (rfF n T l t o m):=by
  intro m
  induction m with
  | zero=>intro _;exact ⟨.refl,fun fr i k hf=>absurd hf (Nat.not_lt_zero fr)⟩
  | succ m ih =>
    intro hm
    obtain ⟨h1,h2⟩:=ih (by omega)
    have h3:=riF_rp hl ht hs (fr:=m) (by omega) (o:=rfF n T l t o m) (h1.len.trans ho) _ (Nat.le_refl _)
    refine ⟨h1.trans h3.1,fun fr i k hf hi hk=>?_⟩
    rcases Nat.lt_or_eq_of_le (Nat.le_of_lt_succ hf) with e | e
    · exact (h2 fr i k e hi hk).mono h3.1.le
    · subst e;exact h3.2 i k hi hk
end
structure TI (n T : Nat) (l : List WT) (s : Nat) (t : List BS) : Prop where
  len : t.length = n * n * (T + 1)
  snd : SndT n T l s t
  cmp : ∀ a b (k : Int) tm,a < n → Wy l a s b k tm → k ≤ T → (t.getD (ixT n T a b k.toNat) default).1 = true ∧ tm ≤ (t.getD (ixT n T a b k.toNat) default).2
theorem rep_f {m j : Nat} : ((List.replicate m ((false,0) : BS)).getD j default).1 = false:=by
  rw [List.getD_eq_getElem?_getD,List.getElem?_replicate]
  split <;> rfl
theorem ra_len {n T : Nat} {l : List WT} {t : List BS} (hl : OKL n l) (ht : TNN l) {s : Nat} (h : TI n T l s t) : (raF n T l t).length = n * n * (T + 1) :=
  (rfF_rp hl ht h.snd (o:=List.replicate t.length (false,0)) (by rw [List.length_replicate,h.len]) n (Nat.le_refl n)).1.len.trans (by rw [List.length_replicate,h.len])
theorem TI.ra {n T : Nat} {l : List WT} {t : List BS} {s : Nat} (hl : OKL n l) (ht : ∀ i,i < l.length → 0 ≤ (l.getD i default).2.2.2) (h : TI n T l s t) : TI n T l (s + 1) (raF n T l t):=by
  have ht' : TNN l:=ht
  have h1:=rfF_rp hl ht' h.snd (o:=List.replicate t.length (false,0)) (by rw [List.length_replicate,h.len]) n (Nat.le_refl n)
  refine ⟨ra_len hl ht' h,h1.1.snd fun a b k _ _ _ hx=>?_,fun a b k tm ha hw hk=>?_⟩
  · rw [rep_f] at hx;cases hx
  · cases hw with
    | @cons s b i k tm hw hi hf =>
      have hti:=ht i hi
      have hkn:=hw.nn ht
      subst hf
      obtain ⟨c1,c2⟩:=h.cmp a _ k tm ha hw (by omega)
      have e : (k + (l.getD i default).2.2.2).toNat = k.toNat + tuW l i:=by unfold tuW;omega
      have hd:=h1.2 a i k.toNat ha hi (by omega) c1
      rw [e]
      exact ⟨hd.1,Rat.le_trans (Rat.add_le_add_right.2 c2) hd.2⟩
def inF (n T : Nat) : Nat → List BS
  | 0=>List.replicate (n * n * (T + 1)) (false,0)
  | e + 1=>(inF n T e).set ((e * n + e) * (T + 1)) (true,0)
theorem in_len {n T : Nat} : ∀ e,(inF n T e).length = n * n * (T + 1)
  | 0=>List.length_replicate ..
  | e + 1=>(List.length_set ..).trans (in_len e)
theorem in_get {n T : Nat} : ∀ m,m ≤ n → ∀ j,((inF n T m).getD j default).1 = true → ((inF n T m).getD j default).2 = 0 ∧ ∃ e,e < m ∧ j = ixT n T e e 0
  | 0,_,j,h=>by rw [show inF n T 0 = List.replicate (n * n * (T + 1)) (false,0) from rfl,rep_f] at h;cases h
  | m + 1,hm,j,h=>by
    have hlt : (m * n + m) * (T + 1) < (inF n T m).length:=by rw [in_len];exact ixT_lt (k:=0) (show m < n by omega) (show m < n by omega) (Nat.zero_le T)
    rw [show inF n T (m + 1) = (inF n T m).set ((m * n + m) * (T + 1)) (true,0) from rfl,gsetB hlt] at h ⊢
    split at h
    · rename_i e;rw [if_pos e];exact ⟨rfl,m,Nat.lt_succ_self m,e⟩
    · rename_i e
      rw [if_neg e]
      obtain ⟨h1,e2,h2,h3⟩:=in_get m (by omega) j h
      exact ⟨h1,e2,by omega,h3⟩
theorem in_at {n T : Nat} : ∀ m,m ≤ n → ∀ e,e < m → (inF n T m).getD (ixT n T e e 0) default = (true,0)
  | 0,_,e,h=>absurd h (Nat.not_lt_zero e)
  | m + 1,hm,e,h=>by
    have hlt : (m * n + m) * (T + 1) < (inF n T m).length:=by rw [in_len];exact ixT_lt (k:=0) (show m < n by omega) (show m < n by omega) (Nat.zero_le T)
    rw [show inF n T (m + 1) = (inF n T m).set ((m * n + m) * (T + 1)) (true,0) from rfl,gsetB hlt]
    split
    · rfl
    · rename_i h0
      refine in_at m (by omega) e ?_
      rcases Nat.lt_or_eq_of_le (Nat.le_of_lt_succ h) with e1 | e1
      · exact e1
      · subst e1;exact absurd rfl h0
theorem TI.in {n T : Nat} {l : List WT} : TI n T l 0 (inF n T n):=by
  refine ⟨in_len n,fun a b k ha hb hk h=>?_,fun a b k tm ha hw hk=>?_⟩
  · obtain ⟨h1,e,he,h2⟩:=in_get n (Nat.le_refl n) _ h
    obtain ⟨rfl,rfl,rfl⟩:=ixT_inj hb hk he (Nat.zero_le T) h2
    rw [h1]
    exact .nil
  · cases hw
    rw [Int.toNat_zero,in_at n (Nat.le_refl n) a ha]
    exact ⟨rfl,Rat.le_refl⟩
def tbF (n T : Nat) (l : List WT) : Nat → List BS
  | 0=>inF n T n
  | s + 1=>raF n T l (tbF n T l s)
theorem TI.tb {n T : Nat} {l : List WT} (hl : OKL n l) (ht : TNN l) : ∀ s,TI n T l s (tbF n T l s)
  | 0=>.in
  | s + 1=>(TI.tb hl ht s).ra hl ht
end Go.Proofs.YtjphllpnhjemjaaGreat
