import Derived.Test.YtboicjlbbbodgaaGreatDoorQTsg
set_option linter.unusedVariables false
set_option linter.unusedSimpArgs false
set_option maxHeartbeats 4000000
set_option maxRecDepth 100000
set_option synthInstance.maxSize 100000
set_option synthInstance.maxHeartbeats 400000
namespace Go.Proofs.YtboicjlbbbodgaaGreatDoor
open Go.RowKit (Below)
attribute [local irreducible] Go.Code.wp Go.wpList Go.bodyPost
private theorem gS_ {W0 : World} {G0 : Gh} {N : Nat} {L : List (Nat × MT)} {B : List BX} {a : Act} {w : World} {G : Gh} {q : Prop} (h : St W0 G0 N L B a w G → q) : St W0 G0 N L B a w G → q:=h
private theorem gL_ {p : Prop} {P : Program} {arr : Array Oper} {Q : Exit → Act → World → Prop} {l : List Oper} {a : Act} {w : World} (h : p → wpList P arr Q l a w) : p → wpList P arr Q l a w:=h
private theorem gC_ {p : Prop} {P : Program} {c : Code} {Q : Exit → Act → World → Prop} {a : Act} {w : World} (h : p → c.wp P Q a w) : p → c.wp P Q a w:=h
private theorem mixedOrders : Tryz.prog.follows .mixedOrders = true:=by kernel_rfl
attribute [local irreducible] plusF minusF joinF levI lev PW RLN tB sB iB timesF stepF tmF normF TOK sgL
def pwB (n : Nat) : Bool:=decide (0 ≤ levI n ∧ levI n ≤ 5)
def pwI (n : Nat) : Int:=if 0 ≤ levI n ∧ levI n ≤ 5 then levI n else 0
theorem pw_y {n j : Nat} (hj : j < 6) (h : n = 2 ^ j) : pwB n = true ∧ pwI n = j:=by
  have e : levI n = j:=by rw [h,levI_pow]
  unfold pwB pwI
  rw [e]
  exact ⟨decide_eq_true ⟨by omega,by omega⟩,if_pos ⟨by omega,by omega⟩⟩
theorem pw_n {n : Nat} (h : ∀ i,i < 6 → n ≠ 2 ^ i) : pwB n = false ∧ pwI n = 0:=by
  have e : ¬ (0 ≤ levI n ∧ levI n ≤ 5):=fun ⟨h1,h2⟩=>by
    have h3 : levI n = -1 ∨ 2 ^ clg n = n ∧ levI n = (clg n : Int):=by
      with_unfolding_all (show (if _ then _ else _) = _ ∨ _ ∧ (if _ then _ else _) = _)
      by_cases e : 2 ^ clg n = n
      · rw [if_pos e];exact .inr ⟨e,rfl⟩
      · rw [if_neg e];exact .inl rfl
    rcases h3 with h3 | ⟨h3,h4⟩
    · omega
    · exact h (clg n) (by omega) h3.symm
  unfold pwB pwI
  exact ⟨decide_eq_false e,if_neg e⟩
theorem emp_z2 {x : Rat} : ((FR.of x).s || decide ((((FR.of x).p.length : Nat) : Int) ≠ 0) || decide ((((FR.of x).q.length : Nat) : Int) ≠ 0)) = !decide (x.num.sign = 0):=by
  have h:=emp_z (x:=x)
  have e : ∀ n : Nat,decide (((n : Nat) : Int) ≠ 0) = decide (((n : Nat) : Int) > 0):=fun n=>decide_eq_decide.2 (by omega)
  rw [e,e];exact h
instance {n : Nat} : Con Tryz.prog 91 [NT n] (True) (MT.tup2 (IT (pwI n)) (BT (pwB n))):=.o1 fun hok h1 hp=>by
  refine St.enter (N:=14) Tryz.func91 rfl rfl rfl hok (enter1 h1) fun a=>?_
  repeat' (first|((with_reducible refine gS_ ?_);first|((with_reducible refine gL_ ?_);first|refine W.run ?_ fun a w G=>?_|refine W.mv fun a w G=>?_|refine W.asg fun a w G=>?_|(refine W.nn hK ?_;clear hK K)|refine W.nl ?_|refine W.ste ?_ fun w=>?_)|((with_reducible refine gC_ ?_);first|refine W.reg fun K hK=>?_|refine W.reg1 ?_|refine W.sq fun K hK=>?_|refine W.sk ?_|refine W.cd (fun hc=>?_) (fun hc=>?_)|refine W.cb (fun hc=>?_) (fun hc=>?_)|refine W.bl ?_|refine W.ex ?_|refine W.rt ?_)|((with_reducible refine W.kn hK ?_);clear hK K)|(with_reducible first|refine W.bn ?_|refine W.xt ?_|refine W.xb ?_|refine W.xo ?_|refine W.tr ?_|refine W.br ?_)|refine W.rt2 rfl ?_ ?_)|refine W.lp 6 (α:=Nat) (fun j=>6 - j) (fun j=>j ≤ 6 ∧ ∀ i,i < j → n ≠ 2 ^ i) [2,3,4,5,6,7,8,9,10,11,12,13] (fun j=>[(5,NT j)]) (fun j=>[]) (0) ?_ ?_ ?_ fun j hj a w G=>?_|refine W.ag (x:=j) (j+1) ?_ ?_ ?_ ?_|clear hK K|clear hu|exact True.intro|exact Nat.le_trans (by clear hp;omega) hp|exact Nat.le_trans (by clear hp;omega) hp.1|exact Nat.le_trans (by clear hp;omega) hp.2|(clear hp;omega)|apply And.intro|refine GI.i fun _=>?_|with_reducible rfl|decide|(simp only [List.length_cons,List.length_nil];omega))
  all_goals have hpj : 2 ^ j ≤ 2 ^ 6:=Nat.pow_le_pow_right (by decide) hj.1
  all_goals first
    | omega
    | exact fun i hi=>absurd hi (by omega)
    | (have h := pw_y (n := n) (j := j) (by omega) (by omega)
       first
       | exact h.1
       | exact h.2
       | exact h.1.symm
       | exact h.2.symm
       | fail)
    | (intro i hi
       rcases Nat.lt_or_ge i j with h | h
       · exact hj.2 i h
       · obtain rfl : i = j:=by omega
         omega)
    | (have h := pw_n (n := n) (fun i hi => hj.2 i (by omega))
       first
       | exact h.1
       | exact h.2
       | exact h.1.symm
       | exact h.2.symm
       | fail)
    | skip
theorem w92 {n : Nat} {l : List Rat} : Con Tryz.prog 92 [NM n l] (n ≤ BIG) (BT (zeroF l)):=.o1 fun hok h1 hp=>by
  refine St.enter (N:=26) Tryz.func92 rfl rfl rfl hok (enter1 h1) fun a=>?_
  have hlim:=LS.lenM h1
  simp only [LIM] at hlim
  repeat' (first|((with_reducible refine gS_ ?_);first|((with_reducible refine gL_ ?_);first|refine W.run ?_ fun a w G=>?_|refine W.mv fun a w G=>?_|refine W.asg fun a w G=>?_|(refine W.nn hK ?_;clear hK K)|refine W.nl ?_|refine W.al fun b a w G=>?_|refine W.st fun w=>?_|refine W.stp fun w=>?_|refine W.ste ?_ fun w=>?_)|((with_reducible refine gC_ ?_);first|refine W.reg fun K hK=>?_|refine W.reg1 ?_|refine W.sq fun K hK=>?_|refine W.sk ?_|refine W.cd (fun hc=>?_) (fun hc=>?_)|refine W.cb (fun hc=>?_) (fun hc=>?_)|refine W.bl ?_|refine W.ex ?_|refine W.rt ?_)|((with_reducible refine W.kn hK ?_);clear hK K)|(with_reducible first|refine W.bn ?_|refine W.xt ?_|refine W.xb ?_|refine W.xo ?_|refine W.tr ?_|refine W.br ?_)|refine W.rt1 rfl ?_)|refine W.lp 8 (α:=Nat) (fun j=>l.length - j) (fun j=>j ≤ l.length ∧ zeroF (l.take j) = true) [2,4,7,8,9,10,11,12,13,14,15,16,17,18,19,20,21,22,23,24,25] (fun j=>[(7,NT j)]) (fun j=>[]) (0) ?_ ?_ ?_ fun j hj a w G=>?_|refine W.ag (x:=j) (j+1) ?_ ?_ ?_ ?_|clear hK K|clear hu|exact True.intro|exact Nat.le_trans (by clear hp;omega) hp|exact Nat.le_trans (by clear hp;omega) hp.1|exact Nat.le_trans (by clear hp;omega) hp.2|(clear hp;omega)|apply And.intro|refine GI.i fun _=>?_|with_reducible rfl|decide|(simp only [List.length_cons,List.length_nil];omega))
  all_goals first
    | (simp [zeroF];done)
    | exact (all_not (p:=fun x : Rat=>decide (x.num.sign = 0)) (show j < l.length by omega) (by first | simpa using hc | (rw [emp_z2] at hc;simpa using hc))).symm
    | exact all_snoc (p:=fun x : Rat=>decide (x.num.sign = 0)) (show j < l.length by omega) hj.2 (by first | simpa using hc | (rw [emp_z2] at hc;simpa using hc))
    | exact (all_end (p:=fun x : Rat=>decide (x.num.sign = 0)) (by omega) hj.2).symm
instance {n : Nat} {l : List Rat} {τ1 : MT} [j1 : NU τ1 (NM n l)] : Con Tryz.prog 92 [τ1] (n ≤ BIG) (BT (zeroF l)):=.o1 fun hok h1 hp=>w92.c1 hok (j1.h h1) hp
theorem rsh_n {l : List Rat} (h : pwB l.length = false) : l = shoF l:=by
  unfold shoF
  unfold pwB at h
  have h:=of_decide_eq_false h
  by_cases h0 : 0 < l.length
  · rw [if_pos ⟨h0,by omega⟩]
  · rw [List.length_eq_zero_iff.1 (show l.length = 0 by omega)]
    exact sho_nil.symm
theorem rsh_g {l : List Rat} (h : pwB l.length = true) : (decide (((l.length : Nat) : Int) > 0) && (decide (levI l.length < 0) || decide (levI l.length > 5))) = false:=by
  unfold pwB at h
  have h:=of_decide_eq_true h
  rw [decide_eq_false (show ¬ levI l.length < 0 by omega),decide_eq_false (show ¬ levI l.length > 5 by omega)]
  simp
theorem w48 {n : Nat} {l : List Rat} : Con Tryz.prog 48 [NM n l] (n ≤ BIG ∧ l.length ≤ 64) (NM n (shoF l)):=.o1 fun hok h1 hp=>by
  refine St.enter (N:=43) Tryz.func48 rfl rfl rfl hok (enter1 h1) fun a=>?_
  have hlim:=LS.lenM h1
  simp only [LIM] at hlim
  have own14 : OwnAt 14:=⟨⟩
  have own16 : OwnAt 16:=⟨⟩
  have own38 : OwnAt 38:=⟨⟩
  have own42 : OwnAt 42:=⟨⟩
  repeat' (first|((with_reducible refine gS_ ?_);first|((with_reducible refine gL_ ?_);first|refine W.run ?_ fun a w G=>?_|refine W.mv fun a w G=>?_|refine W.asg fun a w G=>?_|(refine W.nn hK ?_;clear hK K)|refine W.nl ?_|refine W.ste ?_ fun w=>?_)|((with_reducible refine gC_ ?_);first|refine W.reg fun K hK=>?_|refine W.reg1 ?_|refine W.sq fun K hK=>?_|refine W.sk ?_|refine W.cd (fun hc=>?_) (fun hc=>?_)|refine W.cb (fun hc=>?_) (fun hc=>?_)|refine W.bl ?_|refine W.ex ?_|refine W.rt ?_)|((with_reducible refine W.kn hK ?_);clear hK K)|(with_reducible first|refine W.bn ?_|refine W.xt ?_|refine W.xb ?_|refine W.xo ?_|refine W.tr ?_|refine W.br ?_)|refine W.rt1 rfl ?_)|refine W.bu0 (k:=some 3) (fun V own a w G hO=>?_)|refine W.apz (mt:=FX 1 default) (T:=QC n) (xs:=[]) hO ?_ fun V own a w G hO=>?_|refine W.fzo (T:=QC n) 2 hO ?_ fun G=>?_|refine W.lp 19 (α:=Nat) (fun q=>q) (fun q=>q ≤ l.length ∧ shL l q = shL l l.length) [5,19,20,21,22,23,24,25,26,27,28,29,30] (fun q=>[(5,NT q)]) (fun q=>[]) (l.length) ?_ ?_ ?_ fun q hq a w G=>?_|refine W.ag (x:=q) (q / 2) ?_ ?_ ?_ ?_|clear hK K|clear hu|exact True.intro|exact Nat.le_trans (by clear hp;omega) hp|exact Nat.le_trans (by clear hp;omega) hp.1|exact Nat.le_trans (by clear hp;omega) hp.2|(clear hp;omega)|apply And.intro|refine GI.i fun _=>?_|with_reducible rfl|decide|(simp only [List.length_cons,List.length_nil];omega))
  all_goals (try simp only [List.nil_append,List.length_append,List.length_take,List.length_nil,LIM] at *)
  all_goals first
    | omega
    | (have hc1 : (!pwB l.length) = true := by assumption
       have hc2 : pwB l.length = false:=by simpa using hc1
       exact rsh_n hc2)
    | (have hc1 : (!pwB l.length) = false := by assumption
       have hc2 : pwB l.length = true:=by simpa using hc1
       have hc0:=rsh_g hc2
       first
       | exact (sho_go (by assumption)).1
       | (rw [← (sho_go (by assumption)).2];exact hq.2)
       | exact sho_n hc0 hq.2 (by assumption) (by assumption)
       | exact sho_t hc0 hq.2 (by assumption) (by assumption)
       | (rw [List.length_take];omega)
       | (have h1 : decide (((q : Nat) : Int) = 1) = true := by assumption
          simp only [decide_eq_true_eq] at h1;omega)
       | fail)
    | skip
instance {n : Nat} {l : List Rat} {τ1 : MT} [j1 : NU τ1 (NM n l)] : Con Tryz.prog 48 [τ1] (n ≤ BIG ∧ l.length ≤ 64) (NM n (shoF l)):=.o1 fun hok h1 hp=>w48.c1 hok (j1.h h1) hp
theorem w86 {n m : Nat} {l : List Rat} : ConO Tryz.prog 86 [NM n l,NT m] (1 ≤ n ∧ n ≤ BIG ∧ l.length ≤ m ∧ 1 ≤ m ∧ m ≤ 64) (some 3) 57 (QC n) (wideF l m):=.o2 fun hok h1 h2 hp=>by
  obtain ⟨n,rfl⟩ : ∃ k,n = k + 1:=⟨n - 1,by omega⟩
  refine St.enter (N:=18) Tryz.func86 rfl rfl rfl hok (enter2 h1 h2) fun a=>?_
  have own6 : OwnAt 6:=⟨⟩
  have own8 : OwnAt 8:=⟨⟩
  have own16 : OwnAt 16:=⟨⟩
  repeat' (first|((with_reducible refine gS_ ?_);first|((with_reducible refine gL_ ?_);first|refine W.run ?_ fun a w G=>?_|refine W.mv fun a w G=>?_|refine W.asg fun a w G=>?_|(refine W.nn hK ?_;clear hK K)|refine W.nl ?_|refine W.ste ?_ fun w=>?_)|((with_reducible refine gC_ ?_);first|refine W.reg fun K hK=>?_|refine W.reg1 ?_|refine W.sq fun K hK=>?_|refine W.sk ?_|refine W.cd (fun hc=>?_) (fun hc=>?_)|refine W.cb (fun hc=>?_) (fun hc=>?_)|refine W.bl ?_|refine W.ex ?_|refine W.rt ?_)|((with_reducible refine W.kn hK ?_);clear hK K)|(with_reducible first|refine W.bn ?_|refine W.xt ?_|refine W.xb ?_|refine W.xo ?_|refine W.tr ?_|refine W.br ?_)|refine W.rt1 rfl ?_)|refine W.bu0 (k:=some 3) (fun V own a w G hO=>?_)|refine W.apz (mt:=FX 1 default) (T:=QC (n+1)) (xs:=[]) hO ?_ fun V own a w G hO=>?_|refine W.lpo 9 hO (T:=QC (n+1)) (fun j=>m - (l.length + j)) (fun j=>l.length + j ≤ m) (fun j=>l ++ List.replicate j 0) [5,5,9,10,11,12,13,14,15,16] (fun j V=>[(5,.ex V)]) (fun j=>[]) 0 ?_ ?_ ?_ ?_ fun j hj V own a w G hO=>?_|refine W.oln hO (fun a w G=>?_)|refine W.ap (mt:=FX 1 default) (T:=QC (n+1)) hO ?_ fun V own a w G hO=>?_|refine W.ago (K:=fun _ _=>True) (T:=QC (n+1)) hO (x:=j) (j+1) ?_ ?_ ?_ ?_ ?_|((have hpos : 0 < (List.map (QC (n+1)) (l ++ List.replicate j 0)).length:=by (simp only [List.length_map,List.length_append,List.length_replicate] at *;omega));have hP:=own_pos hO hpos;obtain ⟨b2,c2,rfl,rfl,hcc⟩:=hP;clear hO hpos)|refine W.rto 4 rfl ?_|clear hK K|clear hu|exact True.intro|exact Nat.le_trans (by clear hp;omega) hp|exact Nat.le_trans (by clear hp;omega) hp.1|exact Nat.le_trans (by clear hp;omega) hp.2|(clear hp;omega)|apply And.intro|refine GI.i fun _=>?_|with_reducible rfl|decide|(simp only [List.length_cons,List.length_nil];omega))
  all_goals (try simp only [List.length_map,List.length_append,List.length_replicate,List.length_cons,List.length_nil,List.nil_append,LIM] at *)
  all_goals first
    | omega
    | rfl
    | (simp;done)
    | (rw [List.append_assoc,← List.replicate_succ'];done)
    | (rw [← wideR_eq hp.2.2.1]
       have e : j = m - l.length:=by omega
       subst e
       rfl)
    | skip
instance {n m : Nat} {l : List Rat} {τ1 : MT} [j1 : NU τ1 (NM n l)] : ConO Tryz.prog 86 [τ1,NT m] (1 ≤ n ∧ n ≤ BIG ∧ l.length ≤ m ∧ 1 ≤ m ∧ m ≤ 64) (some 3) 57 (QC n) (wideF l m):=.o2 fun hok h1 h2 hp=>w86.c2 hok (j1.h h1) h2 hp
theorem w79 {n : Nat} {l : List Rat} : Con Tryz.prog 79 [NM n l] (n ≤ BIG ∧ l.length ≤ 64) (NM n (minusF l)):=.o1 fun hok h1 hp=>by
  refine St.enter (N:=19) Tryz.func79 rfl rfl rfl hok (enter1 h1) fun a=>?_
  have hlim:=LS.lenM h1
  simp only [LIM] at hlim
  have own16 : OwnAt 16:=⟨⟩
  repeat' (first|((with_reducible refine gS_ ?_);first|((with_reducible refine gL_ ?_);first|refine W.run ?_ fun a w G=>?_|refine W.mv fun a w G=>?_|refine W.asg fun a w G=>?_|(refine W.nn hK ?_;clear hK K)|refine W.nl ?_|refine W.al fun b a w G=>?_|refine W.st fun w=>?_|refine W.stp fun w=>?_|refine W.ste ?_ fun w=>?_)|((with_reducible refine gC_ ?_);first|refine W.reg fun K hK=>?_|refine W.reg1 ?_|refine W.sq fun K hK=>?_|refine W.sk ?_|refine W.cd (fun hc=>?_) (fun hc=>?_)|refine W.cb (fun hc=>?_) (fun hc=>?_)|refine W.bl ?_|refine W.ex ?_|refine W.rt ?_)|((with_reducible refine W.kn hK ?_);clear hK K)|(with_reducible first|refine W.bn ?_|refine W.xt ?_|refine W.xb ?_|refine W.xo ?_|refine W.tr ?_|refine W.br ?_)|refine W.rt1 rfl ?_)|refine W.lpo 9 (OWNS.nil (k:=some 3) (e:=57)) (T:=QC n) (xs0:=[]) (fun j=>l.length - j) (fun j=>j ≤ l.length) (fun j=>minusF (l.take j)) [3,8,3,5,8,9,10,11,12,13,14,15,16,17] (fun j V=>[(8,NT j),(3,.ex V)]) (fun j=>[]) 0 ?_ ?_ ?_ ?_ fun j hj V own a w G hO=>?_|refine W.ap (mt:=FX 1 default) (T:=QC n) hO ?_ fun V own a w G hO=>?_|refine W.ago (K:=fun _ _=>True) (T:=QC n) hO (x:=j) (j+1) ?_ ?_ ?_ ?_ ?_|refine W.fzo (T:=QC n) 2 hO ?_ fun G=>?_|clear hK K|clear hu|exact True.intro|exact Nat.le_trans (by clear hp;omega) hp|exact Nat.le_trans (by clear hp;omega) hp.1|exact Nat.le_trans (by clear hp;omega) hp.2|(clear hp;omega)|apply And.intro|refine GI.i fun _=>?_|with_reducible rfl|decide|(simp only [List.length_cons,List.length_nil];omega))
  all_goals (try simp only [minus_len,List.length_take,List.length_append,List.length_cons,List.length_nil,LIM] at *)
  all_goals first
    | omega
    | (rw [List.take_zero];unfold minusF;rfl)
    | (rw [List.take_of_length_le (by omega)];done)
    | rfl
    | (rw [take_snoc (by omega)];unfold minusF;rw [List.map_append];rfl)
    | skip
instance {n : Nat} {l : List Rat} {τ1 : MT} [j1 : NU τ1 (NM n l)] : Con Tryz.prog 79 [τ1] (n ≤ BIG ∧ l.length ≤ 64) (NM n (minusF l)):=.o1 fun hok h1 hp=>w79.c1 hok (j1.h h1) hp
theorem rwide0 {n m : Nat} {l : List Rat} : Con Tryz.prog 86 [NM n l,NT m] (n ≤ BIG ∧ l.length = 0 ∧ m = 0) (NM n []):=.o2 fun hok h1 h2 hp=>by
  refine St.enter (N:=18) Tryz.func86 rfl rfl rfl hok (enter2 h1 h2) fun a=>?_
  have own6 : OwnAt 6:=⟨⟩
  have own8 : OwnAt 8:=⟨⟩
  have own16 : OwnAt 16:=⟨⟩
  repeat' (first|((with_reducible refine gS_ ?_);first|((with_reducible refine gL_ ?_);first|refine W.run ?_ fun a w G=>?_|refine W.mv fun a w G=>?_|refine W.asg fun a w G=>?_|(refine W.nn hK ?_;clear hK K)|refine W.nl ?_|refine W.ste ?_ fun w=>?_)|((with_reducible refine gC_ ?_);first|with_reducible refine W.cbf (decide_eq_false (show ¬ ((l.length : Nat) : Int) < ((m : Nat) : Int) by omega)) ?_|refine W.reg fun K hK=>?_|refine W.reg1 ?_|refine W.sq fun K hK=>?_|refine W.sk ?_|refine W.cd (fun hc=>?_) (fun hc=>?_)|refine W.cb (fun hc=>?_) (fun hc=>?_)|refine W.bl ?_|refine W.ex ?_|refine W.rt ?_)|((with_reducible refine W.kn hK ?_);clear hK K)|(with_reducible first|refine W.bn ?_|refine W.xt ?_|refine W.xb ?_|refine W.xo ?_|refine W.tr ?_|refine W.br ?_)|refine W.rt1 rfl ?_)|refine W.bu0 (k:=some 3) (fun V own a w G hO=>?_)|refine W.apz (mt:=FX 1 default) (T:=QC n) (xs:=[]) hO ?_ fun V own a w G hO=>?_|refine W.fzo (T:=QC n) 5 hO ?_ fun G=>?_|refine W.lp 9 (α:=Nat) (fun j=>0) (fun j=>True) [5,9,10,11,12,13,14,15,16] (fun j=>[(5,NM n [])]) (fun j=>[]) (0) ?_ ?_ ?_ fun j hj a w G=>?_|refine W.ag (x:=j) (j+1) ?_ ?_ ?_ ?_|clear hK K|clear hu|exact True.intro|exact Nat.le_trans (by clear hp;omega) hp|exact Nat.le_trans (by clear hp;omega) hp.1|exact Nat.le_trans (by clear hp;omega) hp.2|(clear hp;omega)|apply And.intro|refine GI.i fun _=>?_|with_reducible rfl|decide|(simp only [List.length_cons,List.length_nil];omega))
  all_goals (try simp only [List.nil_append,List.length_append,List.length_nil,LIM] at *)
  all_goals first
    | omega
    | exact List.length_eq_zero_iff.1 hp.2.1
    | skip
instance {n m : Nat} {l : List Rat} {τ1 : MT} [j1 : NU τ1 (NM n l)] : Con Tryz.prog 86 [τ1,NT m] (1 ≤ n ∧ n ≤ BIG ∧ l.length ≤ m ∧ m ≤ 64) (NM n (wideF l m)):=.o2 fun hok h1 h2 hp=>by
  by_cases e : m = 0
  · have hl : l.length = 0:=by omega
    have e2 : wideF l m = []:=by rw [List.length_eq_zero_iff.1 hl,e];rfl
    rw [e2]
    exact rwide0.c2 hok (j1.h h1) h2 ⟨hp.2.1,hl,e⟩
  · exact (inferInstance : Con Tryz.prog 86 [NM n l,NT m] ((1 ≤ n ∧ n ≤ BIG ∧ l.length ≤ m ∧ 1 ≤ m ∧ m ≤ 64) ∧ (wideF l m).length ≤ LIM) (NM n (wideF l m))).c2 hok (j1.h h1) h2 ⟨⟨hp.1,hp.2.1,hp.2.2.1,by omega,hp.2.2.2⟩,by rw [wide_ln];simp only [LIM];omega⟩
theorem mx0 {l k : List Rat} (h : ¬ (l.length = 0 ∧ k.length = 0)) : 1 ≤ max l.length k.length:=by omega
theorem plusF_nil {l k : List Rat} (h : l.length = 0 ∧ k.length = 0) : plusF l k = []:=by
  apply List.length_eq_zero_iff.1
  rw [plus_len,h.1,h.2];rfl
theorem rplus1 {n m : Nat} {l k : List Rat} : Con Tryz.prog 78 [NM n l,NM m k] (1 ≤ n ∧ 1 ≤ m ∧ n + m + 1 ≤ BIG ∧ l.length ≤ 64 ∧ k.length ≤ 64 ∧ ¬ (l.length = 0 ∧ k.length = 0)) (NM (n + m + 1) (plusF l k)):=.o2 fun hok h1 h2 hp=>by
  refine St.enter (N:=37) Tryz.func78 rfl rfl rfl hok (enter2 h1 h2) fun a=>?_
  have own14 : OwnAt 14:=⟨⟩
  have own17 : OwnAt 17:=⟨⟩
  repeat' (first|((with_reducible refine gS_ ?_);first|((with_reducible refine gL_ ?_);first|refine W.run ?_ fun a w G=>?_|refine W.mv fun a w G=>?_|refine W.asg fun a w G=>?_|(refine W.nn hK ?_;clear hK K)|refine W.nl ?_|refine W.st fun w=>?_|refine W.stp fun w=>?_|refine W.ste ?_ fun w=>?_)|((with_reducible refine gC_ ?_);first|refine W.reg fun K hK=>?_|refine W.reg1 ?_|refine W.sq fun K hK=>?_|refine W.ds ?_ (fun β a w G hu=>W.fin ?_ hu) mixedOrders (by kernel_rfl)|refine W.sk ?_|refine W.cd (fun hc=>?_) (fun hc=>?_)|refine W.cb (fun hc=>?_) (fun hc=>?_)|refine W.bl ?_|refine W.ex ?_|refine W.rt ?_)|((with_reducible refine W.kn hK ?_);clear hK K)|(with_reducible first|refine W.bn ?_|refine W.xt ?_|refine W.xb ?_|refine W.xo ?_|refine W.tr ?_|refine W.br ?_)|refine W.rt1 rfl ?_)|refine W.co ?_ fun b c a w G hle=>?_|refine W.fz 1 ?_ fun G=>?_|refine W.fz 4 ?_ fun G=>?_|refine W.lp 21 (α:=Nat) (fun j=>max l.length k.length - j) (fun j=>j ≤ max l.length k.length) [6,20,21,22,23,24,25,26,27,28,29,30,31,32,33,34,35] (fun j=>[(20,NT j)]) (fun j=>[(0,ROWS (some 3) ((plP n m l k j).map QP))]) (0) ?_ ?_ ?_ fun j hj a w G=>?_|refine W.ag (x:=j) (j+1) ?_ ?_ ?_ ?_|clear hK K|clear hu|exact True.intro|exact Nat.le_trans (by clear hp;omega) hp|exact Nat.le_trans (by clear hp;omega) hp.1|exact Nat.le_trans (by clear hp;omega) hp.2|(clear hp;omega)|apply And.intro|refine GI.i fun _=>?_|with_reducible rfl|decide|(simp only [List.length_cons,List.length_nil];omega))
  all_goals have hmx:=mx0 hp.2.2.2.2.2
  all_goals (try simp only [wide_ln,plP_len] at *)
  all_goals first
    | omega
    | (simp only [LIM];omega)
    | exact plP_0
    | (rw [plP_g (by omega)];omega)
    | exact plP_s (by omega)
    | exact (plP_e (by omega)).1
    | exact (plP_e (by omega)).2
    | skip
theorem rplus0 {n m : Nat} {l k : List Rat} : Con Tryz.prog 78 [NM n l,NM m k] (1 ≤ n ∧ 1 ≤ m ∧ n + m + 1 ≤ BIG ∧ l.length = 0 ∧ k.length = 0) (NM (n + m + 1) []):=.o2 fun hok h1 h2 hp=>by
  refine St.enter (N:=37) Tryz.func78 rfl rfl rfl hok (enter2 h1 h2) fun a=>?_
  repeat' (first|((with_reducible refine gS_ ?_);first|((with_reducible refine gL_ ?_);first|refine W.run ?_ fun a w G=>?_|refine W.mv fun a w G=>?_|refine W.asg fun a w G=>?_|(refine W.nn hK ?_;clear hK K)|refine W.nl ?_|refine W.st fun w=>?_|refine W.stp fun w=>?_|refine W.ste ?_ fun w=>?_)|((with_reducible refine gC_ ?_);first|with_reducible refine W.cbf (decide_eq_false (by (try simp only [wide_ln]);omega)) ?_|refine W.reg fun K hK=>?_|refine W.reg1 ?_|refine W.sq fun K hK=>?_|refine W.ds ?_ (fun β a w G hu=>W.fin ?_ hu) mixedOrders (by kernel_rfl)|refine W.sk ?_|refine W.cd (fun hc=>?_) (fun hc=>?_)|refine W.cb (fun hc=>?_) (fun hc=>?_)|refine W.bl ?_|refine W.ex ?_|refine W.rt ?_)|((with_reducible refine W.kn hK ?_);clear hK K)|(with_reducible first|refine W.bn ?_|refine W.xt ?_|refine W.xb ?_|refine W.xo ?_|refine W.tr ?_|refine W.br ?_)|refine W.rt1 rfl ?_)|refine W.lp 21 (α:=Nat) (fun j=>0) (fun j=>True) [6,20,21,22,23,24,25,26,27,28,29,30,31,32,33,34,35] (fun j=>[(20,NT j)]) (fun j=>[]) (0) ?_ ?_ ?_ fun j hj a w G=>?_|refine W.ag (x:=j) (j+1) ?_ ?_ ?_ ?_|clear hK K|clear hu|exact True.intro|exact Nat.le_trans (by clear hp;omega) hp|exact Nat.le_trans (by clear hp;omega) hp.1|exact Nat.le_trans (by clear hp;omega) hp.2|(clear hp;omega)|apply And.intro|refine GI.i fun _=>?_|with_reducible rfl|decide|(simp only [List.length_cons,List.length_nil];omega))
  all_goals (try simp only [wide_ln] at *)
  all_goals first
    | omega
    | exact List.length_eq_zero_iff.1 (by rw [wide_ln];omega)
    | skip
instance {n m : Nat} {l k : List Rat} {τ1 τ2 : MT} [j1 : NU τ1 (NM n l)] [j2 : NU τ2 (NM m k)] : Con Tryz.prog 78 [τ1,τ2] (1 ≤ n ∧ 1 ≤ m ∧ n + m + 1 ≤ BIG ∧ l.length ≤ 64 ∧ k.length ≤ 64) (NM (n + m + 1) (plusF l k)):=.o2 fun hok h1 h2 hp=>by
  by_cases e : l.length = 0 ∧ k.length = 0
  · rw [plusF_nil e];exact rplus0.c2 hok (j1.h h1) (j2.h h2) ⟨hp.1,hp.2.1,hp.2.2.1,e⟩
  · exact rplus1.c2 hok (j1.h h1) (j2.h h2) ⟨hp.1,hp.2.1,hp.2.2.1,hp.2.2.2.1,hp.2.2.2.2,e⟩
end Go.Proofs.YtboicjlbbbodgaaGreatDoor
namespace Go.Proofs.YtboicjlbbbodgaaGreatDoor
open Go.RowKit (Below)
attribute [local irreducible] Go.Code.wp Go.wpList Go.bodyPost
theorem pwI_pow {j : Nat} (hj : j ≤ 5) : pwI (2 ^ j) = j:=by
  unfold pwI;rw [levI_pow,if_pos ⟨by omega,by omega⟩]
theorem rt_facts {kk : Nat} {rs : List (List Rat)} {A C : List Rat} (p1 : kk ≤ rs.length) (p2 : rs.length ≤ 5) (p3 : RLN rs) (pa : PW kk A) (pc : PW kk C) (h0 : ¬ (A.length = 0 ∨ C.length = 0)) (h1 : ¬ max A.length C.length = 1) :
    kk ≠ 0 ∧ (1 ≤ max A.length C.length / 2 ∧ max A.length C.length / 2 ≤ 16 ∧ max A.length C.length ≤ 32 ∧ max A.length C.length / 2 ≤ max A.length C.length) ∧
    PW (kk - 1) ((wideF A (max A.length C.length)).take (max A.length C.length / 2)) ∧ PW (kk - 1) ((wideF A (max A.length C.length)).drop (max A.length C.length / 2)) ∧
    PW (kk - 1) ((wideF C (max A.length C.length)).take (max A.length C.length / 2)) ∧ PW (kk - 1) ((wideF C (max A.length C.length)).drop (max A.length C.length / 2)) ∧
    (0 ≤ pwI (max A.length C.length) - 1 ∧ pwI (max A.length C.length) - 1 < (rs.length : Int) ∧ pwI (max A.length C.length) - 1 < (kk : Int)) ∧ rs.getD (pwI (max A.length C.length) - 1).toNat default = rs.getD (lev (max A.length C.length) - 1) [] ∧ PW (kk - 1) (rs.getD (lev (max A.length C.length) - 1) []) ∧
    (plusF (timesR rs kk ((wideF A (max A.length C.length)).take (max A.length C.length / 2)) ((wideF C (max A.length C.length)).take (max A.length C.length / 2)))
      (timesR rs kk (timesR rs kk ((wideF A (max A.length C.length)).drop (max A.length C.length / 2)) ((wideF C (max A.length C.length)).drop (max A.length C.length / 2))) (rs.getD (lev (max A.length C.length) - 1) []))).length ≤ max A.length C.length / 2 ∧
    (plusF (timesR rs kk ((wideF A (max A.length C.length)).take (max A.length C.length / 2)) ((wideF C (max A.length C.length)).drop (max A.length C.length / 2)))
      (timesR rs kk ((wideF A (max A.length C.length)).drop (max A.length C.length / 2)) ((wideF C (max A.length C.length)).take (max A.length C.length / 2)))).length ≤ max A.length C.length / 2:=by
  obtain ⟨i,hi,hm,qa,qc⟩:=PW.max pa pc h0
  have h1 : ¬ (2 : Nat) ^ i = 1:=by rw [← hm];exact h1
  rw [hm]
  obtain ⟨j,rfl⟩ : ∃ j,i = j + 1:=by
    cases i with
    | zero=>exact absurd (Nat.pow_zero 2) h1
    | succ j=>exact ⟨j,rfl⟩
  have e2 : 2 ^ (j + 1) = 2 ^ j + 2 ^ j:=by rw [Nat.pow_succ];omega
  have hp:=Nat.two_pow_pos j
  have h16 : 2 ^ j ≤ 2 ^ 4:=Nat.pow_le_pow_right (by decide) (by omega)
  have hh : 2 ^ (j + 1) / 2 = 2 ^ j:=by omega
  have la : (wideF A (2 ^ (j + 1))).length = 2 ^ (j + 1):=wide_ln
  have lc : (wideF C (2 ^ (j + 1))).length = 2 ^ (j + 1):=wide_ln
  have hx : PW j ((wideF A (2 ^ (j + 1))).take (2 ^ j)):=.pow (by rw [List.length_take];omega)
  have hy : PW j ((wideF A (2 ^ (j + 1))).drop (2 ^ j)):=.pow (by rw [List.length_drop];omega)
  have hu : PW j ((wideF C (2 ^ (j + 1))).take (2 ^ j)):=.pow (by rw [List.length_take];omega)
  have hv : PW j ((wideF C (2 ^ (j + 1))).drop (2 ^ j)):=.pow (by rw [List.length_drop];omega)
  have hd : PW j (rs.getD j []):=PW.rt p3 (by omega) (Nat.le_refl _)
  have T:=fun {a c : List Rat} (ha : PW j a) (hc : PW j c)=>(timesR_E (rs:=rs) (d:=dR rs) (K:=rs.length) p2 p3.hd j kk (by omega) (by omega) a c ha hc).2
  rw [hh,lev_pow,pwI_pow (by omega),Nat.add_sub_cancel]
  have e3 : (((j + 1 : Nat) : Int) - 1).toNat = j:=by omega
  rw [e3]
  exact ⟨by omega,⟨by omega,by omega,by omega,by omega⟩,hx.mono (by omega),hy.mono (by omega),hu.mono (by omega),hv.mono (by omega),⟨by omega,by omega,by omega⟩,rfl,hd.mono (by omega),((T hx hu).plus (T (T hy hv) hd)).le,((T hx hv).plus (T hy hu)).le⟩
theorem rt_nil {rs : List (List Rat)} {kk : Nat} {l k : List Rat} (h : (shoF l).length = 0 ∨ (shoF k).length = 0) : timesR rs (kk + 1) l k = []:=by
  show stepR rs (timesR rs kk) (shoF l) (shoF k) = []
  unfold stepR;rw [if_pos h]
theorem rt_one {rs : List (List Rat)} {kk : Nat} {l k : List Rat} (h : ¬ ((shoF l).length = 0 ∨ (shoF k).length = 0)) (h1 : max (shoF l).length (shoF k).length = 1) : timesR rs (kk + 1) l k = [(shoF l).getD 0 default * (shoF k).getD 0 default]:=by
  show stepR rs (timesR rs kk) (shoF l) (shoF k) = _
  unfold stepR;rw [if_neg h,if_pos h1];rfl
theorem rt_go {rs : List (List Rat)} {kk : Nat} {l k F1 F2 : List Rat} (h : ¬ ((shoF l).length = 0 ∨ (shoF k).length = 0)) (h1 : ¬ max (shoF l).length (shoF k).length = 1) (D : List Rat) (hD : D = rs.getD (lev (max (shoF l).length (shoF k).length) - 1) [])
    (e1 : F1 = plusF (timesR rs kk ((wideF (shoF l) (max (shoF l).length (shoF k).length)).take (max (shoF l).length (shoF k).length / 2)) ((wideF (shoF k) (max (shoF l).length (shoF k).length)).take (max (shoF l).length (shoF k).length / 2)))
      (timesR rs kk (timesR rs kk ((wideF (shoF l) (max (shoF l).length (shoF k).length)).drop (max (shoF l).length (shoF k).length / 2)) ((wideF (shoF k) (max (shoF l).length (shoF k).length)).drop (max (shoF l).length (shoF k).length / 2))) D))
    (e2 : F2 = plusF (timesR rs kk ((wideF (shoF l) (max (shoF l).length (shoF k).length)).take (max (shoF l).length (shoF k).length / 2)) ((wideF (shoF k) (max (shoF l).length (shoF k).length)).drop (max (shoF l).length (shoF k).length / 2)))
      (timesR rs kk ((wideF (shoF l) (max (shoF l).length (shoF k).length)).drop (max (shoF l).length (shoF k).length / 2)) ((wideF (shoF k) (max (shoF l).length (shoF k).length)).take (max (shoF l).length (shoF k).length / 2))))
    (l1 : F1.length ≤ max (shoF l).length (shoF k).length / 2) (l2 : F2.length ≤ max (shoF l).length (shoF k).length / 2) :
    wideF F1 (max (shoF l).length (shoF k).length / 2) ++ wideF F2 (max (shoF l).length (shoF k).length / 2) = timesR rs (kk + 1) l k:=by
  show _ = stepR rs (timesR rs kk) (shoF l) (shoF k)
  unfold stepR
  rw [if_neg h,if_neg h1,← wideR_eq l1,← wideR_eq l2,wideR_eq (Nat.le_max_left (shoF l).length (shoF k).length),wideR_eq (Nat.le_max_right (shoF l).length (shoF k).length),e1,e2,hD]
theorem or_len {a c : Nat} (h : (decide (((a : Nat) : Int) = 0) || decide (((c : Nat) : Int) = 0)) = true) : a = 0 ∨ c = 0:=by
  simp only [Bool.or_eq_true,decide_eq_true_eq] at h;omega
theorem nor_len {a c : Nat} (h : (decide (((a : Nat) : Int) = 0) || decide (((c : Nat) : Int) = 0)) = false) : ¬ (a = 0 ∨ c = 0):=by
  simp only [Bool.or_eq_false_iff,decide_eq_false_iff_not] at h;omega
theorem PW.rtm {rs : List (List Rat)} {k m : Nat} {a c : List Rat} (h5 : rs.length ≤ 5) (hr : RLN rs) (hk : k ≤ rs.length) (hm : k < m) (ha : PW k a) (hc : PW k c) : PW k (timesR rs m a c):=(timesR_E (rs:=rs) (d:=dR rs) (K:=rs.length) h5 hr.hd k m hk hm a c ha hc).2
attribute [local irreducible] plusF minusF joinF levI lev PW RLN tB sB iB timesF stepF tmF normF TOK sgL wideF timesR shoF
abbrev TX : Type:=List Rat × Option (List FR)
def NX (r : Nat) (x : TX) : MT:=match x.2 with | none=>NM r x.1 | some l=>LS (some 3) (l.map RX)
abbrev TT (r : Nat) (xs : List TX) : MT:=PTS [(none,LS none (xs.map (NX r)))]
def rsT (xs : List TX) : List (List Rat):=xs.map Prod.fst
def okT (K : Nat) (xs : List TX) : Prop:=∀ i,i < K → (xs.getD i default).2 = none
theorem okT.mono {K M : Nat} {xs : List TX} (h : okT M xs) (hk : K ≤ M) : okT K xs:=fun i hi=>h i (by omega)
theorem rsT_len {xs : List TX} : (rsT xs).length = xs.length:=List.length_map ..
theorem rsT_get {xs : List TX} {i : Nat} : (xs.getD i default).1 = (rsT xs).getD i []:=by
  unfold rsT
  rw [List.getD_eq_getElem?_getD,List.getD_eq_getElem?_getD,List.getElem?_map]
  cases xs[i]? <;> rfl
theorem NX.nm {r : Nat} {x : TX} (hx : x.2 = none) {v : Value} {G : Gh} (h : (NX r x).t v G) : (NM r x.1).t v G:=by
  unfold NX at h;rw [hx] at h;exact h
theorem NX.of {r : Nat} {l : List Rat} : NX r (l,none) = NM r l:=rfl
theorem NX.lfr {r : Nat} {l : List Rat} {q : List FR} : NX r (l,some q) = LS (some 3) (q.map RX):=rfl
theorem NX.shp {r : Nat} {x : TX} {v : Value} {G : Gh} (h : (NX r x).t v G) : Shaped none v:=by
  unfold NX at h
  split at h <;> exact LS.shn h
instance {r : Nat} {x : TX} : ShK (NX r x) none:=⟨NX.shp⟩
instance {r : Nat} {x : TX} : Shp (NX r x) none:=⟨NX.shp⟩
theorem TWR.tt {r : Nat} {rs : List (List Rat)} {v : Value} {G : Gh} (h : (TWR r rs).t v G) : (TT r (rs.map fun l=>(l,none))).t v G :=
  pts1 (τ':=LS none ((rs.map fun l=>((l,none) : TX)).map (NX r))) (fun h=>LS.convM (T:=NM r) (U:=NX r) (f:=fun l=>((l,none) : TX)) h rfl fun x hx v G hv=>hv) h
theorem rsT_of {rs : List (List Rat)} : rsT (rs.map fun l=>((l,none) : TX)) = rs:=by
  unfold rsT;rw [List.map_map]
  exact (List.map_congr_left (g:=id) fun x _=>rfl).trans (List.map_id _)
theorem okT_of {K : Nat} {rs : List (List Rat)} : okT K (rs.map fun l=>((l,none) : TX)):=fun i _=>by
  rw [List.getD_eq_getElem?_getD,List.getElem?_map]
  cases rs[i]? <;> rfl
attribute [irreducible] NX rsT
theorem rtStep {kk : Nat} (ih : ∀ {n m r : Nat} {xs : List TX} {l k : List Rat},Con Tryz.prog 77 [TT r xs,NM n l,NM m k] (kk ≠ 0 ∧ (kk - 1) ≤ (rsT xs).length ∧ (rsT xs).length ≤ 5 ∧ RLN (rsT xs) ∧ PW (kk - 1) l ∧ PW (kk - 1) k ∧ 1 ≤ n ∧ 1 ≤ m ∧ 1 ≤ r ∧ tB (kk - 1) (n + m) r ≤ BIG ∧ okT (kk - 1) xs) (NM (tB (kk - 1) (n + m) r) (timesR (rsT xs) kk l k))) (ih2 : ∀ {n r : Nat} {xs : List TX} {l : List Rat} {x : TX},Con Tryz.prog 77 [TT r xs,NM n l,NX r x] (x.2 = none ∧ kk ≠ 0 ∧ (kk - 1) ≤ (rsT xs).length ∧ (rsT xs).length ≤ 5 ∧ RLN (rsT xs) ∧ PW (kk - 1) l ∧ PW (kk - 1) x.1 ∧ 1 ≤ n ∧ 1 ≤ r ∧ tB (kk - 1) (n + r) r ≤ BIG ∧ okT (kk - 1) xs) (NM (tB (kk - 1) (n + r) r) (timesR (rsT xs) kk l x.1))) {n m r : Nat} {xs : List TX} {l k : List Rat} : Con Tryz.prog 77 [TT r xs,NM n l,NM m k] (kk ≤ (rsT xs).length ∧ (rsT xs).length ≤ 5 ∧ RLN (rsT xs) ∧ PW kk l ∧ PW kk k ∧ 1 ≤ n ∧ 1 ≤ m ∧ 1 ≤ r ∧ tB kk (n + m) r ≤ BIG ∧ okT kk xs) (NM (tB kk (n + m) r) (timesR (rsT xs) (kk + 1) l k)):=.o3 fun hok h1 h2 h3 hp=>by
  refine St.enter (N:=105) Tryz.func77 rfl rfl rfl hok (enter3 h1 h2 h3) fun a=>?_
  have own99 : OwnAt 99:=⟨⟩
  have own104 : OwnAt 104:=⟨⟩
  repeat' (first|((with_reducible refine gS_ ?_);first|((with_reducible refine gL_ ?_);first|refine W.run ?_ fun a w G=>?_|refine W.mv fun a w G=>?_|refine W.asg fun a w G=>?_|refine W.bx fun b a w G=>?_|(refine W.nn hK ?_;clear hK K)|refine W.nl ?_|refine W.ste ?_ fun w=>?_)|((with_reducible refine gC_ ?_);first|refine W.reg fun K hK=>?_|refine W.reg1 ?_|refine W.sq fun K hK=>?_|refine W.ds ?_ (fun β a w G hu=>W.fin ?_ hu) mixedOrders (by kernel_rfl)|refine W.sk ?_|refine W.cd (fun hc=>?_) (fun hc=>?_)|refine W.cb (fun hc=>?_) (fun hc=>?_)|refine W.rt ?_)|((with_reducible refine W.kn hK ?_);clear hK K)|with_reducible refine W.tr ?_|with_reducible refine W.br ?_|refine W.rt1 rfl ?_)|refine W.co ?_ fun b c a w G hle=>?_|refine W.cast (t:=103) (τ:=NM (tB (kk - 1) (n + m) r + tB (kk - 1) (n + m) r + 1) (wideF (plusF (timesR (rsT xs) kk ((wideF (shoF l) (max (shoF l).length (shoF k).length)).take ((max (shoF l).length (shoF k).length) / 2)) ((wideF (shoF k) (max (shoF l).length (shoF k).length)).drop ((max (shoF l).length (shoF k).length) / 2))) (timesR (rsT xs) kk ((wideF (shoF l) (max (shoF l).length (shoF k).length)).drop ((max (shoF l).length (shoF k).length) / 2)) ((wideF (shoF k) (max (shoF l).length (shoF k).length)).take ((max (shoF l).length (shoF k).length) / 2)))) ((max (shoF l).length (shoF k).length) / 2))) (τ':=NM (max (tB (kk - 1) (n + m) r + tB (kk - 1) (tB (kk - 1) (n + m) r + r) r + 1) (tB (kk - 1) (n + m) r + tB (kk - 1) (n + m) r + 1)) (wideF (plusF (timesR (rsT xs) kk ((wideF (shoF l) (max (shoF l).length (shoF k).length)).take ((max (shoF l).length (shoF k).length) / 2)) ((wideF (shoF k) (max (shoF l).length (shoF k).length)).drop ((max (shoF l).length (shoF k).length) / 2))) (timesR (rsT xs) kk ((wideF (shoF l) (max (shoF l).length (shoF k).length)).drop ((max (shoF l).length (shoF k).length) / 2)) ((wideF (shoF k) (max (shoF l).length (shoF k).length)).take ((max (shoF l).length (shoF k).length) / 2)))) ((max (shoF l).length (shoF k).length) / 2))) (fun h=>NM.up h (Nat.le_max_right _ _)) ?_|(refine W.casth (τ':=ROWS (some 3) ((wideF (plusF (timesR (rsT xs) kk ((wideF (shoF l) (max (shoF l).length (shoF k).length)).take ((max (shoF l).length (shoF k).length) / 2)) ((wideF (shoF k) (max (shoF l).length (shoF k).length)).take ((max (shoF l).length (shoF k).length) / 2))) (timesR (rsT xs) kk (timesR (rsT xs) kk ((wideF (shoF l) (max (shoF l).length (shoF k).length)).drop ((max (shoF l).length (shoF k).length) / 2)) ((wideF (shoF k) (max (shoF l).length (shoF k).length)).drop ((max (shoF l).length (shoF k).length) / 2))) (xs.getD (pwI (max (shoF l).length (shoF k).length) - 1).toNat default).1)) ((max (shoF l).length (shoF k).length) / 2)).map (QC (max (tB (kk - 1) (n + m) r + tB (kk - 1) (tB (kk - 1) (n + m) r + r) r + 1) (tB (kk - 1) (n + m) r + tB (kk - 1) (n + m) r + 1))))) (fun h=>ROWS.upq (k:=some 3) (l:=wideF (plusF (timesR (rsT xs) kk ((wideF (shoF l) (max (shoF l).length (shoF k).length)).take ((max (shoF l).length (shoF k).length) / 2)) ((wideF (shoF k) (max (shoF l).length (shoF k).length)).take ((max (shoF l).length (shoF k).length) / 2))) (timesR (rsT xs) kk (timesR (rsT xs) kk ((wideF (shoF l) (max (shoF l).length (shoF k).length)).drop ((max (shoF l).length (shoF k).length) / 2)) ((wideF (shoF k) (max (shoF l).length (shoF k).length)).drop ((max (shoF l).length (shoF k).length) / 2))) (xs.getD (pwI (max (shoF l).length (shoF k).length) - 1).toNat default).1)) ((max (shoF l).length (shoF k).length) / 2)) (n:=(tB (kk - 1) (n + m) r + tB (kk - 1) (tB (kk - 1) (n + m) r + r) r + 1)) (m:=max (tB (kk - 1) (n + m) r + tB (kk - 1) (tB (kk - 1) (n + m) r + r) r + 1) (tB (kk - 1) (n + m) r + tB (kk - 1) (n + m) r + 1)) h (Nat.le_max_left _ _)) ?_;refine W.rot ?_)|refine W.ap (mt:=FX 1 default) (T:=QC (max (tB (kk - 1) (n + m) r + tB (kk - 1) (tB (kk - 1) (n + m) r + r) r + 1) (tB (kk - 1) (n + m) r + tB (kk - 1) (n + m) r + 1))) (xs:=wideF (plusF (timesR (rsT xs) kk ((wideF (shoF l) (max (shoF l).length (shoF k).length)).take ((max (shoF l).length (shoF k).length) / 2)) ((wideF (shoF k) (max (shoF l).length (shoF k).length)).take ((max (shoF l).length (shoF k).length) / 2))) (timesR (rsT xs) kk (timesR (rsT xs) kk ((wideF (shoF l) (max (shoF l).length (shoF k).length)).drop ((max (shoF l).length (shoF k).length) / 2)) ((wideF (shoF k) (max (shoF l).length (shoF k).length)).drop ((max (shoF l).length (shoF k).length) / 2))) (xs.getD (pwI (max (shoF l).length (shoF k).length) - 1).toNat default).1)) ((max (shoF l).length (shoF k).length) / 2)) (OWNS.ofb (by assumption)) ?_ fun V own a w G hO=>?_|refine W.fzo (T:=QC (max (tB (kk - 1) (n + m) r + tB (kk - 1) (tB (kk - 1) (n + m) r + r) r + 1) (tB (kk - 1) (n + m) r + tB (kk - 1) (n + m) r + 1))) 6 hO ?_ fun G=>?_|clear hK K|clear hu|exact True.intro|exact Nat.le_trans (by clear hp;omega) hp|exact Nat.le_trans (by clear hp;omega) hp.1|exact Nat.le_trans (by clear hp;omega) hp.2|(clear hp;omega)|apply And.intro|refine GI.i fun _=>?_|with_reducible rfl|decide|(simp only [List.length_cons,List.length_nil];omega))
  all_goals obtain ⟨p1,p2,p3,p4,p5,p6,p7,p8,p9,p10⟩:=hp
  all_goals have hxl:=rsT_len (xs:=xs)
  all_goals have hN:=tB_le (r:=r) (k:=kk) (n:=n + m)
  all_goals have hA:=sho_ok (by omega) p4
  all_goals have hC:=sho_ok (by omega) p5
  all_goals have hl32:=p4.l32 (by omega)
  all_goals have hk32:=p5.l32 (by omega)
  all_goals have hA32:=hA.2.1.l32 (by omega)
  all_goals have hC32:=hC.2.1.l32 (by omega)
  all_goals first
    | omega
    | (have hz : (decide ((((shoF l).length : Nat) : Int) = 0) || decide ((((shoF k).length : Nat) : Int) = 0)) = true := by assumption
       first
       | exact rt_nil (or_len hz)
       | exact (rt_nil (or_len hz)).symm)
    | (have hz : (decide ((((shoF l).length : Nat) : Int) = 0) || decide ((((shoF k).length : Nat) : Int) = 0)) = false := by assumption
       have h0:=nor_len hz
       first
       | omega
       | (have h1 : ((max (shoF l).length (shoF k).length : Nat) : Int) = 1 := by assumption
          have h0l:=mt Or.inl h0
          have h0r:=mt Or.inr h0
          first
          | omega
          | exact Nat.pos_of_ne_zero h0l
          | exact Nat.pos_of_ne_zero h0r
          | exact rt_one h0 (by omega)
          | exact (rt_one h0 (by omega)).symm)
       | (have h1 : ¬ ((max (shoF l).length (shoF k).length : Nat) : Int) = 1 := by assumption
          have h1' : ¬ max (shoF l).length (shoF k).length = 1:=by omega
          obtain ⟨f1,⟨f2,f3,f4,f5⟩,f6,f7,f8,f9,⟨f10,f11,f11'⟩,f12,f13,f14,f15⟩:=rt_facts p1 p2 p3 hA.2.1 hC.2.1 h0 h1'
          obtain ⟨g1,g2,g3⟩:=tB_facts (N:=n + m) (r:=r) f1
          have hkk : kk - 1 < kk:=by omega
          have hkr : kk - 1 ≤ (rsT xs).length:=by omega
          have hok1:=p10.mono (show kk - 1 ≤ kk by omega)
          have f12:=(rsT_get (xs:=xs) (i:=(pwI (max (shoF l).length (shoF k).length) - 1).toNat)).trans f12
          have hno : (xs.getD (pwI (max (shoF l).length (shoF k).length) - 1).toNat default).2 = none:=p10 _ (by omega)
          have hk5 : kk - 1 ≤ 5:=by omega
          have w1:=PW.rtm p2 p3 hkr hkk f6 f8
          have w2:=PW.rtm p2 p3 hkr hkk f7 f9
          have w3:=PW.rtm p2 p3 hkr hkk w2 f13
          have w4:=PW.rtm p2 p3 hkr hkk f6 f9
          have w5:=PW.rtm p2 p3 hkr hkk f7 f8
          have v1:=w1.l32 hk5
          have v3:=w3.l32 hk5
          have v4:=w4.l32 hk5
          have v5:=w5.l32 hk5
          (try simp only [f12])
          (try simp only [List.length_append,wide_ln])
          first
          | omega
          | assumption
          | (simp only [LIM];omega)
          | exact rt_go h0 h1' _ rfl rfl rfl f14 f15
          | exact (rt_go h0 h1' _ rfl rfl rfl f14 f15).symm
          | fail))
    | skip
theorem rtX {kk : Nat} (ih : ∀ {n m r : Nat} {xs : List TX} {l k : List Rat},Con Tryz.prog 77 [TT r xs,NM n l,NM m k] (kk ≠ 0 ∧ (kk - 1) ≤ (rsT xs).length ∧ (rsT xs).length ≤ 5 ∧ RLN (rsT xs) ∧ PW (kk - 1) l ∧ PW (kk - 1) k ∧ 1 ≤ n ∧ 1 ≤ m ∧ 1 ≤ r ∧ tB (kk - 1) (n + m) r ≤ BIG ∧ okT (kk - 1) xs) (NM (tB (kk - 1) (n + m) r) (timesR (rsT xs) kk l k))) {n r : Nat} {xs : List TX} {l : List Rat} {x : TX} : Con Tryz.prog 77 [TT r xs,NM n l,NX r x] (x.2 = none ∧ kk ≠ 0 ∧ (kk - 1) ≤ (rsT xs).length ∧ (rsT xs).length ≤ 5 ∧ RLN (rsT xs) ∧ PW (kk - 1) l ∧ PW (kk - 1) x.1 ∧ 1 ≤ n ∧ 1 ≤ r ∧ tB (kk - 1) (n + r) r ≤ BIG ∧ okT (kk - 1) xs) (NM (tB (kk - 1) (n + r) r) (timesR (rsT xs) kk l x.1)):=.o3 fun hok h1 h2 h3 hp=>ih.c3 hok h1 h2 (NX.nm hp.1 h3) ⟨hp.2.1,by obtain ⟨_,_,a1,a2,a3,a4,a5,a6,a7,a8,a9⟩:=hp;exact ⟨a1,a2,a3,a4,a5,a6,a7,a7,a8,a9⟩⟩
theorem rtK : ∀ (kk : Nat) {n m r : Nat} {xs : List TX} {l k : List Rat},Con Tryz.prog 77 [TT r xs,NM n l,NM m k] (kk ≤ (rsT xs).length ∧ (rsT xs).length ≤ 5 ∧ RLN (rsT xs) ∧ PW kk l ∧ PW kk k ∧ 1 ≤ n ∧ 1 ≤ m ∧ 1 ≤ r ∧ tB kk (n + m) r ≤ BIG ∧ okT kk xs) (NM (tB kk (n + m) r) (timesR (rsT xs) (kk + 1) l k)):=fun kk=>by
  induction kk with
  | zero=>exact rtStep (kk:=0) ⟨fun _ _ hp=>absurd rfl hp.1⟩ ⟨fun _ _ hp=>absurd rfl hp.2.1⟩
  | succ kk ih =>
    have ih1 : ∀ {n m r : Nat} {xs : List TX} {l k : List Rat},Con Tryz.prog 77 [TT r xs,NM n l,NM m k] (kk + 1 ≠ 0 ∧ (kk + 1 - 1) ≤ (rsT xs).length ∧ (rsT xs).length ≤ 5 ∧ RLN (rsT xs) ∧ PW (kk + 1 - 1) l ∧ PW (kk + 1 - 1) k ∧ 1 ≤ n ∧ 1 ≤ m ∧ 1 ≤ r ∧ tB (kk + 1 - 1) (n + m) r ≤ BIG ∧ okT (kk + 1 - 1) xs) (NM (tB (kk + 1 - 1) (n + m) r) (timesR (rsT xs) (kk + 1) l k)):=⟨fun hok ha hp=>ih.h hok ha hp.2⟩
    intro n m r xs l k
    exact rtStep (kk:=kk + 1) ih1 (rtX (kk:=kk + 1) ih1)
theorem rtP {n m r : Nat} {xs : List TX} {l k : List Rat} : Con Tryz.prog 77 [TT r xs,NM n l,NM m k] (lvM l k ≤ (rsT xs).length ∧ (rsT xs).length ≤ 5 ∧ RLN (rsT xs) ∧ PW (lvM l k) l ∧ PW (lvM l k) k ∧ 1 ≤ n ∧ 1 ≤ m ∧ 1 ≤ r ∧ tB (lvM l k) (n + m) r ≤ BIG ∧ okT (lvM l k) xs) (NM (tB (lvM l k) (n + m) r) (tmR (rsT xs) l k)):=.o3 fun hok h1 h2 h3 hp=>(rtK (lvM l k)).c3 hok h1 h2 h3 hp
instance {n m r : Nat} {xs : List TX} {l k : List Rat} {τ2 : MT} [j2 : NU τ2 (NM n l)] {τ3 : MT} [j3 : NU τ3 (NM m k)] : Con Tryz.prog 77 [TT r xs,τ2,τ3] (lvM l k ≤ (rsT xs).length ∧ (rsT xs).length ≤ 5 ∧ RLN (rsT xs) ∧ PW (lvM l k) l ∧ PW (lvM l k) k ∧ 1 ≤ n ∧ 1 ≤ m ∧ 1 ≤ r ∧ tB (lvM l k) (n + m) r ≤ BIG ∧ okT (lvM l k) xs) (NM (tB (lvM l k) (n + m) r) (tmR (rsT xs) l k)):=.o3 fun hok h1 h2 h3 hp=>rtP.c3 hok h1 (j2.h h2) (j3.h h3) hp
instance {n r : Nat} {xs : List TX} {l : List Rat} {x : TX} {τ2 : MT} [j2 : NU τ2 (NM n l)] : Con Tryz.prog 77 [TT r xs,τ2,NX r x] (x.2 = none ∧ lvM l x.1 ≤ (rsT xs).length ∧ (rsT xs).length ≤ 5 ∧ RLN (rsT xs) ∧ PW (lvM l x.1) l ∧ PW (lvM l x.1) x.1 ∧ 1 ≤ n ∧ 1 ≤ r ∧ tB (lvM l x.1) (n + r) r ≤ BIG ∧ okT (lvM l x.1) xs) (NM (tB (lvM l x.1) (n + r) r) (tmR (rsT xs) l x.1)):=.o3 fun hok h1 h2 h3 hp=>rtP.c3 hok h1 (j2.h h2) (NX.nm hp.1 h3) (by obtain ⟨_,a1,a2,a3,a4,a5,a6,a7,a8,a9⟩:=hp;exact ⟨a1,a2,a3,a4,a5,a6,a7,a7,a8,a9⟩)
instance {n m r : Nat} {rs : List (List Rat)} {l k : List Rat} {τ1 : MT} [j1 : NU τ1 (TWR r rs)] {τ2 : MT} [j2 : NU τ2 (NM n l)] {τ3 : MT} [j3 : NU τ3 (NM m k)] : Con Tryz.prog 77 [τ1,τ2,τ3] (lvM l k ≤ rs.length ∧ rs.length ≤ 5 ∧ RLN rs ∧ PW (lvM l k) l ∧ PW (lvM l k) k ∧ 1 ≤ n ∧ 1 ≤ m ∧ 1 ≤ r ∧ tB (lvM l k) (n + m) r ≤ BIG) (NM (tB (lvM l k) (n + m) r) (tmR rs l k)):=.o3 fun hok h1 h2 h3 hp=>by
  have h:=(rtP (n:=n) (m:=m) (r:=r) (xs:=rs.map fun l=>((l,none) : TX)) (l:=l) (k:=k)).c3 hok (TWR.tt (j1.h h1)) (j2.h h2) (j3.h h3) (by rw [rsT_of];obtain ⟨a1,a2,a3,a4,a5,a6,a7,a8,a9⟩:=hp;exact ⟨a1,a2,a3,a4,a5,a6,a7,a8,a9,okT_of⟩)
  rw [rsT_of] at h;exact h
end Go.Proofs.YtboicjlbbbodgaaGreatDoor
namespace Go.Proofs.YtboicjlbbbodgaaGreatDoor
open Go.RowKit (Below)
attribute [local irreducible] Go.Code.wp Go.wpList Go.bodyPost
theorem nmR_facts {rs : List (List Rat)} {l : List Rat} {j : Nat} (p2 : rs.length ≤ 5) (p3 : RLN rs) (hj : j < rs.length) (hl : l.length ≤ 2 ^ (j + 1)) :
    2 ^ (j + 1) / 2 = 2 ^ j ∧ (2 ^ j ≤ 16 ∧ 1 ≤ 2 ^ j ∧ 2 ^ (j + 1) = 2 ^ j + 2 ^ j) ∧ lvM ((wideF l (2 ^ (j + 1))).take (2 ^ j)) ((wideF l (2 ^ (j + 1))).take (2 ^ j)) = j ∧ lvM ((wideF l (2 ^ (j + 1))).drop (2 ^ j)) ((wideF l (2 ^ (j + 1))).drop (2 ^ j)) = j ∧
    lvM (tmR rs ((wideF l (2 ^ (j + 1))).drop (2 ^ j)) ((wideF l (2 ^ (j + 1))).drop (2 ^ j))) (rs.getD j []) = j ∧
    PW j ((wideF l (2 ^ (j + 1))).take (2 ^ j)) ∧ PW j ((wideF l (2 ^ (j + 1))).drop (2 ^ j)) ∧ PW j (tmR rs ((wideF l (2 ^ (j + 1))).drop (2 ^ j)) ((wideF l (2 ^ (j + 1))).drop (2 ^ j))) ∧ PW j (rs.getD j []) ∧
    (0 ≤ pwI (2 ^ (j + 1)) - 1 ∧ pwI (2 ^ (j + 1)) - 1 < (rs.length : Int)) ∧ rs.getD (pwI (2 ^ (j + 1)) - 1).toNat default = rs.getD j [] ∧
    PW j (tmR rs ((wideF l (2 ^ (j + 1))).take (2 ^ j)) ((wideF l (2 ^ (j + 1))).take (2 ^ j))) ∧ PW j (tmR rs (tmR rs ((wideF l (2 ^ (j + 1))).drop (2 ^ j)) ((wideF l (2 ^ (j + 1))).drop (2 ^ j))) (rs.getD j [])) ∧
    (wideF l (2 ^ (j + 1))).length = 2 ^ (j + 1):=by
  have e5 : 2 ^ (j + 1) = 2 ^ j + 2 ^ j:=by rw [Nat.pow_succ];omega
  have hp:=Nat.two_pow_pos j
  have h16 : 2 ^ j ≤ 2 ^ 4:=Nat.pow_le_pow_right (by decide) (by omega)
  have hw : (wideF l (2 ^ (j + 1))).length = 2 ^ (j + 1):=wide_ln
  have lx : ((wideF l (2 ^ (j + 1))).take (2 ^ j)).length = 2 ^ j:=by rw [List.length_take];omega
  have ly : ((wideF l (2 ^ (j + 1))).drop (2 ^ j)).length = 2 ^ j:=by rw [List.length_drop];omega
  have hd:=PW.rt p3 hj (Nat.le_refl j)
  have hyy:=(tmR_ok p2 p3 (by omega : j ≤ rs.length) (PW.pow ly) (PW.pow ly)).2
  have hxx:=(tmR_ok p2 p3 (by omega : j ≤ rs.length) (PW.pow lx) (PW.pow lx)).2
  have hyd:=(tmR_ok p2 p3 (by omega : j ≤ rs.length) hyy hd).2
  rw [pwI_pow (by omega)]
  have e3 : (((j + 1 : Nat) : Int) - 1).toNat = j:=by omega
  rw [e3]
  exact ⟨by omega,⟨h16,hp,e5⟩,lvM_eq lx lx,lvM_eq ly ly,lvM_r hyy.le (p3.at hj),PW.pow lx,PW.pow ly,hyy,hd,⟨by omega,by omega⟩,rfl,hxx,hyd,hw⟩
theorem nmR_eq {rs : List (List Rat)} {l : List Rat} {j : Nat} (hl : l.length ≤ 2 ^ (j + 1)) : plusF (tmR rs ((wideF l (2 ^ (j + 1))).take (2 ^ j)) ((wideF l (2 ^ (j + 1))).take (2 ^ j))) (minusF (tmR rs (tmR rs ((wideF l (2 ^ (j + 1))).drop (2 ^ j)) ((wideF l (2 ^ (j + 1))).drop (2 ^ j))) (rs.getD j []))) = normR rs l (2 ^ (j + 1)):=by
  unfold normR
  have hh : 2 ^ (j + 1) / 2 = 2 ^ j := by have : 2 ^ (j + 1) = 2 ^ j + 2 ^ j := by rw [Nat.pow_succ]; omega
                                          omega
  rw [wideR_eq hl,lev_pow,Nat.add_sub_cancel,hh]
attribute [local irreducible] plusF minusF joinF levI lev PW RLN tB sB iB timesF stepF tmF normF TOK sgL wideF timesR shoF tmR normR pwI lvM
theorem rnorm {n r j : Nat} {xs : List TX} {l : List Rat} : Con Tryz.prog 112 [TT r xs,NM n l,NT (2 ^ (j + 1))] (l.length ≤ 2 ^ (j + 1) ∧ j < (rsT xs).length ∧ (rsT xs).length ≤ 5 ∧ RLN (rsT xs) ∧ 1 ≤ n ∧ 1 ≤ r ∧ tB (j + 1) (n + n) r ≤ BIG ∧ okT (j + 1) xs) (NM (tB (j + 1) (n + n) r) (normR (rsT xs) l (2 ^ (j + 1)))):=.o3 fun hok h1 h2 h3 hp=>by
  refine St.enter (N:=45) Tryz.func112 rfl rfl rfl hok (enter3 h1 h2 h3) fun a=>?_
  repeat' (first|((with_reducible refine gS_ ?_);first|((with_reducible refine gL_ ?_);first|refine W.run ?_ fun a w G=>?_|refine W.mv fun a w G=>?_|refine W.asg fun a w G=>?_|refine W.bx fun b a w G=>?_|(refine W.nn hK ?_;clear hK K)|refine W.nl ?_|refine W.ste ?_ fun w=>?_)|((with_reducible refine gC_ ?_);first|refine W.reg fun K hK=>?_|refine W.reg1 ?_|refine W.sq fun K hK=>?_|refine W.ds ?_ (fun β a w G hu=>W.fin ?_ hu) mixedOrders (by kernel_rfl)|refine W.sk ?_|refine W.rt ?_)|((with_reducible refine W.kn hK ?_);clear hK K)|with_reducible refine W.tr ?_|with_reducible refine W.br ?_|refine W.rt1 rfl ?_)|clear hK K|clear hu|exact True.intro|exact Nat.le_trans (by clear hp;omega) hp|exact Nat.le_trans (by clear hp;omega) hp.1|exact Nat.le_trans (by clear hp;omega) hp.2|(clear hp;omega)|apply And.intro|refine GI.i fun _=>?_|with_reducible rfl|decide|(simp only [List.length_cons,List.length_nil];omega))
  all_goals obtain ⟨p1,p2,p3,p4,p5,p6,p7,p8⟩:=hp
  all_goals obtain ⟨f1,⟨f2,f3,f3'⟩,f4,f5,f6,f7,f8,f9,f10,⟨f11,f11'⟩,f12,f13,f14,f15⟩:=nmR_facts p3 p4 p2 p1
  all_goals have hxl:=rsT_len (xs:=xs)
  all_goals have f11z : (pwI (2 ^ (j + 1)) - 1).toNat = j:=by (rw [pwI_pow (by omega)];omega)
  all_goals have f12 : (xs.getD j default).1 = (rsT xs).getD j []:=rsT_get
  all_goals have hno : (xs.getD j default).2 = none:=p8 j (by omega)
  all_goals have hok1 : okT j xs:=p8.mono (by omega)
  all_goals have hb : tB (j + 1) (n + n) r = tB j (n + n) r + tB j (tB j (n + n) r + r) r + 1:=tB_facts (kk:=j + 1) (Nat.succ_ne_zero _) |>.1
  all_goals have hb2:=tB_le (r:=r) (k:=j) (n:=n + n)
  all_goals have hb3:=tB_le (r:=r) (k:=j) (n:=tB j (n + n) r + r)
  all_goals have q1:=f13.l32 (by omega)
  all_goals have q2:=f14.l32 (by omega)
  all_goals have q3:=f14.minus.l32 (by omega)
  all_goals (try simp only [f1])
  all_goals (try simp only [f11z])
  all_goals (try simp only [f12])
  all_goals (try simp only [f4,f5,f6])
  all_goals first
    | omega
    | assumption
    | exact nmR_eq p1
    | exact (nmR_eq p1).symm
    | skip
theorem rnormP {n r q : Nat} {xs : List TX} {l : List Rat} : Con Tryz.prog 112 [TT r xs,NM n l,NT q] (q = 2 ^ (lev q - 1 + 1) ∧ l.length ≤ q ∧ lev q - 1 < (rsT xs).length ∧ (rsT xs).length ≤ 5 ∧ RLN (rsT xs) ∧ 1 ≤ n ∧ 1 ≤ r ∧ tB (lev q - 1 + 1) (n + n) r ≤ BIG ∧ okT (lev q - 1 + 1) xs) (NM (tB (lev q - 1 + 1) (n + n) r) (normR (rsT xs) l q)):=.o3 fun {v1 v2 v3 w G} hok h1 h2 h3 hp=>by
  obtain ⟨e,p1,p2⟩:=hp
  generalize lev q - 1 = j at *
  subst e
  exact rnorm.c3 hok h1 h2 h3 ⟨p1,p2⟩
instance {n r q : Nat} {xs : List TX} {l : List Rat} {τ2 : MT} [j2 : NU τ2 (NM n l)] : Con Tryz.prog 112 [TT r xs,τ2,NT q] (q = 2 ^ (lev q - 1 + 1) ∧ l.length ≤ q ∧ lev q - 1 < (rsT xs).length ∧ (rsT xs).length ≤ 5 ∧ RLN (rsT xs) ∧ 1 ≤ n ∧ 1 ≤ r ∧ tB (lev q - 1 + 1) (n + n) r ≤ BIG ∧ okT (lev q - 1 + 1) xs) (NM (tB (lev q - 1 + 1) (n + n) r) (normR (rsT xs) l q)):=.o3 fun hok h1 h2 h3 hp=>rnormP.c3 hok h1 (j2.h h2) h3 hp
instance {n r q : Nat} {rs : List (List Rat)} {l : List Rat} {τ1 τ2 : MT} [j1 : NU τ1 (TWR r rs)] [j2 : NU τ2 (NM n l)] : Con Tryz.prog 112 [τ1,τ2,NT q] (q = 2 ^ (lev q - 1 + 1) ∧ l.length ≤ q ∧ lev q - 1 < rs.length ∧ rs.length ≤ 5 ∧ RLN rs ∧ 1 ≤ n ∧ 1 ≤ r ∧ tB (lev q - 1 + 1) (n + n) r ≤ BIG) (NM (tB (lev q - 1 + 1) (n + n) r) (normR rs l q)):=.o3 fun {v1 v2 v3 w G} hok h1 h2 h3 hp=>by
  have h:=(rnormP (n:=n) (r:=r) (q:=q) (xs:=rs.map fun l=>((l,none) : TX)) (l:=l)).c3 hok (TWR.tt (j1.h h1)) (j2.h h2) h3 (by rw [rsT_of];obtain ⟨a1,a2,a3,a4,a5,a6,a7,a8⟩:=hp;exact ⟨a1,a2,a3,a4,a5,a6,a7,a8,okT_of⟩)
  rw [rsT_of] at h;exact h
theorem sgR_go {rs : List (List Rat)} {l : List Rat} {kk j : Nat} (p1 : kk ≤ rs.length) (p2 : TOK rs) (p3 : PW kk l) (g2 : j + 1 ≤ kk) (g3 : (shoF l).length = 2 ^ (j + 1)) :
    sgL rs l = if sgL rs ((shoF l).take ((shoF l).length / 2)) = sgL rs ((shoF l).drop ((shoF l).length / 2)) * sgL rs (rs.getD j []) ∨ sgL rs ((shoF l).drop ((shoF l).length / 2)) * sgL rs (rs.getD j []) = 0 then sgL rs ((shoF l).take ((shoF l).length / 2)) else
      if sgL rs ((shoF l).take ((shoF l).length / 2)) = 0 then sgL rs ((shoF l).drop ((shoF l).length / 2)) * sgL rs (rs.getD j []) else sgL rs ((shoF l).take ((shoF l).length / 2)) * sgL rs (normR rs (shoF l) (shoF l).length):=by
  rw [sg_short p1 p2 p3,sgR_step p2 (by omega : j < rs.length) g3]
theorem nmR_pw {rs : List (List Rat)} {l : List Rat} {kk j : Nat} (p1 : kk ≤ rs.length) (p2 : TOK rs) (g2 : j + 1 ≤ kk) (g3 : l.length = 2 ^ (j + 1)) : PW (kk - 1) (normR rs l l.length):=by
  have h5:=p2.rl
  rw [g3]
  exact (normR_ok h5.2 h5.1 (by omega : j < rs.length) (PW.pow g3)).2.mono (by omega)
theorem rsgStep {kk : Nat} (ih : ∀ {n r : Nat} {xs : List TX} {l : List Rat},Con Tryz.prog 75 [TT r xs,NM n l] (kk ≠ 0 ∧ (kk - 1) ≤ (rsT xs).length ∧ TOK (rsT xs) ∧ PW (kk - 1) l ∧ 1 ≤ n ∧ 1 ≤ r ∧ sB (kk - 1) (n + r) r ≤ BIG ∧ okT (kk - 1) xs) (IT (sgL (rsT xs) l))) (ih2 : ∀ {r : Nat} {xs : List TX} {x : TX},Con Tryz.prog 75 [TT r xs,NX r x] (x.2 = none ∧ kk ≠ 0 ∧ (kk - 1) ≤ (rsT xs).length ∧ TOK (rsT xs) ∧ PW (kk - 1) x.1 ∧ 1 ≤ r ∧ sB (kk - 1) (r + r) r ≤ BIG ∧ okT (kk - 1) xs) (IT (sgL (rsT xs) x.1))) {n r : Nat} {xs : List TX} {l : List Rat} : Con Tryz.prog 75 [TT r xs,NM n l] (kk ≤ (rsT xs).length ∧ TOK (rsT xs) ∧ PW kk l ∧ 1 ≤ n ∧ 1 ≤ r ∧ sB kk (n + r) r ≤ BIG ∧ okT kk xs) (IT (sgL (rsT xs) l)):=.o2 fun hok h1 h2 hp=>by
  refine St.enter (N:=70) Tryz.func75 rfl rfl rfl hok (enter2 h1 h2) fun a=>?_
  repeat' (first|((with_reducible refine gS_ ?_);first|((with_reducible refine gL_ ?_);first|refine W.run ?_ fun a w G=>?_|refine W.mv fun a w G=>?_|refine W.asg fun a w G=>?_|refine W.bx fun b a w G=>?_|(refine W.nn hK ?_;clear hK K)|refine W.nl ?_|refine W.ste ?_ fun w=>?_)|((with_reducible refine gC_ ?_);first|refine W.reg fun K hK=>?_|refine W.reg1 ?_|refine W.sq fun K hK=>?_|refine W.ds ?_ (fun β a w G hu=>W.fin ?_ hu) mixedOrders (by kernel_rfl)|refine W.sk ?_|refine W.cd (fun hc=>?_) (fun hc=>?_)|refine W.cb (fun hc=>?_) (fun hc=>?_)|refine W.rt ?_)|((with_reducible refine W.kn hK ?_);clear hK K)|with_reducible refine W.tr ?_|with_reducible refine W.br ?_|refine W.rt1 rfl ?_)|clear hK K|clear hu|exact True.intro|exact Nat.le_trans (by clear hp;omega) hp|exact Nat.le_trans (by clear hp;omega) hp.1|exact Nat.le_trans (by clear hp;omega) hp.2|(clear hp;omega)|apply And.intro|refine GI.i fun _=>?_|with_reducible rfl|decide|(simp only [List.length_cons,List.length_nil];omega))
  all_goals obtain ⟨p1,p2,p3,p4,p5,p6,p7⟩:=hp
  all_goals have hxl:=rsT_len (xs:=xs)
  all_goals have hn:=sB_le (r:=r) (k:=kk) (n:=n + r)
  all_goals have hl32:=p3.l32 (by have:=p2.rl.2;omega)
  all_goals have e0:=sg_short p1 p2 p3
  all_goals have hsl : (shoF l).length ≤ l.length:=(sho_ok (by have:=p2.rl.2;omega) p3).2.2.2
  all_goals first
    | omega
    | (have h0 : (((shoF l).length : Nat) : Int) = 0 := by assumption
       rw [e0,List.length_eq_zero_iff.1 (show (shoF l).length = 0 by omega),sgL_nil])
    | (have h1 : (((shoF l).length : Nat) : Int) = 1 := by assumption
       rw [e0,sgL_one (by omega)];rfl)
    | (obtain ⟨g1, j, g2, g3, g4, g5, g6, ⟨g7, g7'⟩, g8, g9, g10, g11, g12, g13, g14, g15, g16⟩ := sg_facts p1 p2 p3 p4 p5 p6 (by assumption) (by assumption)
       have g17:=p2.rl
       have g18:=sgR_go p1 p2 p3 g2 g3
       have g19:=sgL_mul_bd (rsT xs) ((shoF l).take ((shoF l).length / 2)) (normR (rsT xs) (shoF l) (shoF l).length)
       have g20:=sgL_mul_bd (rsT xs) ((shoF l).drop ((shoF l).length / 2)) ((rsT xs).getD j [])
       have g21 : pwI (shoF l).length = ((j + 1 : Nat) : Int):=by rw [g3];exact pwI_pow (by omega)
       have g22 : (pwI (shoF l).length - 1).toNat = j:=by omega
       have g23:=nmR_pw p1 p2 g2 g3
       have g24 : (xs.getD j default).1 = (rsT xs).getD j []:=rsT_get
       have hno : (xs.getD j default).2 = none:=p7 j (by omega)
       have hok1 : okT (kk - 1) xs:=p7.mono (by omega)
       have hok2 : okT (j + 1) xs:=p7.mono (by omega)
       (try simp only [g22] at *)
       (try simp only [g24] at *)
       (try rw [g4])
       first
       | omega
       | assumption
       | exact g17.1
       | exact g19.1
       | exact g19.2
       | exact g20.1
       | exact g20.2
       | (rw [g18];simp only [Bool.or_eq_true,Bool.or_eq_false_iff,decide_eq_true_eq,decide_eq_false_iff_not] at *;grind)
       | skip)
    | skip
theorem rsgX {kk : Nat} (ih : ∀ {n r : Nat} {xs : List TX} {l : List Rat},Con Tryz.prog 75 [TT r xs,NM n l] (kk ≠ 0 ∧ (kk - 1) ≤ (rsT xs).length ∧ TOK (rsT xs) ∧ PW (kk - 1) l ∧ 1 ≤ n ∧ 1 ≤ r ∧ sB (kk - 1) (n + r) r ≤ BIG ∧ okT (kk - 1) xs) (IT (sgL (rsT xs) l))) {r : Nat} {xs : List TX} {x : TX} : Con Tryz.prog 75 [TT r xs,NX r x] (x.2 = none ∧ kk ≠ 0 ∧ (kk - 1) ≤ (rsT xs).length ∧ TOK (rsT xs) ∧ PW (kk - 1) x.1 ∧ 1 ≤ r ∧ sB (kk - 1) (r + r) r ≤ BIG ∧ okT (kk - 1) xs) (IT (sgL (rsT xs) x.1)):=.o2 fun hok h1 h2 hp=>ih.c2 hok h1 (NX.nm hp.1 h2) ⟨hp.2.1,by obtain ⟨_,_,a1,a2,a3,a4,a5,a6⟩:=hp;exact ⟨a1,a2,a3,a4,a4,a5,a6⟩⟩
theorem rsgK : ∀ (kk : Nat) {n r : Nat} {xs : List TX} {l : List Rat},Con Tryz.prog 75 [TT r xs,NM n l] (kk ≤ (rsT xs).length ∧ TOK (rsT xs) ∧ PW kk l ∧ 1 ≤ n ∧ 1 ≤ r ∧ sB kk (n + r) r ≤ BIG ∧ okT kk xs) (IT (sgL (rsT xs) l)):=fun kk=>by
  induction kk with
  | zero=>exact rsgStep (kk:=0) ⟨fun _ _ hp=>absurd rfl hp.1⟩ ⟨fun _ _ hp=>absurd rfl hp.2.1⟩
  | succ kk ih =>
    have ih1 : ∀ {n r : Nat} {xs : List TX} {l : List Rat},Con Tryz.prog 75 [TT r xs,NM n l] (kk + 1 ≠ 0 ∧ (kk + 1 - 1) ≤ (rsT xs).length ∧ TOK (rsT xs) ∧ PW (kk + 1 - 1) l ∧ 1 ≤ n ∧ 1 ≤ r ∧ sB (kk + 1 - 1) (n + r) r ≤ BIG ∧ okT (kk + 1 - 1) xs) (IT (sgL (rsT xs) l)):=⟨fun hok ha hp=>ih.h hok ha hp.2⟩
    intro n r xs l
    exact rsgStep (kk:=kk + 1) ih1 (rsgX (kk:=kk + 1) ih1)
theorem rsgP {kk : Nat} {n r : Nat} {xs : List TX} {l : List Rat} : Con Tryz.prog 75 [TT r xs,NM n l] (kk ≤ (rsT xs).length ∧ TOK (rsT xs) ∧ PW kk l ∧ 1 ≤ n ∧ 1 ≤ r ∧ sB kk (n + r) r ≤ BIG ∧ okT kk xs) (IT (sgL (rsT xs) l)):=rsgK kk
instance {n r : Nat} {rs : List (List Rat)} {l : List Rat} {τ1 : MT} [j1 : NU τ1 (TWR r rs)] {τ2 : MT} [j2 : NU τ2 (NM n l)] : Con Tryz.prog 75 [τ1,τ2] (TOK rs ∧ PW rs.length l ∧ 1 ≤ n ∧ 1 ≤ r ∧ sB rs.length (n + r) r ≤ BIG) (IT (sgL rs l)):=.o2 fun hok h1 h2 hp=>by
  have h:=(rsgK (rs.length) (n:=n) (r:=r) (xs:=rs.map fun l=>((l,none) : TX)) (l:=l)).c2 hok (TWR.tt (j1.h h1)) (j2.h h2) (by rw [rsT_of];exact ⟨Nat.le_refl _,hp.1,hp.2.1,hp.2.2.1,hp.2.2.2.1,hp.2.2.2.2,okT_of⟩)
  rw [rsT_of] at h;exact h
end Go.Proofs.YtboicjlbbbodgaaGreatDoor
