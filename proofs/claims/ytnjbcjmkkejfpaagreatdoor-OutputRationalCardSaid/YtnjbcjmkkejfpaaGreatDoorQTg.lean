import Derived.Test.YtnjbcjmkkejfpaaGreatDoorQTf
set_option linter.unusedVariables false
set_option linter.unusedSimpArgs false
set_option linter.unusedVariables false
set_option linter.unusedSimpArgs false
set_option maxHeartbeats 4000000
set_option maxRecDepth 100000
set_option synthInstance.maxSize 100000
set_option synthInstance.maxHeartbeats 400000
namespace Go.Proofs.YtnjbcjmkkejfpaaGreatDoor
open Go.RowKit (Below)
attribute [local irreducible] Go.Code.wp Go.wpList Go.bodyPost
private theorem gS_ {W0 : World} {G0 : Gh} {N : Nat} {L : List (Nat × MT)} {B : List BX} {a : Act} {w : World} {G : Gh} {q : Prop} (h : St W0 G0 N L B a w G → q) : St W0 G0 N L B a w G → q:=h
private theorem gL_ {p : Prop} {P : Program} {arr : Array Oper} {Q : Exit → Act → World → Prop} {l : List Oper} {a : Act} {w : World} (h : p → wpList P arr Q l a w) : p → wpList P arr Q l a w:=h
private theorem gC_ {p : Prop} {P : Program} {c : Code} {Q : Exit → Act → World → Prop} {a : Act} {w : World} (h : p → c.wp P Q a w) : p → c.wp P Q a w:=h
private theorem mixedOrders : Tryz.prog.follows .mixedOrders = true:=by kernel_rfl
def mnP (l : List Rat) (j : Nat) : List Rat:=(List.range l.length).map fun i=>if i < j then -cf l i else 0
def plP (n m : Nat) (l k : List Rat) (j : Nat) : List (Nat × Rat):=(List.range (max l.length k.length)).map fun i=>if i < j then (n + m + 1,cf l i + cf k i) else (n,cf l i)
theorem emp_z {x : Rat} : ((FR.of x).s || decide ((((FR.of x).p.length : Nat) : Int) > 0) || decide ((((FR.of x).q.length : Nat) : Int) > 0)) = !decide (x.num.sign = 0):=by
  by_cases h : x = 0
  · subst h
    have e1 : (FR.of 0).p = []:=words_zero
    have e2 : (FR.of 0).q = []:=by show dwords 0 = [];simp [dwords]
    rw [e1,e2]
    decide
  · have h2 : x.num.sign ≠ 0:=fun e=>h (Rat.num_eq_zero.1 (Int.sign_eq_zero_iff_zero.1 e))
    have h3 : 0 < (FR.of x).p.length:=by
      rcases Nat.eq_zero_or_pos (FR.of x).p.length with e | e
      · exfalso
        have e1 : words x.num.natAbs = []:=List.length_eq_zero_iff.1 e
        have e2:=val_words x.num.natAbs
        rw [e1] at e2
        exact h (Rat.num_eq_zero.1 (Int.natAbs_eq_zero.1 e2.symm))
      · exact e
    rw [decide_eq_false h2,decide_eq_true (show (((FR.of x).p.length : Nat) : Int) > 0 by omega)]
    simp
theorem mnP_0 {l : List Rat} : List.replicate l.length 0 = mnP l 0:=by
  unfold mnP
  refine List.ext_getElem (by simp) fun i h1 h2=>?_
  simp
theorem mnP_len {l : List Rat} {j : Nat} : (mnP l j).length = l.length:=by simp [mnP]
theorem mnP_s {l : List Rat} {j : Nat} (h : j < l.length) : (mnP l j).set j (-l.getD j default) = mnP l (j + 1):=by
  refine List.ext_getElem (by simp [mnP]) fun i h1 h2=>?_
  simp only [mnP,List.getElem_set,List.getElem_map,List.getElem_range]
  by_cases e : j = i
  · subst e;rw [if_pos rfl,if_pos (Nat.lt_succ_self j)];rfl
  · rw [if_neg e]
    by_cases h3 : i < j
    · rw [if_pos h3,if_pos (by omega)]
    · rw [if_neg h3,if_neg (by omega)]
theorem mnP_e {l : List Rat} {j : Nat} (h : l.length ≤ j) : mnP l j = minusF l:=by
  refine List.ext_getElem (by simp [mnP,minusF]) fun i h1 h2=>?_
  have hi : i < l.length:=by simpa [mnP] using h1
  simp only [mnP,minusF,List.getElem_map,List.getElem_range]
  rw [if_pos (by omega)]
  simp [cf,List.getD_eq_getElem?_getD,hi]
theorem plP_len {n m : Nat} {l k : List Rat} {j : Nat} : (plP n m l k j).length = max l.length k.length:=by simp [plP]
theorem wide_get {l : List Rat} {M i : Nat} (h : i < M) : (wideF l M).getD i default = cf l i ∧ ∀ h2 : i < (wideF l M).length,(wideF l M)[i] = cf l i:=by
  have key : (wideF l M)[i]? = some (cf l i):=by
    unfold wideF cf
    rcases Nat.lt_or_ge i l.length with h3 | h3
    · rw [List.getElem?_append_left (by rw [List.length_take];omega),List.getElem?_take_of_lt h,List.getElem?_eq_getElem h3,List.getD_eq_getElem?_getD,List.getElem?_eq_getElem h3];rfl
    · have e : (l.take M).length = l.length:=by rw [List.length_take];omega
      rw [List.getElem?_append_right (by omega),e,List.getElem?_drop,List.getElem?_replicate,if_pos (by omega),List.getD_eq_getElem?_getD,List.getElem?_eq_none h3];rfl
  refine ⟨by rw [List.getD_eq_getElem?_getD,key];rfl,fun h2=>?_⟩
  rw [List.getElem?_eq_getElem h2] at key;exact Option.some.inj key
theorem wide_ln {l : List Rat} {M : Nat} : (wideF l M).length = M:=by unfold wideF;simp;omega
theorem plP_0 {n m : Nat} {l k : List Rat} : plP n m l k 0 = (wideF l (max l.length k.length)).map fun x=>(n,x):=by
  refine List.ext_getElem (by simp [plP,wide_ln]) fun i h1 h2=>?_
  have hi : i < max l.length k.length:=by simpa [plP] using h1
  simp only [plP,List.getElem_map,List.getElem_range]
  rw [if_neg (by omega),(wide_get hi).2]
theorem plP_s {n m : Nat} {l k : List Rat} {j : Nat} (h : j < max l.length k.length) : (plP n m l k j).set j (((plP n m l k j).getD j default).1 + m + 1,((plP n m l k j).getD j default).2 + (wideF k (max l.length k.length)).getD j default) = plP n m l k (j + 1):=by
  have e0 : (plP n m l k j).getD j default = (n,cf l j):=by
    rw [List.getD_eq_getElem?_getD,List.getElem?_eq_getElem (by rw [plP_len];exact h)]
    simp [plP]
  rw [e0,(wide_get h).1]
  refine List.ext_getElem (by simp [plP]) fun i h1 h2=>?_
  simp only [plP,List.getElem_set,List.getElem_map,List.getElem_range]
  by_cases e : j = i
  · subst e;rw [if_pos rfl,if_pos (Nat.lt_succ_self j)]
  · rw [if_neg e]
    by_cases h3 : i < j
    · rw [if_pos h3,if_pos (by omega)]
    · rw [if_neg h3,if_neg (by omega)]
theorem plP_g {n m : Nat} {l k : List Rat} {j : Nat} (h : j < max l.length k.length) : ((plP n m l k j).getD j default).1 = n:=by
  rw [List.getD_eq_getElem?_getD,List.getElem?_eq_getElem (by rw [plP_len];exact h)]
  simp [plP]
theorem plP_e {n m : Nat} {l k : List Rat} {j : Nat} (h : max l.length k.length ≤ j) : (plP n m l k j).map Prod.snd = plusF l k ∧ ∀ p ∈ plP n m l k j,p.1 ≤ n + m + 1:=by
  constructor
  · refine List.ext_getElem (by simp [plP,plusF]) fun i h1 h2=>?_
    have hi : i < max l.length k.length:=by simpa [plP] using h1
    simp only [plP,plusF,List.getElem_map,List.getElem_range]
    rw [if_pos (by omega)]
  · intro p hp
    unfold plP at hp
    obtain ⟨i,_,rfl⟩:=List.mem_map.1 hp
    split <;> simp <;> omega
instance {α : Type} {T : α → MT} {l : List α} : Con Tryz.prog 131 [LS (some 3) (l.map T)] (True) (IT (levI l.length)):=.o1 fun hok h1 hp=>by
  refine St.enter (N:=17) Tryz.func131 rfl rfl rfl hok (enter1 h1) fun a=>?_
  have hlim:=LS.lenM h1
  simp only [LIM] at hlim
  repeat' (first|((with_reducible refine gS_ ?_);first|((with_reducible refine gL_ ?_);first|refine W.run ?_ fun a w G=>?_|refine W.mv fun a w G=>?_|refine W.asg fun a w G=>?_|refine W.bx fun b a w G=>?_|(refine W.nn hK ?_;clear hK K)|refine W.nl ?_|refine W.al fun b a w G=>?_|refine W.st fun w=>?_|refine W.stp fun w=>?_|refine W.ste ?_ fun w=>?_)|((with_reducible refine gC_ ?_);first|refine W.reg fun K hK=>?_|refine W.reg1 ?_|refine W.sq fun K hK=>?_|refine W.ds ?_ (fun β a w G hu=>W.fin ?_ hu) mixedOrders (by kernel_rfl)|refine W.sk ?_|refine W.cd (fun hc=>?_) (fun hc=>?_)|refine W.cb (fun hc=>?_) (fun hc=>?_)|refine W.bl ?_|refine W.ex ?_|refine W.rt ?_)|((with_reducible refine W.kn hK ?_);clear hK K)|(with_reducible first|refine W.bn ?_|refine W.xt ?_|refine W.xb ?_|refine W.xo ?_|refine W.tr ?_|refine W.br ?_)|refine W.rt1 rfl ?_|refine W.rt2 rfl ?_ ?_|refine W.rt3 rfl ?_ ?_ ?_)|refine W.lp 4 (α:=Nat) (fun j=>l.length - 2 ^ j) (fun j=>∀ i,i < j → 2 ^ i < l.length) [3,4,5,6,7,8,9,10] (fun j=>[(3,NT j)]) (fun j=>[]) (0) ?_ ?_ ?_ fun j hj a w G=>?_|refine W.ag (x:=j) (j+1) ?_ ?_ ?_ ?_|clear hK K|clear hu|exact True.intro|exact Nat.le_trans (by clear hp;omega) hp|exact Nat.le_trans (by clear hp;omega) hp.1|exact Nat.le_trans (by clear hp;omega) hp.2|(clear hp;omega)|apply And.intro|refine GI.i fun _=>?_|with_reducible rfl|decide|(simp only [List.length_cons,List.length_nil];omega))
  all_goals (obtain ⟨hl,hl2⟩:=lev_le hj hlim;have e2 : 2 ^ (j + 1) = 2 * 2 ^ j:=by rw [Nat.pow_succ,Nat.mul_comm])
  all_goals have hpj:=Nat.two_pow_pos j
  all_goals first
    | omega
    | exact fun i hi=>lev_lt hj (by omega) i hi
    | exact (levI_n hj (by omega) (by omega)).symm
    | exact (levI_y (by omega)).symm
theorem w195 {n : Nat} {l : List Rat} : Con Tryz.prog 195 [NM n l] (n ≤ BIG) (BT (zeroF l)):=.o1 fun hok h1 hp=>by
  refine St.enter (N:=15) Tryz.func195 rfl rfl rfl hok (enter1 h1) fun a=>?_
  have hlim:=LS.lenM h1
  simp only [LIM] at hlim
  repeat' (first|((with_reducible refine gS_ ?_);first|((with_reducible refine gL_ ?_);first|refine W.run ?_ fun a w G=>?_|refine W.mv fun a w G=>?_|refine W.asg fun a w G=>?_|refine W.bx fun b a w G=>?_|(refine W.nn hK ?_;clear hK K)|refine W.nl ?_|refine W.al fun b a w G=>?_|refine W.st fun w=>?_|refine W.stp fun w=>?_|refine W.ste ?_ fun w=>?_)|((with_reducible refine gC_ ?_);first|refine W.reg fun K hK=>?_|refine W.reg1 ?_|refine W.sq fun K hK=>?_|refine W.ds ?_ (fun β a w G hu=>W.fin ?_ hu) mixedOrders (by kernel_rfl)|refine W.sk ?_|refine W.cd (fun hc=>?_) (fun hc=>?_)|refine W.cb (fun hc=>?_) (fun hc=>?_)|refine W.bl ?_|refine W.ex ?_|refine W.rt ?_)|((with_reducible refine W.kn hK ?_);clear hK K)|(with_reducible first|refine W.bn ?_|refine W.xt ?_|refine W.xb ?_|refine W.xo ?_|refine W.tr ?_|refine W.br ?_)|refine W.rt1 rfl ?_|refine W.rt2 rfl ?_ ?_|refine W.rt3 rfl ?_ ?_ ?_)|refine W.lp 8 (α:=Nat) (fun j=>l.length - j) (fun j=>j ≤ l.length ∧ zeroF (l.take j) = true) [2,4,7,8,9,10,11,12,13,14] (fun j=>[(7,NT j)]) (fun j=>[]) (0) ?_ ?_ ?_ fun j hj a w G=>?_|refine W.ag (x:=j) (j+1) ?_ ?_ ?_ ?_|clear hK K|clear hu|exact True.intro|exact Nat.le_trans (by clear hp;omega) hp|exact Nat.le_trans (by clear hp;omega) hp.1|exact Nat.le_trans (by clear hp;omega) hp.2|(clear hp;omega)|apply And.intro|refine GI.i fun _=>?_|with_reducible rfl|decide|(simp only [List.length_cons,List.length_nil];omega))
  all_goals first
    | (simp [zeroF];done)
    | exact (all_not (p:=fun x : Rat=>decide (x.num.sign = 0)) (show j < l.length by omega) (by first | simpa using hc | (rw [emp_z] at hc;simpa using hc))).symm
    | exact all_snoc (p:=fun x : Rat=>decide (x.num.sign = 0)) (show j < l.length by omega) hj.2 (by first | simpa using hc | (rw [emp_z] at hc;simpa using hc))
    | exact (all_end (p:=fun x : Rat=>decide (x.num.sign = 0)) (by omega) hj.2).symm
instance {n : Nat} {l : List Rat} {τ1 : MT} [j1 : NU τ1 (NM n l)] : Con Tryz.prog 195 [τ1] (n ≤ BIG) (BT (zeroF l)):=.o1 fun hok h1 hp=>w195.c1 hok (j1.h h1) hp
theorem w133 {n : Nat} {l : List Rat} : Con Tryz.prog 133 [NM n l] (n ≤ BIG) (BT (zeroF l)):=.o1 fun hok h1 hp=>by
  refine St.enter (N:=26) Tryz.func133 rfl rfl rfl hok (enter1 h1) fun a=>?_
  have hlim:=LS.lenM h1
  simp only [LIM] at hlim
  repeat' (first|((with_reducible refine gS_ ?_);first|((with_reducible refine gL_ ?_);first|refine W.run ?_ fun a w G=>?_|refine W.mv fun a w G=>?_|refine W.asg fun a w G=>?_|refine W.bx fun b a w G=>?_|(refine W.nn hK ?_;clear hK K)|refine W.nl ?_|refine W.al fun b a w G=>?_|refine W.st fun w=>?_|refine W.stp fun w=>?_|refine W.ste ?_ fun w=>?_)|((with_reducible refine gC_ ?_);first|refine W.reg fun K hK=>?_|refine W.reg1 ?_|refine W.sq fun K hK=>?_|refine W.ds ?_ (fun β a w G hu=>W.fin ?_ hu) mixedOrders (by kernel_rfl)|refine W.sk ?_|refine W.cd (fun hc=>?_) (fun hc=>?_)|refine W.cb (fun hc=>?_) (fun hc=>?_)|refine W.bl ?_|refine W.ex ?_|refine W.rt ?_)|((with_reducible refine W.kn hK ?_);clear hK K)|(with_reducible first|refine W.bn ?_|refine W.xt ?_|refine W.xb ?_|refine W.xo ?_|refine W.tr ?_|refine W.br ?_)|refine W.rt1 rfl ?_|refine W.rt2 rfl ?_ ?_|refine W.rt3 rfl ?_ ?_ ?_)|refine W.lp 8 (α:=Nat) (fun j=>l.length - j) (fun j=>j ≤ l.length ∧ zeroF (l.take j) = true) [2,4,7,8,9,10,11,12,13,14,15,16,17,18,19,20,21,22,23,24,25] (fun j=>[(7,NT j)]) (fun j=>[]) (0) ?_ ?_ ?_ fun j hj a w G=>?_|refine W.ag (x:=j) (j+1) ?_ ?_ ?_ ?_|clear hK K|clear hu|exact True.intro|exact Nat.le_trans (by clear hp;omega) hp|exact Nat.le_trans (by clear hp;omega) hp.1|exact Nat.le_trans (by clear hp;omega) hp.2|(clear hp;omega)|apply And.intro|refine GI.i fun _=>?_|with_reducible rfl|decide|(simp only [List.length_cons,List.length_nil];omega))
  all_goals first
    | (simp [zeroF];done)
    | exact (all_not (p:=fun x : Rat=>decide (x.num.sign = 0)) (show j < l.length by omega) (by first | simpa using hc | (rw [emp_z] at hc;simpa using hc))).symm
    | exact all_snoc (p:=fun x : Rat=>decide (x.num.sign = 0)) (show j < l.length by omega) hj.2 (by first | simpa using hc | (rw [emp_z] at hc;simpa using hc))
    | exact (all_end (p:=fun x : Rat=>decide (x.num.sign = 0)) (by omega) hj.2).symm
instance {n : Nat} {l : List Rat} {τ1 : MT} [j1 : NU τ1 (NM n l)] : Con Tryz.prog 133 [τ1] (n ≤ BIG) (BT (zeroF l)):=.o1 fun hok h1 hp=>w133.c1 hok (j1.h h1) hp
theorem w135 {n m : Nat} {l : List Rat} : ConO Tryz.prog 135 [NM n l,NT m] (1 ≤ n ∧ n ≤ BIG ∧ m ≤ 64) (some 3) 24 (QC n) (wideF l m):=.o2 fun hok h1 h2 hp=>by
  obtain ⟨n,rfl⟩ : ∃ k,n = k + 1:=⟨n - 1,by omega⟩
  refine St.enter (N:=12) Tryz.func135 rfl rfl rfl hok (enter2 h1 h2) fun a=>?_
  have own7 : OwnAt 7:=⟨⟩
  have own10 : OwnAt 10:=⟨⟩
  repeat' (first|((with_reducible refine gS_ ?_);first|((with_reducible refine gL_ ?_);first|refine W.run ?_ fun a w G=>?_|refine W.mv fun a w G=>?_|refine W.asg fun a w G=>?_|refine W.bx fun b a w G=>?_|(refine W.nn hK ?_;clear hK K)|refine W.nl ?_|refine W.al fun b a w G=>?_|refine W.st fun w=>?_|refine W.stp fun w=>?_|refine W.ste ?_ fun w=>?_)|((with_reducible refine gC_ ?_);first|refine W.reg fun K hK=>?_|refine W.reg1 ?_|refine W.sq fun K hK=>?_|refine W.ds ?_ (fun β a w G hu=>W.fin ?_ hu) mixedOrders (by kernel_rfl)|refine W.sk ?_|refine W.cd (fun hc=>?_) (fun hc=>?_)|refine W.cb (fun hc=>?_) (fun hc=>?_)|refine W.bl ?_|refine W.ex ?_|refine W.rt ?_)|((with_reducible refine W.kn hK ?_);clear hK K)|(with_reducible first|refine W.bn ?_|refine W.xt ?_|refine W.xb ?_|refine W.xo ?_|refine W.tr ?_|refine W.br ?_)|refine W.rt1 rfl ?_|refine W.rt2 rfl ?_ ?_|refine W.rt3 rfl ?_ ?_ ?_)|refine W.mk (mt:=FX 1 default) (QC (n+1)) (0:Rat) ?_ fun b a w G=>?_|refine W.cp ?_ fun a w G=>?_|refine W.rto 4 rfl ?_|clear hK K|clear hu|exact True.intro|exact Nat.le_trans (by clear hp;omega) hp|exact Nat.le_trans (by clear hp;omega) hp.1|exact Nat.le_trans (by clear hp;omega) hp.2|(clear hp;omega)|apply And.intro|refine GI.i fun _=>?_|with_reducible rfl|decide|(simp only [List.length_cons,List.length_nil];omega))
  all_goals first | omega | rfl | (simp;done) | exact wide_ln.symm
instance {n m : Nat} {l : List Rat} {τ1 : MT} [j1 : NU τ1 (NM n l)] : ConO Tryz.prog 135 [τ1,NT m] (1 ≤ n ∧ n ≤ BIG ∧ m ≤ 64) (some 3) 24 (QC n) (wideF l m):=.o2 fun hok h1 h2 hp=>w135.c2 hok (j1.h h1) h2 hp
theorem w86 {n : Nat} {l : List Rat} : Con Tryz.prog 86 [NM n l] (1 ≤ n ∧ n ≤ BIG ∧ l.length ≤ 64) (NM n (minusF l)):=.o1 fun hok h1 hp=>by
  obtain ⟨n,rfl⟩ : ∃ k,n = k + 1:=⟨n - 1,by omega⟩
  refine St.enter (N:=23) Tryz.func86 rfl rfl rfl hok (enter1 h1) fun a=>?_
  have own7 : OwnAt 7:=⟨⟩
  repeat' (first|((with_reducible refine gS_ ?_);first|((with_reducible refine gL_ ?_);first|refine W.run ?_ fun a w G=>?_|refine W.mv fun a w G=>?_|refine W.asg fun a w G=>?_|refine W.bx fun b a w G=>?_|(refine W.nn hK ?_;clear hK K)|refine W.nl ?_|refine W.al fun b a w G=>?_|refine W.st fun w=>?_|refine W.stp fun w=>?_|refine W.ste ?_ fun w=>?_)|((with_reducible refine gC_ ?_);first|refine W.reg fun K hK=>?_|refine W.reg1 ?_|refine W.sq fun K hK=>?_|refine W.ds ?_ (fun β a w G hu=>W.fin ?_ hu) mixedOrders (by kernel_rfl)|refine W.sk ?_|refine W.cd (fun hc=>?_) (fun hc=>?_)|refine W.cb (fun hc=>?_) (fun hc=>?_)|refine W.bl ?_|refine W.ex ?_|refine W.rt ?_)|((with_reducible refine W.kn hK ?_);clear hK K)|(with_reducible first|refine W.bn ?_|refine W.xt ?_|refine W.xb ?_|refine W.xo ?_|refine W.tr ?_|refine W.br ?_)|refine W.rt1 rfl ?_|refine W.rt2 rfl ?_ ?_|refine W.rt3 rfl ?_ ?_ ?_)|refine W.mk (mt:=FX 1 default) (QC (n+1)) (0:Rat) ?_ fun b a w G=>?_|refine W.fz 2 ?_ fun G=>?_|refine W.lp 11 (α:=Nat) (fun j=>l.length - j) (fun j=>j ≤ l.length) [4,10,11,12,13,14,15,16,17,18,19,20,21] (fun j=>[(10,NT j)]) (fun j=>[(3,ROWS (some 3) ((mnP l j).map (QC (n+1))))]) (0) ?_ ?_ ?_ fun j hj a w G=>?_|refine W.ag (x:=j) (j+1) ?_ ?_ ?_ ?_|clear hK K|clear hu|exact True.intro|exact Nat.le_trans (by clear hp;omega) hp|exact Nat.le_trans (by clear hp;omega) hp.1|exact Nat.le_trans (by clear hp;omega) hp.2|(clear hp;omega)|apply And.intro|refine GI.i fun _=>?_|with_reducible rfl|decide|(simp only [List.length_cons,List.length_nil];omega))
  all_goals (try simp only [mnP_len] at *)
  all_goals first
    | omega
    | (simp only [LIM];omega)
    | exact mnP_0
    | exact mnP_s (by omega)
    | exact mnP_e (by omega)
instance {n : Nat} {l : List Rat} {τ1 : MT} [j1 : NU τ1 (NM n l)] : Con Tryz.prog 86 [τ1] (1 ≤ n ∧ n ≤ BIG ∧ l.length ≤ 64) (NM n (minusF l)):=.o1 fun hok h1 hp=>w86.c1 hok (j1.h h1) hp
theorem w88 {n m : Nat} {l k : List Rat} : Con Tryz.prog 88 [NM n l,NM m k] (1 ≤ n ∧ 1 ≤ m ∧ n + m + 1 ≤ BIG ∧ l.length ≤ 64 ∧ k.length ≤ 64) (NM (n + m + 1) (plusF l k)):=.o2 fun hok h1 h2 hp=>by
  refine St.enter (N:=37) Tryz.func88 rfl rfl rfl hok (enter2 h1 h2) fun a=>?_
  have own14 : OwnAt 14:=⟨⟩
  have own17 : OwnAt 17:=⟨⟩
  repeat' (first|((with_reducible refine gS_ ?_);first|((with_reducible refine gL_ ?_);first|refine W.run ?_ fun a w G=>?_|refine W.mv fun a w G=>?_|refine W.asg fun a w G=>?_|refine W.bx fun b a w G=>?_|(refine W.nn hK ?_;clear hK K)|refine W.nl ?_|refine W.al fun b a w G=>?_|refine W.st fun w=>?_|refine W.stp fun w=>?_|refine W.ste ?_ fun w=>?_)|((with_reducible refine gC_ ?_);first|refine W.reg fun K hK=>?_|refine W.reg1 ?_|refine W.sq fun K hK=>?_|refine W.ds ?_ (fun β a w G hu=>W.fin ?_ hu) mixedOrders (by kernel_rfl)|refine W.sk ?_|refine W.cd (fun hc=>?_) (fun hc=>?_)|refine W.cb (fun hc=>?_) (fun hc=>?_)|refine W.bl ?_|refine W.ex ?_|refine W.rt ?_)|((with_reducible refine W.kn hK ?_);clear hK K)|(with_reducible first|refine W.bn ?_|refine W.xt ?_|refine W.xb ?_|refine W.xo ?_|refine W.tr ?_|refine W.br ?_)|refine W.rt1 rfl ?_|refine W.rt2 rfl ?_ ?_|refine W.rt3 rfl ?_ ?_ ?_)|refine W.co ?_ fun b c a w G hle=>?_|refine W.fz 1 ?_ fun G=>?_|refine W.fz 4 ?_ fun G=>?_|refine W.lp 21 (α:=Nat) (fun j=>max l.length k.length - j) (fun j=>j ≤ max l.length k.length) [6,20,21,22,23,24,25,26,27,28,29,30,31,32,33,34,35] (fun j=>[(20,NT j)]) (fun j=>[(0,ROWS (some 3) ((plP n m l k j).map QP))]) (0) ?_ ?_ ?_ fun j hj a w G=>?_|refine W.ag (x:=j) (j+1) ?_ ?_ ?_ ?_|clear hK K|clear hu|exact True.intro|exact Nat.le_trans (by clear hp;omega) hp|exact Nat.le_trans (by clear hp;omega) hp.1|exact Nat.le_trans (by clear hp;omega) hp.2|(clear hp;omega)|apply And.intro|refine GI.i fun _=>?_|with_reducible rfl|decide|(simp only [List.length_cons,List.length_nil];omega))
  all_goals (try simp only [wide_ln,plP_len] at *)
  all_goals first
    | omega
    | (simp only [LIM];omega)
    | exact plP_0
    | (rw [plP_g (by omega)];omega)
    | exact plP_s (by omega)
    | exact (plP_e (by omega)).1
    | exact (plP_e (by omega)).2
instance {n m : Nat} {l k : List Rat} {τ1 : MT} [j1 : NU τ1 (NM n l)] {τ2 : MT} [j2 : NU τ2 (NM m k)] : Con Tryz.prog 88 [τ1,τ2] (1 ≤ n ∧ 1 ≤ m ∧ n + m + 1 ≤ BIG ∧ l.length ≤ 64 ∧ k.length ≤ 64) (NM (n + m + 1) (plusF l k)):=.o2 fun hok h1 h2 hp=>w88.c2 hok (j1.h h1) (j2.h h2) hp
theorem w196 {n m q : Nat} {l k : List Rat} : Con Tryz.prog 196 [NM n l,NM m k,NT q] (1 ≤ n ∧ 1 ≤ m ∧ n ≤ BIG ∧ m ≤ BIG ∧ 1 ≤ q ∧ q ≤ 32) (NM (max n m) (joinF l k q)):=.o3 fun hok h1 h2 h3 hp=>by
  refine St.enter (N:=14) Tryz.func196 rfl rfl rfl hok (enter3 h1 h2 h3) fun a=>?_
  have own9 : OwnAt 9:=⟨⟩
  have own12 : OwnAt 12:=⟨⟩
  have own13 : OwnAt 13:=⟨⟩
  repeat' (first|((with_reducible refine gS_ ?_);first|((with_reducible refine gL_ ?_);first|refine W.run ?_ fun a w G=>?_|refine W.mv fun a w G=>?_|refine W.asg fun a w G=>?_|refine W.bx fun b a w G=>?_|(refine W.nn hK ?_;clear hK K)|refine W.nl ?_|refine W.al fun b a w G=>?_|refine W.st fun w=>?_|refine W.stp fun w=>?_|refine W.ste ?_ fun w=>?_)|((with_reducible refine gC_ ?_);first|refine W.reg fun K hK=>?_|refine W.reg1 ?_|refine W.sq fun K hK=>?_|refine W.ds ?_ (fun β a w G hu=>W.fin ?_ hu) mixedOrders (by kernel_rfl)|refine W.sk ?_|refine W.cd (fun hc=>?_) (fun hc=>?_)|refine W.cb (fun hc=>?_) (fun hc=>?_)|refine W.bl ?_|refine W.ex ?_|refine W.rt ?_)|((with_reducible refine W.kn hK ?_);clear hK K)|(with_reducible first|refine W.bn ?_|refine W.xt ?_|refine W.xb ?_|refine W.xo ?_|refine W.tr ?_|refine W.br ?_)|refine W.rt1 rfl ?_|refine W.rt2 rfl ?_ ?_|refine W.rt3 rfl ?_ ?_ ?_)|refine W.co ?_ fun b c a w G hle=>?_|refine W.fz 12 ?_ fun G=>?_|refine W.cast (t:=12) (τ:=NM m (wideF k q)) (τ':=NM (max n m) (wideF k q)) (fun h=>NM.up h (Nat.le_max_right _ _)) ?_|refine W.casth (τ':=ROWS (some 3) ((wideF l q).map (QC (max n m)))) (fun h=>ROWS.upq (k:=some 3) (l:=wideF l q) (n:=n) (m:=max n m) h (Nat.le_max_left _ _)) ?_|refine W.ap (mt:=FX 1 default) (T:=QC (max n m)) (xs:=wideF l q) (OWNS.ofb (by assumption)) ?_ fun V own a w G hO=>?_|refine W.fzo (T:=QC (max n m)) 6 hO ?_ fun G=>?_|clear hK K|clear hu|exact True.intro|exact Nat.le_trans (by clear hp;omega) hp|exact Nat.le_trans (by clear hp;omega) hp.1|exact Nat.le_trans (by clear hp;omega) hp.2|(clear hp;omega)|apply And.intro|refine GI.i fun _=>?_|with_reducible rfl|decide|(simp only [List.length_cons,List.length_nil];omega))
  all_goals (try simp only [wide_ln,List.length_append] at *)
  all_goals first
    | omega
    | (simp only [LIM];omega)
    | rfl
instance {n m q : Nat} {l k : List Rat} {τ1 : MT} [j1 : NU τ1 (NM n l)] {τ2 : MT} [j2 : NU τ2 (NM m k)] : Con Tryz.prog 196 [τ1,τ2,NT q] (1 ≤ n ∧ 1 ≤ m ∧ n ≤ BIG ∧ m ≤ BIG ∧ 1 ≤ q ∧ q ≤ 32) (NM (max n m) (joinF l k q)):=.o3 fun hok h1 h2 h3 hp=>w196.c3 hok (j1.h h1) (j2.h h2) h3 hp
theorem take_snoc {l : List Rat} {j : Nat} (h : j < l.length) : l.take (j + 1) = l.take j ++ [l.getD j default]:=by
  rw [List.take_add_one,List.getElem?_eq_getElem h,List.getD_eq_getElem?_getD,List.getElem?_eq_getElem h];rfl
theorem w132 {n : Nat} {l : List Rat} : Con Tryz.prog 132 [NM n l] (n ≤ BIG ∧ l.length ≤ 64) (NM n l):=.o1 fun hok h1 hp=>by
  refine St.enter (N:=28) Tryz.func132 rfl rfl rfl hok (enter1 h1) fun a=>?_
  have hlim:=LS.lenM h1
  simp only [LIM] at hlim
  have own25 : OwnAt 25:=⟨⟩
  repeat' (first|((with_reducible refine gS_ ?_);first|((with_reducible refine gL_ ?_);first|refine W.run ?_ fun a w G=>?_|refine W.mv fun a w G=>?_|refine W.asg fun a w G=>?_|refine W.bx fun b a w G=>?_|(refine W.nn hK ?_;clear hK K)|refine W.nl ?_|refine W.al fun b a w G=>?_|refine W.st fun w=>?_|refine W.stp fun w=>?_|refine W.ste ?_ fun w=>?_)|((with_reducible refine gC_ ?_);first|refine W.reg fun K hK=>?_|refine W.reg1 ?_|refine W.sq fun K hK=>?_|refine W.ds ?_ (fun β a w G hu=>W.fin ?_ hu) mixedOrders (by kernel_rfl)|refine W.sk ?_|refine W.cd (fun hc=>?_) (fun hc=>?_)|refine W.cb (fun hc=>?_) (fun hc=>?_)|refine W.bl ?_|refine W.ex ?_|refine W.rt ?_)|((with_reducible refine W.kn hK ?_);clear hK K)|(with_reducible first|refine W.bn ?_|refine W.xt ?_|refine W.xb ?_|refine W.xo ?_|refine W.tr ?_|refine W.br ?_)|refine W.rt1 rfl ?_|refine W.rt2 rfl ?_ ?_|refine W.rt3 rfl ?_ ?_ ?_)|refine W.lpo 9 (OWNS.nil (k:=some 3) (e:=24)) (T:=QC n) (xs0:=[]) (fun j=>l.length - j) (fun j=>j ≤ l.length) (fun j=>l.take j) [3,8,9] (fun j V=>[(8,NT j),(3,.ex V)]) (fun j=>[]) 0 ?_ ?_ ?_ ?_ fun j hj V own a w G hO=>?_|refine W.ds ?_ (fun β a w G hu=>W.fing ?_) mixedOrders (by kernel_rfl)|refine W.ap (mt:=FX 1 default) (T:=QC n) hO ?_ fun V own a w G hO=>?_|refine W.ago (K:=fun _ _=>True) (T:=QC n) hO (x:=j) (j+1) ?_ ?_ ?_ ?_ ?_|refine W.fzo (T:=QC n) 2 hO ?_ fun G=>?_|clear hK K|clear hu|exact True.intro|exact Nat.le_trans (by clear hp;omega) hp|exact Nat.le_trans (by clear hp;omega) hp.1|exact Nat.le_trans (by clear hp;omega) hp.2|(clear hp;omega)|apply And.intro|refine GI.i fun _=>?_|with_reducible rfl|decide|(simp only [List.length_cons,List.length_nil];omega))
  all_goals (try simp only [List.length_take,List.length_append,List.length_cons,List.length_nil,LIM] at *)
  all_goals first
    | rfl
    | omega
    | exact List.take_of_length_le (by omega)
    | exact (take_snoc (by omega)).symm
    | exact take_snoc (by omega)
instance {n : Nat} {l : List Rat} {τ1 : MT} [j1 : NU τ1 (NM n l)] : Con Tryz.prog 132 [τ1] (n ≤ BIG ∧ l.length ≤ 64) (NM n l):=.o1 fun hok h1 hp=>w132.c1 hok (j1.h h1) hp
theorem sho_g {l : List Rat} (hc : (decide (((l.length : Nat) : Int) > 0) && (decide (levI l.length < 0) || decide (levI l.length > 5))) = true) : l = shoF l:=by
  simp only [Bool.and_eq_true,Bool.or_eq_true,decide_eq_true_eq] at hc
  unfold shoF;rw [if_pos ⟨by omega,by omega⟩]
theorem sho_ng {l : List Rat} (hc : (decide (((l.length : Nat) : Int) > 0) && (decide (levI l.length < 0) || decide (levI l.length > 5))) = false) : ¬ (0 < l.length ∧ (levI l.length < 0 ∨ 5 < levI l.length)):=fun e=>by
  rw [decide_eq_true (show ((l.length : Nat) : Int) > 0 by omega),Bool.true_and,Bool.or_eq_false_iff,decide_eq_false_iff_not,decide_eq_false_iff_not] at hc
  omega
theorem sho_go {l : List Rat} {q : Nat} (hc : (decide (((q : Nat) : Int) > 1) && zeroF (List.drop (q / 2) (List.take q l))) = true) : q / 2 < q ∧ shL l q = shL l (q / 2):=by
  simp only [Bool.and_eq_true,decide_eq_true_eq] at hc
  exact ⟨by omega,shL_go (by omega) hc.2⟩
theorem sho_q {l : List Rat} {q : Nat} (hq : shL l q = shL l l.length) (hc : (decide (((q : Nat) : Int) > 1) && zeroF (List.drop (q / 2) (List.take q l))) = false) : shL l l.length = q:=by
  rw [← hq]
  refine shL_end fun e=>?_
  rw [decide_eq_true (show ((q : Nat) : Int) > 1 by omega),Bool.true_and,e.2] at hc
  cases hc
theorem sho_n {l : List Rat} {q : Nat} (h0 : (decide (((l.length : Nat) : Int) > 0) && (decide (levI l.length < 0) || decide (levI l.length > 5))) = false) (hq : shL l q = shL l l.length) (hc : (decide (((q : Nat) : Int) > 1) && zeroF (List.drop (q / 2) (List.take q l))) = false)
    (h1 : (decide (((q : Nat) : Int) = 1) && zeroF (List.take 1 l)) = true) : shoF l = []:=by
  simp only [Bool.and_eq_true,decide_eq_true_eq] at h1
  unfold shoF;rw [if_neg (sho_ng h0),sho_q hq hc,if_pos ⟨by omega,h1.2⟩]
theorem sho_t {l : List Rat} {q : Nat} (h0 : (decide (((l.length : Nat) : Int) > 0) && (decide (levI l.length < 0) || decide (levI l.length > 5))) = false) (hq : shL l q = shL l l.length) (hc : (decide (((q : Nat) : Int) > 1) && zeroF (List.drop (q / 2) (List.take q l))) = false)
    (h1 : (decide (((q : Nat) : Int) = 1) && zeroF (List.take 1 l)) = false) : List.take q l = shoF l:=by
  unfold shoF;rw [if_neg (sho_ng h0),sho_q hq hc,if_neg fun e=>by rw [decide_eq_true (show ((q : Nat) : Int) = 1 by omega),Bool.true_and,e.2] at h1;cases h1]
theorem w85 {n : Nat} {l : List Rat} : Con Tryz.prog 85 [NM n l] (n ≤ BIG ∧ l.length ≤ 64) (NM n (shoF l)):=.o1 fun hok h1 hp=>by
  refine St.enter (N:=45) Tryz.func85 rfl rfl rfl hok (enter1 h1) fun a=>?_
  have hlim:=LS.lenM h1
  simp only [LIM] at hlim
  repeat' (first|((with_reducible refine gS_ ?_);first|((with_reducible refine gL_ ?_);first|refine W.run ?_ fun a w G=>?_|refine W.mv fun a w G=>?_|refine W.asg fun a w G=>?_|refine W.bx fun b a w G=>?_|(refine W.nn hK ?_;clear hK K)|refine W.nl ?_|refine W.al fun b a w G=>?_|refine W.st fun w=>?_|refine W.stp fun w=>?_|refine W.ste ?_ fun w=>?_)|((with_reducible refine gC_ ?_);first|refine W.reg fun K hK=>?_|refine W.reg1 ?_|refine W.sq fun K hK=>?_|refine W.ds ?_ (fun β a w G hu=>W.fin ?_ hu) mixedOrders (by kernel_rfl)|refine W.sk ?_|refine W.cd (fun hc=>?_) (fun hc=>?_)|refine W.cb (fun hc=>?_) (fun hc=>?_)|refine W.bl ?_|refine W.ex ?_|refine W.rt ?_)|((with_reducible refine W.kn hK ?_);clear hK K)|(with_reducible first|refine W.bn ?_|refine W.xt ?_|refine W.xb ?_|refine W.xo ?_|refine W.tr ?_|refine W.br ?_)|refine W.rt1 rfl ?_|refine W.rt2 rfl ?_ ?_|refine W.rt3 rfl ?_ ?_ ?_)|refine W.lp 22 (α:=Nat) (fun q=>q) (fun q=>q ≤ l.length ∧ shL l q = shL l l.length) [4,22,23,24,25,26,27,28,29,30,31,32,33] (fun q=>[(4,NT q)]) (fun q=>[]) (l.length) ?_ ?_ ?_ fun q hq a w G=>?_|refine W.ag (x:=q) (q / 2) ?_ ?_ ?_ ?_|clear hK K|clear hu|exact True.intro|exact Nat.le_trans (by clear hp;omega) hp|exact Nat.le_trans (by clear hp;omega) hp.1|exact Nat.le_trans (by clear hp;omega) hp.2|(clear hp;omega)|apply And.intro|refine GI.i fun _=>?_|with_reducible rfl|decide|(simp only [List.length_cons,List.length_nil];omega))
  all_goals first
    | omega
    | exact sho_g (by assumption)
    | exact (sho_go (by assumption)).1
    | (rw [← (sho_go (by assumption)).2];exact hq.2)
    | exact sho_n (by assumption) hq.2 (by assumption) (by assumption)
    | exact sho_t (by assumption) hq.2 (by assumption) (by assumption)
    | (rw [List.length_take];omega)
    | (have h1 : decide (((q : Nat) : Int) = 1) = true := by assumption
       simp only [decide_eq_true_eq] at h1;omega)
instance {n : Nat} {l : List Rat} {τ1 : MT} [j1 : NU τ1 (NM n l)] : Con Tryz.prog 85 [τ1] (n ≤ BIG ∧ l.length ≤ 64) (NM n (shoF l)):=.o1 fun hok h1 hp=>w85.c1 hok (j1.h h1) hp
end Go.Proofs.YtnjbcjmkkejfpaaGreatDoor
set_option linter.unusedVariables false
set_option linter.unusedSimpArgs false
set_option maxHeartbeats 4000000
set_option maxRecDepth 100000
set_option synthInstance.maxSize 100000
set_option synthInstance.maxHeartbeats 400000
namespace Go.Proofs.YtnjbcjmkkejfpaaGreatDoor
open Go.RowKit (Below)
attribute [local irreducible] Go.Code.wp Go.wpList Go.bodyPost
attribute [local irreducible] plusF minusF joinF levI lev PW RLN
theorem PW.l32 {k : Nat} {l : List Rat} (h : PW k l) (hk : k ≤ 5) : l.length ≤ 32:=Nat.le_trans h.le (Nat.le_trans (Nat.pow_le_pow_right (by decide) hk) (by decide))
theorem nz_pos {l : List Rat} (h : zeroF l = false) : 0 < l.length:=by
  rcases Nat.eq_zero_or_pos l.length with e | e
  · rw [List.length_eq_zero_iff.1 e] at h;cases h
  · exact e
theorem PW.d0 {k : Nat} {l : List Rat} (h : PW k l) (hz : zeroF l = false) (h1 : ¬ l.length = 1) : ∃ j,j < k ∧ l.length = 2 ^ (j + 1) ∧ l.length / 2 = 2 ^ j ∧ (l.take (2 ^ j)).length = 2 ^ j ∧ (l.drop (2 ^ j)).length = 2 ^ j:=h.half (by rw [hz];decide) h1
theorem lv_facts {rs : List (List Rat)} {K : Nat} {l : List Rat} (hr : RLN rs) (hK : K ≤ rs.length) {j : Nat} (hj : j < K) (hl : l.length = 2 ^ (j + 1)) :
    0 ≤ levI l.length - 1 ∧ levI l.length - 1 < (rs.length : Int) ∧ levI l.length - 1 ≤ 9223372036854775807 - 9223372036854775700 + rs.length ∧ rs.getD (levI l.length - 1).toNat default = rs.getD (lev l.length - 1) [] ∧ rs.getD (lev l.length - 1) [] = rs.getD j []:=by
  rw [hl,levI_pow,lev_pow]
  have e : (((j + 1 : Nat) : Int) - 1).toNat = j:=by omega
  rw [e]
  exact ⟨by omega,by omega,by omega,rfl,rfl⟩
theorem PW.rt {rs : List (List Rat)} (hr : RLN rs) {j k : Nat} (hj : j < rs.length) (hk : j ≤ k) : PW k (rs.getD j []):=(PW.pow (hr.at hj)).mono hk
theorem tm_facts {kk : Nat} {rs : List (List Rat)} {l k : List Rat} (p1 : kk ≤ rs.length) (p2 : rs.length ≤ 5) (p3 : RLN rs) (p4 : PW kk l) (p5 : PW kk k) (hz : (zeroF l || zeroF k) = false) (h1 : ¬ ((l.length : Nat) : Int) = 1) (hle : k.length ≤ l.length) :
    kk ≠ 0 ∧ PW (kk - 1) (l.take (l.length / 2)) ∧ PW (kk - 1) (l.drop (l.length / 2)) ∧ (1 ≤ l.length / 2 ∧ l.length / 2 ≤ 16) ∧ (0 ≤ levI l.length - 1 ∧ levI l.length - 1 < (rs.length : Int)) ∧ (rs.getD (levI l.length - 1).toNat default = rs.getD (lev l.length - 1) [] ∧ PW (kk - 1) (rs.getD (levI l.length - 1).toNat default)) ∧
    (k.length ≤ l.length / 2 → PW (kk - 1) k) ∧ (¬ k.length ≤ l.length / 2 → PW (kk - 1) (k.take (l.length / 2)) ∧ PW (kk - 1) (k.drop (l.length / 2)) ∧ l.length / 2 ≤ k.length):=by
  rw [Bool.or_eq_false_iff] at hz
  obtain ⟨j,hj,hl,hh,hx,hy⟩:=p4.d0 hz.1 (by omega)
  obtain ⟨e1,e2,_,e3,e4⟩:=lv_facts p3 p1 hj hl
  have hp:=Nat.two_pow_pos j
  have h16 : 2 ^ j ≤ 2 ^ 4:=Nat.pow_le_pow_right (by decide) (by omega)
  have e5 : 2 ^ (j + 1) = 2 ^ j + 2 ^ j:=by rw [Nat.pow_succ];omega
  rw [hh,e3,e4]
  refine ⟨by omega,(PW.pow hx).mono (by omega),(PW.pow hy).mono (by omega),⟨by omega,by omega⟩,⟨e1,e2⟩,⟨e4.symm ▸ rfl,PW.rt p3 (by omega) (by omega)⟩,fun hb=>?_,fun hb=>?_⟩
  · obtain ⟨i,rfl⟩ : ∃ i,kk = i + 1:=⟨kk - 1,by omega⟩
    exact p5.low (Nat.le_trans hb (Nat.pow_le_pow_right (by decide) (by omega)))
  · have hk2:=p5.pos hb (by omega)
    exact ⟨(PW.pow (k:=j) (by rw [List.length_take];omega)).mono (by omega),(PW.pow (k:=j) (by rw [List.length_drop];omega)).mono (by omega),by omega⟩
theorem tB_facts {kk N r : Nat} (h : kk ≠ 0) : tB kk N r = tB (kk - 1) N r + tB (kk - 1) (tB (kk - 1) N r + r) r + 1 ∧ N ≤ tB (kk - 1) N r ∧ tB (kk - 1) N r + r ≤ tB (kk - 1) (tB (kk - 1) N r + r) r:=by
  obtain ⟨i,rfl⟩ : ∃ i,kk = i + 1:=⟨kk - 1,by omega⟩
  exact ⟨rfl,tB_le,tB_le⟩
section
variable {rs : List (List Rat)} {q : List Rat → List Rat → List Rat} {l k : List Rat}
theorem tm_ns {kk : Nat} (h : ¬ ((l.length : Nat) : Int) < k.length) : timesF rs (kk + 1) l k = stepF rs (timesF rs kk) l k:=by show (if _ then _ else _) = _;rw [if_neg (by omega)]
theorem tm_sw {kk : Nat} (h : ((l.length : Nat) : Int) < k.length) : timesF rs (kk + 1) l k = stepF rs (timesF rs kk) k l:=by show (if _ then _ else _) = _;rw [if_pos (by omega)]
theorem st_1 (h : (zeroF l || zeroF k) = true) : stepF rs q l k = []:=by unfold stepF;rw [if_pos h]
theorem st_2 (h : (zeroF l || zeroF k) = false) (h1 : ((l.length : Nat) : Int) = 1) : stepF rs q l k = [l.getD 0 default * k.getD 0 default]:=by unfold stepF;rw [if_neg (by rw [h];decide),if_pos (by omega)];rfl
theorem st_3 (h : (zeroF l || zeroF k) = false) (h1 : ¬ ((l.length : Nat) : Int) = 1) (h2 : ((k.length : Nat) : Int) ≤ ((l.length / 2 : Nat) : Int)) : stepF rs q l k = joinF (q (l.take (l.length / 2)) k) (q (l.drop (l.length / 2)) k) (l.length / 2):=by
  unfold stepF;rw [if_neg (by rw [h];decide),if_neg (by omega),if_pos (by omega)]
theorem st_4 (h : (zeroF l || zeroF k) = false) (h1 : ¬ ((l.length : Nat) : Int) = 1) (h2 : ¬ ((k.length : Nat) : Int) ≤ ((l.length / 2 : Nat) : Int)) (h3 : rs.getD (levI l.length - 1).toNat default = rs.getD (lev l.length - 1) []) :
    stepF rs q l k = joinF (plusF (q (l.take (l.length / 2)) (k.take (l.length / 2))) (q (q (l.drop (l.length / 2)) (k.drop (l.length / 2))) (rs.getD (levI l.length - 1).toNat default))) (plusF (q (l.take (l.length / 2)) (k.drop (l.length / 2))) (q (l.drop (l.length / 2)) (k.take (l.length / 2)))) (l.length / 2):=by
  rw [h3];unfold stepF;rw [if_neg (by rw [h];decide),if_neg (by omega),if_neg (by omega)]
end
theorem tmStep {kk : Nat} (ih : ∀ {n m r : Nat} {rs : List (List Rat)} {l k : List Rat},Con Tryz.prog 167 [TWR r rs,NM n l,NM m k] (kk ≠ 0 ∧ (kk - 1) ≤ rs.length ∧ rs.length ≤ 5 ∧ RLN rs ∧ PW (kk - 1) l ∧ PW (kk - 1) k ∧ 1 ≤ n ∧ 1 ≤ m ∧ 1 ≤ r ∧ tB (kk - 1) (n + m) r ≤ BIG) (NM (tB (kk - 1) (n + m) r) (timesF rs kk l k))) {n m r : Nat} {rs : List (List Rat)} {l k : List Rat} : Con Tryz.prog 167 [TWR r rs,NM n l,NM m k] (kk ≤ rs.length ∧ rs.length ≤ 5 ∧ RLN rs ∧ PW kk l ∧ PW kk k ∧ 1 ≤ n ∧ 1 ≤ m ∧ 1 ≤ r ∧ tB kk (n + m) r ≤ BIG) (NM (tB kk (n + m) r) (timesF rs (kk + 1) l k)):=.o3 fun hok h1 h2 h3 hp=>by
  refine St.enter (N:=100) Tryz.func167 rfl rfl rfl hok (enter3 h1 h2 h3) fun a=>?_
  repeat' (first|((with_reducible refine gS_ ?_);first|((with_reducible refine gL_ ?_);first|refine W.run ?_ fun a w G=>?_|refine W.mv fun a w G=>?_|refine W.asg fun a w G=>?_|refine W.bx fun b a w G=>?_|(refine W.nn hK ?_;clear hK K)|refine W.nl ?_|refine W.al fun b a w G=>?_|refine W.st fun w=>?_|refine W.stp fun w=>?_|refine W.ste ?_ fun w=>?_)|((with_reducible refine gC_ ?_);first|refine W.reg fun K hK=>?_|refine W.reg1 ?_|refine W.sq fun K hK=>?_|refine W.ds ?_ (fun β a w G hu=>W.fin ?_ hu) mixedOrders (by kernel_rfl)|refine W.sk ?_|refine W.cd (fun hc=>?_) (fun hc=>?_)|refine W.cb (fun hc=>?_) (fun hc=>?_)|refine W.bl ?_|refine W.ex ?_|refine W.rt ?_)|((with_reducible refine W.kn hK ?_);clear hK K)|(with_reducible first|refine W.bn ?_|refine W.xt ?_|refine W.xb ?_|refine W.xo ?_|refine W.tr ?_|refine W.br ?_)|refine W.rt1 rfl ?_|refine W.rt2 rfl ?_ ?_|refine W.rt3 rfl ?_ ?_ ?_)|clear hK K|clear hu|exact True.intro|exact Nat.le_trans (by clear hp;omega) hp|exact Nat.le_trans (by clear hp;omega) hp.1|exact Nat.le_trans (by clear hp;omega) hp.2|(clear hp;omega)|apply And.intro|refine GI.i fun _=>?_|with_reducible rfl|decide|(simp only [List.length_cons,List.length_nil];omega))
  all_goals obtain ⟨p1,p2,p3,p4,p5,p6,p7,p8,p9⟩:=hp
  all_goals have hN:=tB_le (r:=r) (k:=kk) (n:=n + m)
  all_goals first
    | omega
    | (have hls : ¬ ((l.length : Nat) : Int) < k.length := by assumption
       first
       | (have hz : (zeroF l || zeroF k) = true := by assumption
          rw [tm_ns (by assumption)];exact st_1 hz)
       | (have hz : (zeroF l || zeroF k) = false := by assumption
          have hz2:=hz
          rw [Bool.or_eq_false_iff] at hz2
          have z1:=nz_pos hz2.1
          have z2:=nz_pos hz2.2
          first
          | exact z1
          | exact z2
          | (have h1 : ((l.length : Nat) : Int) = 1 := by assumption
             first
             | omega
             | (rw [tm_ns (by assumption)];exact (st_2 hz h1).symm))
          | (have h1 : ¬ ((l.length : Nat) : Int) = 1 := by assumption
             have hle : k.length ≤ l.length:=by omega
             obtain ⟨f1,f2,f3,f4,f5,f6,f7,f8⟩:=tm_facts p1 p2 p3 p4 p5 hz h1 hle
             obtain ⟨g1,g2,g3⟩:=tB_facts (N:=n + m) (r:=r) f1
             have hkk : kk - 1 < kk:=by omega
             have hk5 : kk - 1 ≤ 5:=by omega
             have hkr : kk - 1 ≤ rs.length:=by omega
             first
             | omega
             | assumption
             | exact f6.2
             | (have hs : ((k.length : Nat) : Int) ≤ ((l.length / 2 : Nat) : Int) := by assumption
                have f7:=f7 (by omega)
                first
                | assumption
                | (rw [tm_ns (by assumption)];exact (st_3 hz h1 hs).symm))
             | (have hs : ¬ ((k.length : Nat) : Int) ≤ ((l.length / 2 : Nat) : Int) := by assumption
                obtain ⟨u1,u2,u3⟩:=f8 (by omega)
                have w1:=PW.tmn (m:=kk) p3 hkr hkk f2 u1
                have w2:=PW.tmn (m:=kk) p3 hkr hkk f3 u2
                have w3:=PW.tmn (m:=kk) p3 hkr hkk w2 f6.2
                have w4:=PW.tmn (m:=kk) p3 hkr hkk f2 u2
                have w5:=PW.tmn (m:=kk) p3 hkr hkk f3 u1
                have v1:=w1.l32 hk5
                have v3:=w3.l32 hk5
                have v4:=w4.l32 hk5
                have v5:=w5.l32 hk5
                first
                | omega
                | assumption
                | (rw [tm_ns (by assumption)];exact (st_4 hz h1 hs f6.1).symm))
             | (have hl32:=PW.l32 p4 (by omega);omega))))
    | (have hls : ((l.length : Nat) : Int) < k.length := by assumption
       (try simp only [Nat.add_comm n m] at *)
       first
       | (have hz : (zeroF k || zeroF l) = true := by assumption
          rw [tm_sw (by assumption)];exact st_1 hz)
       | (have hz : (zeroF k || zeroF l) = false := by assumption
          have hz2:=hz
          rw [Bool.or_eq_false_iff] at hz2
          have z1:=nz_pos hz2.1
          have z2:=nz_pos hz2.2
          first
          | exact z1
          | exact z2
          | (have h1 : ((k.length : Nat) : Int) = 1 := by assumption
             first
             | omega
             | (rw [tm_sw (by assumption)];exact (st_2 hz h1).symm))
          | (have h1 : ¬ ((k.length : Nat) : Int) = 1 := by assumption
             have hle : l.length ≤ k.length:=by omega
             obtain ⟨f1,f2,f3,f4,f5,f6,f7,f8⟩:=tm_facts p1 p2 p3 p5 p4 hz h1 hle
             obtain ⟨g1,g2,g3⟩:=tB_facts (N:=m + n) (r:=r) f1
             have hkk : kk - 1 < kk:=by omega
             have hk5 : kk - 1 ≤ 5:=by omega
             have hkr : kk - 1 ≤ rs.length:=by omega
             first
             | omega
             | assumption
             | exact f6.2
             | (have hs : ((l.length : Nat) : Int) ≤ ((k.length / 2 : Nat) : Int) := by assumption
                have f7:=f7 (by omega)
                first
                | assumption
                | (rw [tm_sw (by assumption)];exact (st_3 hz h1 hs).symm))
             | (have hs : ¬ ((l.length : Nat) : Int) ≤ ((k.length / 2 : Nat) : Int) := by assumption
                obtain ⟨u1,u2,u3⟩:=f8 (by omega)
                have w1:=PW.tmn (m:=kk) p3 hkr hkk f2 u1
                have w2:=PW.tmn (m:=kk) p3 hkr hkk f3 u2
                have w3:=PW.tmn (m:=kk) p3 hkr hkk w2 f6.2
                have w4:=PW.tmn (m:=kk) p3 hkr hkk f2 u2
                have w5:=PW.tmn (m:=kk) p3 hkr hkk f3 u1
                have v1:=w1.l32 hk5
                have v3:=w3.l32 hk5
                have v4:=w4.l32 hk5
                have v5:=w5.l32 hk5
                first
                | omega
                | assumption
                | (rw [tm_sw (by assumption)];exact (st_4 hz h1 hs f6.1).symm))
             | (have hl32:=PW.l32 p5 (by omega);omega))))
    | skip
theorem tmK : ∀ (kk : Nat) {n m r : Nat} {rs : List (List Rat)} {l k : List Rat},Con Tryz.prog 167 [TWR r rs,NM n l,NM m k] (kk ≤ rs.length ∧ rs.length ≤ 5 ∧ RLN rs ∧ PW kk l ∧ PW kk k ∧ 1 ≤ n ∧ 1 ≤ m ∧ 1 ≤ r ∧ tB kk (n + m) r ≤ BIG) (NM (tB kk (n + m) r) (timesF rs (kk + 1) l k)):=fun kk=>by
  induction kk with
  | zero=>exact tmStep (kk:=0) ⟨fun _ _ hp=>absurd rfl hp.1⟩
  | succ kk ih=>exact tmStep (kk:=kk + 1) ⟨fun hok ha hp=>ih.h hok ha hp.2⟩
def lvM (l k : List Rat) : Nat:=lev (max l.length k.length)
instance {n m r : Nat} {rs : List (List Rat)} {l k : List Rat} {τ1 : MT} [j1 : NU τ1 (TWR r rs)] {τ2 : MT} [j2 : NU τ2 (NM n l)] {τ3 : MT} [j3 : NU τ3 (NM m k)] : Con Tryz.prog 167 [τ1,τ2,τ3] (lvM l k ≤ rs.length ∧ rs.length ≤ 5 ∧ RLN rs ∧ PW (lvM l k) l ∧ PW (lvM l k) k ∧ 1 ≤ n ∧ 1 ≤ m ∧ 1 ≤ r ∧ tB (lvM l k) (n + m) r ≤ BIG) (NM (tB (lvM l k) (n + m) r) (tmF rs l k)):=.o3 fun hok h1 h2 h3 hp=>by
  have e : tmF rs l k = timesF rs (lvM l k + 1) l k:=times_fuel hp.2.2.1 (lvM l k) hp.1 _ _ (by have:=hp.1;omega) (by omega) l k hp.2.2.2.1 hp.2.2.2.2.1
  rw [e];exact (tmK (lvM l k)).c3 hok (j1.h h1) (j2.h h2) (j3.h h3) hp
end Go.Proofs.YtnjbcjmkkejfpaaGreatDoor
set_option linter.unusedVariables false
set_option linter.unusedSimpArgs false
set_option maxHeartbeats 4000000
set_option maxRecDepth 100000
set_option synthInstance.maxSize 100000
set_option synthInstance.maxHeartbeats 400000
namespace Go.Proofs.YtnjbcjmkkejfpaaGreatDoor
open Go.RowKit (Below)
attribute [local irreducible] Go.Code.wp Go.wpList Go.bodyPost
attribute [local irreducible] plusF minusF joinF levI lev PW RLN tB sB timesF stepF tmF normF shoF TOK
theorem lvM_eq {l k : List Rat} {j : Nat} (hl : l.length = 2 ^ j) (hk : k.length = 2 ^ j) : lvM l k = j:=by unfold lvM;rw [hl,hk,Nat.max_self,lev_pow]
theorem lvM_r {l k : List Rat} {j : Nat} (hl : l.length ≤ 2 ^ j) (hk : k.length = 2 ^ j) : lvM l k = j:=by unfold lvM;rw [hk,Nat.max_eq_right hl,lev_pow]
theorem nm_facts {rs : List (List Rat)} {l : List Rat} {j : Nat} (p2 : rs.length ≤ 5) (p3 : RLN rs) (hj : j < rs.length) (hl : l.length = 2 ^ (j + 1)) :
    l.length / 2 = 2 ^ j ∧ (2 ^ j ≤ 16 ∧ 1 ≤ 2 ^ j ∧ 2 ^ (j + 1) = 2 ^ j + 2 ^ j) ∧ lvM (l.take (l.length / 2)) (l.take (l.length / 2)) = j ∧ lvM (l.drop (l.length / 2)) (l.drop (l.length / 2)) = j ∧ lvM (tmF rs (l.drop (l.length / 2)) (l.drop (l.length / 2))) (rs.getD (levI l.length - 1).toNat default) = j ∧
    PW j (l.take (l.length / 2)) ∧ PW j (l.drop (l.length / 2)) ∧ PW j (tmF rs (l.drop (l.length / 2)) (l.drop (l.length / 2))) ∧ PW j (rs.getD (levI l.length - 1).toNat default) ∧ (0 ≤ levI l.length - 1 ∧ levI l.length - 1 < (rs.length : Int)) ∧ rs.getD (levI l.length - 1).toNat default = rs.getD (lev l.length - 1) [] ∧ rs.getD (lev l.length - 1) [] = rs.getD j []:=by
  obtain ⟨e1,e2,_,e3,e4⟩:=lv_facts p3 (Nat.le_refl _) hj hl
  have hp:=Nat.two_pow_pos j
  have h16 : 2 ^ j ≤ 2 ^ 4:=Nat.pow_le_pow_right (by decide) (by omega)
  have e5 : 2 ^ (j + 1) = 2 ^ j + 2 ^ j:=by rw [Nat.pow_succ];omega
  have hh : l.length / 2 = 2 ^ j:=by omega
  have hx : (l.take (2 ^ j)).length = 2 ^ j:=by rw [List.length_take];omega
  have hy : (l.drop (2 ^ j)).length = 2 ^ j:=by rw [List.length_drop];omega
  have hd:=PW.rt p3 hj (Nat.le_refl j)
  have hyy:=PW.tm p3 (by omega : j ≤ rs.length) (PW.pow hy) (PW.pow hy)
  rw [hh,e3,e4]
  exact ⟨rfl,⟨h16,hp,e5⟩,lvM_eq hx hx,lvM_eq hy hy,lvM_r hyy.le (p3.at hj),PW.pow hx,PW.pow hy,hyy,hd,⟨e1,e2⟩,e4.symm ▸ rfl,rfl⟩
theorem w134 {n r : Nat} {rs : List (List Rat)} {l : List Rat} : Con Tryz.prog 134 [TWR r rs,NM n l] (l.length = 2 ^ (lev l.length - 1 + 1) ∧ lev l.length - 1 < rs.length ∧ rs.length ≤ 5 ∧ RLN rs ∧ 1 ≤ n ∧ 1 ≤ r ∧ tB (lev l.length - 1 + 1) (n + n) r ≤ BIG) (NM (tB (lev l.length - 1 + 1) (n + n) r) (normF rs l)):=.o2 fun hok h1 h2 hp=>by
  refine St.enter (N:=36) Tryz.func134 rfl rfl rfl hok (enter2 h1 h2) fun a=>?_
  repeat' (first|((with_reducible refine gS_ ?_);first|((with_reducible refine gL_ ?_);first|refine W.run ?_ fun a w G=>?_|refine W.mv fun a w G=>?_|refine W.asg fun a w G=>?_|refine W.bx fun b a w G=>?_|(refine W.nn hK ?_;clear hK K)|refine W.nl ?_|refine W.al fun b a w G=>?_|refine W.st fun w=>?_|refine W.stp fun w=>?_|refine W.ste ?_ fun w=>?_)|((with_reducible refine gC_ ?_);first|refine W.reg fun K hK=>?_|refine W.reg1 ?_|refine W.sq fun K hK=>?_|refine W.ds ?_ (fun β a w G hu=>W.fin ?_ hu) mixedOrders (by kernel_rfl)|refine W.sk ?_|refine W.cd (fun hc=>?_) (fun hc=>?_)|refine W.cb (fun hc=>?_) (fun hc=>?_)|refine W.bl ?_|refine W.ex ?_|refine W.rt ?_)|((with_reducible refine W.kn hK ?_);clear hK K)|(with_reducible first|refine W.bn ?_|refine W.xt ?_|refine W.xb ?_|refine W.xo ?_|refine W.tr ?_|refine W.br ?_)|refine W.rt1 rfl ?_|refine W.rt2 rfl ?_ ?_|refine W.rt3 rfl ?_ ?_ ?_)|clear hK K|clear hu|exact True.intro|exact Nat.le_trans (by clear hp;omega) hp|exact Nat.le_trans (by clear hp;omega) hp.1|exact Nat.le_trans (by clear hp;omega) hp.2|(clear hp;omega)|apply And.intro|refine GI.i fun _=>?_|with_reducible rfl|decide|(simp only [List.length_cons,List.length_nil];omega))
  all_goals obtain ⟨p1,p2,p3,p4,p5,p6,p7⟩:=hp
  all_goals obtain ⟨f1,⟨f2,f3,f3'⟩,f4,f5,f6,f7,f8,f9,f10,f11,f12,f13⟩:=nm_facts p3 p4 p2 p1
  all_goals have hb : tB (lev l.length - 1 + 1) (n + n) r = tB (lev l.length - 1) (n + n) r + tB (lev l.length - 1) (tB (lev l.length - 1) (n + n) r + r) r + 1:=tB_facts (kk:=lev l.length - 1 + 1) (Nat.succ_ne_zero _) |>.1
  all_goals have hb2:=tB_le (r:=r) (k:=lev l.length - 1) (n:=n + n)
  all_goals have hb3:=tB_le (r:=r) (k:=lev l.length - 1) (n:=tB (lev l.length - 1) (n + n) r + r)
  all_goals have q1:=(PW.tm p4 (by omega) f7 f7).l32 (by omega)
  all_goals have q2:=(PW.tm p4 (by omega) f9 f10).l32 (by omega)
  all_goals have q3:=(PW.tm p4 (by omega) f9 f10).minus.l32 (by omega)
  all_goals (try simp only [f4,f5,f6])
  all_goals first
    | omega
    | assumption
    | (show _ = normF rs l;unfold normF;rw [f12])
    | skip
instance {n r : Nat} {rs : List (List Rat)} {l : List Rat} {τ1 : MT} [j1 : NU τ1 (TWR r rs)] {τ2 : MT} [j2 : NU τ2 (NM n l)] : Con Tryz.prog 134 [τ1,τ2] (l.length = 2 ^ (lev l.length - 1 + 1) ∧ lev l.length - 1 < rs.length ∧ rs.length ≤ 5 ∧ RLN rs ∧ 1 ≤ n ∧ 1 ≤ r ∧ tB (lev l.length - 1 + 1) (n + n) r ≤ BIG) (NM (tB (lev l.length - 1 + 1) (n + n) r) (normF rs l)):=.o2 fun hok h1 h2 hp=>w134.c2 hok (j1.h h1) (j2.h h2) hp
end Go.Proofs.YtnjbcjmkkejfpaaGreatDoor
set_option linter.unusedVariables false
set_option linter.unusedSimpArgs false
set_option maxHeartbeats 4000000
set_option maxRecDepth 100000
set_option synthInstance.maxSize 100000
set_option synthInstance.maxHeartbeats 400000
namespace Go.Proofs.YtnjbcjmkkejfpaaGreatDoor
open Go.RowKit (Below)
attribute [local irreducible] Go.Code.wp Go.wpList Go.bodyPost
theorem sB_s {k n r : Nat} : sB (k + 1) n r = sB k (tB (k + 1) (n + n) r) r:=rfl
attribute [local irreducible] plusF minusF joinF levI lev PW RLN tB sB timesF stepF tmF normF shoF TOK
theorem TOK.rl {rs : List (List Rat)} (h : TOK rs) : RLN rs ∧ rs.length ≤ 5:=by unfold TOK at h;exact ⟨h.2.1,h.1⟩
theorem sg_facts {kk n r : Nat} {rs : List (List Rat)} {l : List Rat} (p1 : kk ≤ rs.length) (p2 : TOK rs) (p3 : PW kk l) (p4 : 1 ≤ n) (p5 : 1 ≤ r) (p6 : sB kk (n + r) r ≤ BIG) (h0 : ¬ (((shoF l).length : Nat) : Int) = 0) (h1 : ¬ (((shoF l).length : Nat) : Int) = 1) :
    kk ≠ 0 ∧ ∃ j,j + 1 ≤ kk ∧ (shoF l).length = 2 ^ (j + 1) ∧ lev (shoF l).length - 1 = j ∧ PW (kk - 1) ((shoF l).take ((shoF l).length / 2)) ∧ PW (kk - 1) ((shoF l).drop ((shoF l).length / 2)) ∧ ((shoF l).length / 2 ≤ (shoF l).length ∧ (shoF l).length ≤ 32) ∧ (0 ≤ levI (shoF l).length - 1 ∧ levI (shoF l).length - 1 < (rs.length : Int)) ∧
    rs.getD (levI (shoF l).length - 1).toNat default = rs.getD j [] ∧ PW (kk - 1) (rs.getD j []) ∧ PW (kk - 1) (normF rs (shoF l)) ∧ tB (j + 1) (n + n) r ≤ BIG ∧ sB (kk - 1) (n + r) r ≤ BIG ∧ sB (kk - 1) (r + r) r ≤ BIG ∧ sB (kk - 1) (tB (j + 1) (n + n) r + r) r ≤ BIG ∧ 1 ≤ tB (j + 1) (n + n) r:=by
  obtain ⟨p7,p8⟩:=p2.rl
  obtain ⟨s1,s2,s3,s4⟩:=sho_ok (by omega) p3
  have hj : ∃ j,j < kk ∧ (shoF l).length = 2 ^ (j + 1):=by
    unfold PW at s2
    rcases s2 with h | ⟨i,hi,h⟩
    · omega
    · cases i with
      | zero=>simp at h;omega
      | succ j=>exact ⟨j,by omega,h⟩
  obtain ⟨j,hj,hl⟩:=hj
  obtain ⟨f1,⟨f2,f3,f3'⟩,f4,f5,f6,f7,f8,f9,f10,f11,f12,f13⟩:=nm_facts p8 p7 (by omega : j < rs.length) hl
  have hn:=norm_ok p7 (by omega : j < rs.length) hl
  obtain ⟨i,rfl⟩ : ∃ i,kk = i + 1:=⟨kk - 1,by omega⟩
  have hs : sB (i + 1) (n + r) r = sB i (tB (i + 1) (n + r + (n + r)) r) r:=sB_s
  have hle : tB (j + 1) (n + n) r + r ≤ tB (i + 1) (n + r + (n + r)) r:=by
    have h1:=tB_up (r:=r) (n:=n + n) (show j + 1 ≤ i + 1 by omega)
    have h2:=tB_add (r:=r) (k:=i + 1) (n:=n + n) (m:=r + r)
    rw [show n + n + (r + r) = n + r + (n + r) by omega] at h2
    omega
  have hbig:=tB_le (r:=r) (k:=i + 1) (n:=n + r + (n + r))
  have hS:=sB_le (r:=r) (k:=i) (n:=tB (i + 1) (n + r + (n + r)) r)
  have m1:=sB_mono (r:=r) (k:=i) hle
  have m2:=sB_mono (r:=r) (k:=i) (n:=n + r) (m:=tB (i + 1) (n + r + (n + r)) r) (by omega)
  have m3:=sB_mono (r:=r) (k:=i) (n:=r + r) (m:=tB (i + 1) (n + r + (n + r)) r) (by omega)
  have hb1:=tB_le (r:=r) (k:=j + 1) (n:=n + n)
  rw [Nat.add_sub_cancel]
  exact ⟨Nat.succ_ne_zero _,j,hj,hl,by rw [hl,lev_pow];rfl,f7.mono (by omega),f8.mono (by omega),⟨by omega,by omega⟩,f11,f12.trans f13,PW.rt p7 (by omega) (by omega),hn.2.mono (by omega),by omega,by omega,by omega,by omega,by omega⟩
theorem sg_short {kk : Nat} {rs : List (List Rat)} {l : List Rat} (p1 : kk ≤ rs.length) (p2 : TOK rs) (p3 : PW kk l) : sgL rs l = sgL rs (shoF l):=(sgL_short (by have:=p2.rl.2;omega) p3).symm
theorem sgStep {kk : Nat} (ih : ∀ {n r : Nat} {rs : List (List Rat)} {l : List Rat},Con Tryz.prog 87 [TWR r rs,NM n l] (kk ≠ 0 ∧ (kk - 1) ≤ rs.length ∧ TOK rs ∧ PW (kk - 1) l ∧ 1 ≤ n ∧ 1 ≤ r ∧ sB (kk - 1) (n + r) r ≤ BIG) (IT (sgL rs l))) {n r : Nat} {rs : List (List Rat)} {l : List Rat} : Con Tryz.prog 87 [TWR r rs,NM n l] (kk ≤ rs.length ∧ TOK rs ∧ PW kk l ∧ 1 ≤ n ∧ 1 ≤ r ∧ sB kk (n + r) r ≤ BIG) (IT (sgL rs l)):=.o2 fun hok h1 h2 hp=>by
  refine St.enter (N:=64) Tryz.func87 rfl rfl rfl hok (enter2 h1 h2) fun a=>?_
  repeat' (first|((with_reducible refine gS_ ?_);first|((with_reducible refine gL_ ?_);first|refine W.run ?_ fun a w G=>?_|refine W.mv fun a w G=>?_|refine W.asg fun a w G=>?_|refine W.bx fun b a w G=>?_|(refine W.nn hK ?_;clear hK K)|refine W.nl ?_|refine W.al fun b a w G=>?_|refine W.st fun w=>?_|refine W.stp fun w=>?_|refine W.ste ?_ fun w=>?_)|((with_reducible refine gC_ ?_);first|refine W.reg fun K hK=>?_|refine W.reg1 ?_|refine W.sq fun K hK=>?_|refine W.ds ?_ (fun β a w G hu=>W.fin ?_ hu) mixedOrders (by kernel_rfl)|refine W.sk ?_|refine W.cd (fun hc=>?_) (fun hc=>?_)|refine W.cb (fun hc=>?_) (fun hc=>?_)|refine W.bl ?_|refine W.ex ?_|refine W.rt ?_)|((with_reducible refine W.kn hK ?_);clear hK K)|(with_reducible first|refine W.bn ?_|refine W.xt ?_|refine W.xb ?_|refine W.xo ?_|refine W.tr ?_|refine W.br ?_)|refine W.rt1 rfl ?_|refine W.rt2 rfl ?_ ?_|refine W.rt3 rfl ?_ ?_ ?_)|clear hK K|clear hu|exact True.intro|exact Nat.le_trans (by clear hp;omega) hp|exact Nat.le_trans (by clear hp;omega) hp.1|exact Nat.le_trans (by clear hp;omega) hp.2|(clear hp;omega)|apply And.intro|refine GI.i fun _=>?_|with_reducible rfl|decide|(simp only [List.length_cons,List.length_nil];omega))
  all_goals obtain ⟨p1,p2,p3,p4,p5,p6⟩:=hp
  all_goals have hn:=sB_le (r:=r) (k:=kk) (n:=n + r)
  all_goals have hl32:=p3.l32 (by have:=p2.rl.2;omega)
  all_goals have e0:=sg_short p1 p2 p3
  all_goals have hsl : (shoF l).length ≤ l.length:=(sho_ok (by have:=p2.rl.2;omega) p3).2.2.2
  all_goals first
    | omega
    | (have h0 : (((shoF l).length : Nat) : Int) = 0 := by assumption
       rw [e0,List.length_eq_zero_iff.1 (show (shoF l).length = 0 by omega),sgL_nil])
    | (have h1 : (((shoF l).length : Nat) : Int) = 1 := by assumption
       rw [e0,sgL_one (by omega)];rfl)
    | (obtain ⟨g1, j, g2, g3, g4, g5, g6, ⟨g7, g7'⟩, g8, g9, g10, g11, g12, g13, g14, g15, g16⟩ := sg_facts p1 p2 p3 p4 p5 p6 (by assumption) (by assumption)
       have g17:=p2.rl
       have g18:=sgL_step p2 (by omega : j < rs.length) g3
       have g19:=sgL_mul_bd rs ((shoF l).take ((shoF l).length / 2)) (normF rs (shoF l))
       (try simp only [g9] at *)
       (try rw [g4])
       first
       | omega
       | assumption
       | exact g17.1
       | exact g19.1
       | exact g19.2
       | (rw [e0,g18];simp only [Bool.or_eq_true,Bool.or_eq_false_iff,decide_eq_true_eq,decide_eq_false_iff_not] at *;grind)
       | skip)
    | skip
theorem sgK : ∀ (kk : Nat) {n r : Nat} {rs : List (List Rat)} {l : List Rat},Con Tryz.prog 87 [TWR r rs,NM n l] (kk ≤ rs.length ∧ TOK rs ∧ PW kk l ∧ 1 ≤ n ∧ 1 ≤ r ∧ sB kk (n + r) r ≤ BIG) (IT (sgL rs l)):=fun kk=>by
  induction kk with
  | zero=>exact sgStep (kk:=0) ⟨fun _ _ hp=>absurd rfl hp.1⟩
  | succ kk ih=>exact sgStep (kk:=kk + 1) ⟨fun hok ha hp=>ih.h hok ha hp.2⟩
instance {n r : Nat} {rs : List (List Rat)} {l : List Rat} {τ1 : MT} [j1 : NU τ1 (TWR r rs)] {τ2 : MT} [j2 : NU τ2 (NM n l)] : Con Tryz.prog 87 [τ1,τ2] (TOK rs ∧ PW rs.length l ∧ 1 ≤ n ∧ 1 ≤ r ∧ sB rs.length (n + r) r ≤ BIG) (IT (sgL rs l)):=.o2 fun hok h1 h2 hp=>(sgK rs.length).c2 hok (j1.h h1) (j2.h h2) ⟨Nat.le_refl _,hp.1,hp.2.1,hp.2.2.1,hp.2.2.2.1,hp.2.2.2.2⟩
theorem num_f {K : Nat} {l : List Rat} {z : Int} (h : PW K l) (hz : z = K) (hl : 0 < l.length) (hc : (decide (levI l.length < 0) || decide (levI l.length > z)) = true) : False:=by
  have key : ∃ j : Nat,j ≤ K ∧ levI l.length = j:=by
    unfold PW at h
    rcases h with h | ⟨j,hj,h⟩
    · omega
    · exact ⟨j,hj,by rw [h,levI_pow]⟩
  obtain ⟨j,hj,e⟩:=key
  rw [e] at hc
  simp only [Bool.or_eq_true,decide_eq_true_eq] at hc
  omega
theorem w130 {n r : Nat} {rs : List (List Rat)} {l : List Rat} : Con Tryz.prog 130 [TWR r rs,NM n l] (n ≤ BIG ∧ rs.length ≤ 5 ∧ PW rs.length l) (.ex (errV 67 (0))):=.o2 fun hok h1 h2 hp=>by
  refine St.enter (N:=34) Tryz.func130 rfl rfl rfl hok (enter2 h1 h2) fun a=>?_
  have hl32:=hp.2.2.l32 hp.2.1
  repeat' (first|((with_reducible refine gS_ ?_);first|((with_reducible refine gL_ ?_);first|refine W.run ?_ fun a w G=>?_|refine W.mv fun a w G=>?_|refine W.asg fun a w G=>?_|refine W.bx fun b a w G=>?_|(refine W.nn hK ?_;clear hK K)|refine W.nl ?_|refine W.al fun b a w G=>?_|refine W.st fun w=>?_|refine W.stp fun w=>?_|refine W.ste ?_ fun w=>?_)|((with_reducible refine gC_ ?_);first|refine W.reg fun K hK=>?_|refine W.reg1 ?_|refine W.sq fun K hK=>?_|refine W.ds ?_ (fun β a w G hu=>W.fin ?_ hu) mixedOrders (by kernel_rfl)|refine W.sk ?_|refine W.cd (fun hc=>?_) (fun hc=>?_)|refine W.cb (fun hc=>?_) (fun hc=>?_)|refine W.bl ?_|refine W.ex ?_|refine W.rt ?_)|((with_reducible refine W.kn hK ?_);clear hK K)|(with_reducible first|refine W.bn ?_|refine W.xt ?_|refine W.xb ?_|refine W.xo ?_|refine W.tr ?_|refine W.br ?_)|refine W.rt1 rfl ?_|refine W.rt2 rfl ?_ ?_|refine W.rt3 rfl ?_ ?_ ?_)|refine W.lp 26 (α:=Nat) (fun j=>l.length - j) (fun j=>j ≤ l.length) [4,7,25,26,27,28,29,30,31,32,33] (fun j=>[(25,NT j)]) (fun j=>[]) (0) ?_ ?_ ?_ fun j hj a w G=>?_|refine W.ag (x:=j) (j+1) ?_ ?_ ?_ ?_|clear hK K|clear hu|exact True.intro|exact Nat.le_trans (by clear hp;omega) hp|exact Nat.le_trans (by clear hp;omega) hp.1|exact Nat.le_trans (by clear hp;omega) hp.2|(clear hp;omega)|apply And.intro|refine GI.i fun _=>?_|with_reducible rfl|decide|(simp only [List.length_cons,List.length_nil];omega))
  all_goals first
    | omega
    | (exfalso;exact num_f hp.2.2 rfl (by omega) (by assumption))
    | (exfalso;rw [FR.of_ok] at *;contradiction)
    | (exfalso;simp only [FR.of_ok,Bool.not_true] at *;contradiction)
    | skip
instance {n r : Nat} {rs : List (List Rat)} {l : List Rat} {τ1 : MT} [j1 : NU τ1 (TWR r rs)] {τ2 : MT} [j2 : NU τ2 (NM n l)] : Con Tryz.prog 130 [τ1,τ2] (n ≤ BIG ∧ rs.length ≤ 5 ∧ PW rs.length l) (.ex (errV 67 (0))):=.o2 fun hok h1 h2 hp=>w130.c2 hok (j1.h h1) (j2.h h2) hp
theorem w129 {r : Nat} {rs : List (List Rat)} : Con Tryz.prog 129 [TWR r rs] (TOK rs ∧ 1 ≤ r ∧ sB rs.length (r + r) r ≤ BIG) (.ex (errV 67 (0))):=.o1 fun hok h1 hp=>by
  refine St.enter (N:=43) Tryz.func129 rfl rfl rfl hok (enter1 h1) fun a=>?_
  have h5:=hp.1.rl
  have hbg:=sB_le (r:=r) (k:=rs.length) (n:=r + r)
  repeat' (first|((with_reducible refine gS_ ?_);first|((with_reducible refine gL_ ?_);first|refine W.run ?_ fun a w G=>?_|refine W.mv fun a w G=>?_|refine W.asg fun a w G=>?_|refine W.bx fun b a w G=>?_|(refine W.nn hK ?_;clear hK K)|refine W.nl ?_|refine W.al fun b a w G=>?_|refine W.st fun w=>?_|refine W.stp fun w=>?_|refine W.ste ?_ fun w=>?_)|((with_reducible refine gC_ ?_);first|refine W.reg fun K hK=>?_|refine W.reg1 ?_|refine W.sq fun K hK=>?_|refine W.ds ?_ (fun β a w G hu=>W.fin ?_ hu) mixedOrders (by kernel_rfl)|refine W.sk ?_|refine W.cd (fun hc=>?_) (fun hc=>?_)|refine W.cb (fun hc=>?_) (fun hc=>?_)|refine W.bl ?_|refine W.ex ?_|refine W.rt ?_)|((with_reducible refine W.kn hK ?_);clear hK K)|(with_reducible first|refine W.bn ?_|refine W.xt ?_|refine W.xb ?_|refine W.xo ?_|refine W.tr ?_|refine W.br ?_)|refine W.rt1 rfl ?_|refine W.rt2 rfl ?_ ?_|refine W.rt3 rfl ?_ ?_ ?_)|refine W.lp 16 (α:=Nat) (fun j=>rs.length - j) (fun j=>j ≤ rs.length) [2,3,4,5,6,15,16,17,18,19,20,21,22,23,24,25,26,27,28,29,30,31,32,33,34,35,36,37,38,39,40,41,42] (fun j=>[(15,NT j)]) (fun j=>[]) (0) ?_ ?_ ?_ fun j hj a w G=>?_|refine W.ag (x:=j) (j+1) ?_ ?_ ?_ ?_|clear hK K|clear hu|exact True.intro|exact Nat.le_trans (by clear hp;omega) hp|exact Nat.le_trans (by clear hp;omega) hp.1|exact Nat.le_trans (by clear hp;omega) hp.2|(clear hp;omega)|apply And.intro|refine GI.i fun _=>?_|with_reducible rfl|decide|(simp only [List.length_cons,List.length_nil];omega))
  all_goals first
    | omega
    | (have ht := hp.1.take j
       have hl:=h5.1.at (show j < rs.length by omega)
       have hs:=sB_ups (r:=r) (n:=r + r) (show (rs.take j).length ≤ rs.length by rw [List.length_take];omega)
       have hlt : (rs.take j).length = j:=by rw [List.length_take];omega
       have hpw : PW (rs.take j).length (rs.getD j []):=by rw [hlt];exact PW.pow hl
       have hj5 : 2 ^ j ≤ 2 ^ 5:=Nat.pow_le_pow_right (by decide) (by omega)
       have hnn:=hp.1.nn (show j < rs.length by omega)
       rw [← ht.2 _ hpw] at hnn
       first
       | omega
       | exact ht.1
       | exact hpw
       | (exfalso;have hd : (rs.getD j default).length = 2 ^ j:=hl;omega)
       | (exfalso;have hd : 0 ≤ sgL (List.take j rs) (rs.getD j default):=hnn;omega)
       | skip)
    | skip
instance {r : Nat} {rs : List (List Rat)} {τ1 : MT} [j1 : NU τ1 (TWR r rs)] : Con Tryz.prog 129 [τ1] (TOK rs ∧ 1 ≤ r ∧ sB rs.length (r + r) r ≤ BIG) (.ex (errV 67 (0))):=.o1 fun hok h1 hp=>w129.c1 hok (j1.h h1) hp
theorem getD_mem {l : List (List Rat)} {j : Nat} (h : j < l.length) : l.getD j default ∈ l:=by rw [List.getD_eq_getElem?_getD,List.getElem?_eq_getElem h];exact List.getElem_mem h
theorem w84 {r n : Nat} {rs ls : List (List Rat)} : Con Tryz.prog 84 [TWR r rs,RTS n ls] (TOK rs ∧ 1 ≤ r ∧ n ≤ BIG ∧ sB rs.length (r + r) r ≤ BIG ∧ ls.length ≤ 8 ∧ ∀ x ∈ ls,PW rs.length x) (.ex (errV 67 (0))):=.o2 fun hok h1 h2 hp=>by
  refine St.enter (N:=27) Tryz.func84 rfl rfl rfl hok (enter2 h1 h2) fun a=>?_
  have h5:=hp.1.rl
  repeat' (first|((with_reducible refine gS_ ?_);first|((with_reducible refine gL_ ?_);first|refine W.run ?_ fun a w G=>?_|refine W.mv fun a w G=>?_|refine W.asg fun a w G=>?_|refine W.bx fun b a w G=>?_|(refine W.nn hK ?_;clear hK K)|refine W.nl ?_|refine W.al fun b a w G=>?_|refine W.st fun w=>?_|refine W.stp fun w=>?_|refine W.ste ?_ fun w=>?_)|((with_reducible refine gC_ ?_);first|refine W.reg fun K hK=>?_|refine W.reg1 ?_|refine W.sq fun K hK=>?_|refine W.ds ?_ (fun β a w G hu=>W.fin ?_ hu) mixedOrders (by kernel_rfl)|refine W.sk ?_|refine W.cd (fun hc=>?_) (fun hc=>?_)|refine W.cb (fun hc=>?_) (fun hc=>?_)|refine W.bl ?_|refine W.ex ?_|refine W.rt ?_)|((with_reducible refine W.kn hK ?_);clear hK K)|(with_reducible first|refine W.bn ?_|refine W.xt ?_|refine W.xb ?_|refine W.xo ?_|refine W.tr ?_|refine W.br ?_)|refine W.rt1 rfl ?_|refine W.rt2 rfl ?_ ?_|refine W.rt3 rfl ?_ ?_ ?_)|refine W.lp 17 (α:=Nat) (fun j=>ls.length - j) (fun j=>j ≤ ls.length) [4,7,8,16,17,18,19,20,21,22,23,24,25,26] (fun j=>[(16,NT j)]) (fun j=>[]) (0) ?_ ?_ ?_ fun j hj a w G=>?_|refine W.ag (x:=j) (j+1) ?_ ?_ ?_ ?_|clear hK K|clear hu|exact True.intro|exact Nat.le_trans (by clear hp;omega) hp|exact Nat.le_trans (by clear hp;omega) hp.1|exact Nat.le_trans (by clear hp;omega) hp.2|(clear hp;omega)|apply And.intro|refine GI.i fun _=>?_|with_reducible rfl|decide|(simp only [List.length_cons,List.length_nil];omega))
  all_goals first
    | omega
    | exact hp.1
    | exact hp.2.2.2.2.2 _ (getD_mem (by omega))
    | skip
instance {r n : Nat} {rs ls : List (List Rat)} {τ1 : MT} [j1 : NU τ1 (TWR r rs)] {τ2 : MT} [j2 : NU τ2 (RTS n ls)] : Con Tryz.prog 84 [τ1,τ2] (TOK rs ∧ 1 ≤ r ∧ n ≤ BIG ∧ sB rs.length (r + r) r ≤ BIG ∧ ls.length ≤ 8 ∧ ∀ x ∈ ls,PW rs.length x) (.ex (errV 67 (0))):=.o2 fun hok h1 h2 hp=>w84.c2 hok (j1.h h1) (j2.h h2) hp
theorem w41 {n m r : Nat} {rs : List (List Rat)} {l k : List Rat} : Con Tryz.prog 41 [TWR r rs,NM n l,NM m k] (TOK rs ∧ PW rs.length l ∧ PW rs.length k ∧ 1 ≤ r ∧ 1 ≤ n ∧ 1 ≤ m ∧ sB rs.length (n + m + 1 + r) r ≤ BIG ∧ sB rs.length (r + r) r ≤ BIG) (MT.tup2 (IT (sgL rs (plusF l (minusF k)))) (.ex (errV 67 (0)))):=.o3 fun hok h1 h2 h3 hp=>by
  refine St.enter (N:=23) Tryz.func41 rfl rfl rfl hok (enter3 h1 h2 h3) fun a=>?_
  have h5:=hp.1.rl
  have hbg:=sB_le (r:=r) (k:=rs.length) (n:=n + m + 1 + r)
  have l1:=hp.2.1.l32 h5.2
  have l2:=hp.2.2.1.l32 h5.2
  have l3:=hp.2.2.1.minus.l32 h5.2
  repeat' (first|((with_reducible refine gS_ ?_);first|((with_reducible refine gL_ ?_);first|refine W.run ?_ fun a w G=>?_|refine W.mv fun a w G=>?_|refine W.asg fun a w G=>?_|refine W.bx fun b a w G=>?_|(refine W.nn hK ?_;clear hK K)|refine W.nl ?_|refine W.al fun b a w G=>?_|refine W.st fun w=>?_|refine W.stp fun w=>?_|refine W.ste ?_ fun w=>?_)|((with_reducible refine gC_ ?_);first|refine W.reg fun K hK=>?_|refine W.reg1 ?_|refine W.sq fun K hK=>?_|refine W.ds ?_ (fun β a w G hu=>W.fin ?_ hu) mixedOrders (by kernel_rfl)|refine W.sk ?_|refine W.cd (fun hc=>?_) (fun hc=>?_)|refine W.cb (fun hc=>?_) (fun hc=>?_)|refine W.bl ?_|refine W.ex ?_|refine W.rt ?_)|((with_reducible refine W.kn hK ?_);clear hK K)|(with_reducible first|refine W.bn ?_|refine W.xt ?_|refine W.xb ?_|refine W.xo ?_|refine W.tr ?_|refine W.br ?_)|refine W.rt1 rfl ?_|refine W.rt2 rfl ?_ ?_|refine W.rt3 rfl ?_ ?_ ?_)|clear hK K|clear hu|exact True.intro|exact Nat.le_trans (by clear hp;omega) hp|exact Nat.le_trans (by clear hp;omega) hp.1|exact Nat.le_trans (by clear hp;omega) hp.2|(clear hp;omega)|apply And.intro|refine GI.i fun _=>?_|with_reducible rfl|decide|(simp only [List.length_cons,List.length_nil];omega))
  all_goals first
    | omega
    | exact hp.1
    | exact hp.2.1.plus hp.2.2.1.minus
    | (intro x hx;simp only [List.mem_cons,List.not_mem_nil,or_false] at hx;rcases hx with hx | hx <;> subst hx <;> first | exact hp.2.1 | exact hp.2.2.1)
    | (simp;done)
    | skip
instance {n m r : Nat} {rs : List (List Rat)} {l k : List Rat} {τ1 : MT} [j1 : NU τ1 (TWR r rs)] {τ2 : MT} [j2 : NU τ2 (NM n l)] {τ3 : MT} [j3 : NU τ3 (NM m k)] : Con Tryz.prog 41 [τ1,τ2,τ3] (TOK rs ∧ PW rs.length l ∧ PW rs.length k ∧ 1 ≤ r ∧ 1 ≤ n ∧ 1 ≤ m ∧ sB rs.length (n + m + 1 + r) r ≤ BIG ∧ sB rs.length (r + r) r ≤ BIG) (MT.tup2 (IT (sgL rs (plusF l (minusF k)))) (.ex (errV 67 (0)))):=.o3 fun hok h1 h2 h3 hp=>w41.c3 hok (j1.h h1) (j2.h h2) (j3.h h3) hp
theorem zv0' : (default : FR).val = 0:=rfl
theorem w93 {n : Nat} {x : Rat} : Con Tryz.prog 93 [QV n x] (n + 2 ≤ BIG) (NM (n + 2) (shoF [x])):=.o1 fun hok h1 hp=>by
  refine St.enter (N:=8) Tryz.func93 rfl rfl rfl hok (enter1 h1) fun a=>?_
  repeat' (first|((with_reducible refine gS_ ?_);first|((with_reducible refine gL_ ?_);first|refine W.run ?_ fun a w G=>?_|refine W.mv fun a w G=>?_|refine W.asg fun a w G=>?_|refine W.bx fun b a w G=>?_|(refine W.nn hK ?_;clear hK K)|refine W.nl ?_|refine W.al fun b a w G=>?_|refine W.st fun w=>?_|refine W.stp fun w=>?_|refine W.ste ?_ fun w=>?_)|((with_reducible refine gC_ ?_);first|refine W.reg fun K hK=>?_|refine W.reg1 ?_|refine W.sq fun K hK=>?_|refine W.ds ?_ (fun β a w G hu=>W.fin ?_ hu) mixedOrders (by kernel_rfl)|refine W.sk ?_|refine W.cd (fun hc=>?_) (fun hc=>?_)|refine W.cb (fun hc=>?_) (fun hc=>?_)|refine W.bl ?_|refine W.ex ?_|refine W.rt ?_)|((with_reducible refine W.kn hK ?_);clear hK K)|(with_reducible first|refine W.bn ?_|refine W.xt ?_|refine W.xb ?_|refine W.xo ?_|refine W.tr ?_|refine W.br ?_)|refine W.rt1 rfl ?_|refine W.rt2 rfl ?_ ?_|refine W.rt3 rfl ?_ ?_ ?_)|clear hK K|clear hu|exact True.intro|exact Nat.le_trans (by clear hp;omega) hp|exact Nat.le_trans (by clear hp;omega) hp.1|exact Nat.le_trans (by clear hp;omega) hp.2|(clear hp;omega)|apply And.intro|refine GI.i fun _=>?_|with_reducible rfl|decide|(simp only [List.length_cons,List.length_nil];omega))
  all_goals first
    | omega
    | (simp;done)
    | (congr 1;grind [zv0'])
    | skip
instance {n : Nat} {x : Rat} {τ1 : MT} [j1 : NQ τ1 (QV n x)] : Con Tryz.prog 93 [τ1] (n + 2 ≤ BIG) (NM (n + 2) (shoF [x])):=.o1 fun hok h1 hp=>w93.c1 hok (j1.h h1) hp
end Go.Proofs.YtnjbcjmkkejfpaaGreatDoor
set_option linter.unusedVariables false
set_option linter.unusedSimpArgs false
set_option maxHeartbeats 4000000
set_option maxRecDepth 100000
set_option synthInstance.maxSize 100000
set_option synthInstance.maxHeartbeats 400000
namespace Go.Proofs.YtnjbcjmkkejfpaaGreatDoor
open Go.RowKit (Below)
attribute [local irreducible] Go.Code.wp Go.wpList Go.bodyPost
instance : DecidableEq FR:=fun r s=>decidable_of_iff (r.s = s.s ∧ r.p = s.p ∧ r.q = s.q) ⟨fun h=>by obtain ⟨a,b,c⟩:=r;obtain ⟨d,e,f⟩:=s;simp only at h;obtain ⟨rfl,rfl,rfl⟩:=h;rfl,fun h=>by subst h;exact ⟨rfl,rfl,rfl⟩⟩
section
variable {α : Type} {l k : List α} {j : Nat}
end
abbrev LFR (l : List FR) : MT:=LS (some 3) (l.map RX)
instance {l : List FR} : AsT (LS (some 3) (l.map RX)) LFR l:=⟨fun h=>h⟩
theorem NM.lfr {n : Nat} {l : List Rat} {v : Value} {G : Gh} (h : (NM n l).t v G) : (LFR (l.map FR.of)).t v G:=LS.convM (T:=QC n) (U:=RX) (f:=FR.of) h (by simp) fun x hx v G hv=>FX.toRX (QC.toFX hv (QC.one hv))
instance NR.nm {n : Nat} {l : List Rat} : NR (LS (some 3) (l.map (QC n))) (LS (some 3) ((l.map FR.of).map RX)):=⟨NM.lfr⟩
instance NR.rts {n : Nat} {rs : List (List Rat)} : NR (LS none (rs.map (NM n))) (LS none ((rs.map (List.map FR.of)).map LFR)):=⟨fun h=>LS.convM (T:=NM n) (U:=LFR) (f:=List.map FR.of) h (by simp) fun x hx v G hv=>NM.lfr hv⟩
theorem PTS.lenL {α : Type} {T : α → MT} {xs : List α} {v : Value} {G : Gh} (h : (PTS [(none,LS none (xs.map T))]).t v G) : xs.length ≤ LIM:=by
  obtain ⟨us,_,hl,hE⟩:=h
  match us,hl with
  | u :: us,_=>exact LS.lenM (hE 0 _ u rfl rfl).2
end Go.Proofs.YtnjbcjmkkejfpaaGreatDoor
