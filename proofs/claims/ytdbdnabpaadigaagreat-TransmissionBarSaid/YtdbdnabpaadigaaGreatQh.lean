import Derived.Test.YtdbdnabpaadigaaGreatQg
set_option linter.unusedVariables false
set_option linter.unusedSimpArgs false
set_option linter.unusedVariables false
set_option linter.unusedSimpArgs false
set_option maxHeartbeats 4000000
set_option maxRecDepth 100000
set_option synthInstance.maxSize 100000
set_option synthInstance.maxHeartbeats 400000
namespace Go.Proofs.YtdbdnabpaadigaaGreat
open Go.RowKit (Below)
attribute [local irreducible] Go.Code.wp Go.wpList Go.bodyPost
private theorem gS_ {W0 : World} {G0 : Gh} {N : Nat} {L : List (Nat × MT)} {B : List BX} {a : Act} {w : World} {G : Gh} {q : Prop} (h : St W0 G0 N L B a w G → q) : St W0 G0 N L B a w G → q:=h
private theorem gL_ {p : Prop} {P : Program} {arr : Array Oper} {Q : Exit → Act → World → Prop} {l : List Oper} {a : Act} {w : World} (h : p → wpList P arr Q l a w) : p → wpList P arr Q l a w:=h
private theorem gC_ {p : Prop} {P : Program} {c : Code} {Q : Exit → Act → World → Prop} {a : Act} {w : World} (h : p → c.wp P Q a w) : p → c.wp P Q a w:=h
private theorem mixedOrders : Tryz.prog.follows .mixedOrders = true:=by kernel_rfl
theorem vl1 {p x y : Rat} : vlL [[p]] [x,y] = RR.of x + RR.of y * rt p:=by
  rw [El.vl_at (k:=1) (l:=[x,y]) (by decide) (Nat.le_refl 2)]
  rfl
theorem sg1 {p x y : Rat} (hp : 0 ≤ p) : sgL [[p]] [x,y] = surdF x y p:=by
  unfold sgL;rw [vl1,surd_sg hp]
theorem tok1 {p : Rat} (hp : 0 ≤ p) : TOK [[p]]:=by
  refine ⟨show 1 ≤ 5 by decide,fun j hj=>?_,fun j hj=>?_⟩
  · match j,hj with
    | 0,_=>rfl
  · match j,hj with
    | 0,_ =>
      show 0 ≤ vlL [[p]] [p]
      rw [El.vl_at (k:=0) (l:=[p]) (by decide) (Nat.le_refl 1)]
      exact RR.of_le (p:=0) |>.2 hp
theorem pw2 {k : Nat} (h : 1 ≤ k) {x y : Rat} : PW k [x,y]:=.inr ⟨1,h,rfl⟩
theorem pw1k {k : Nat} {x : Rat} : PW k [x]:=.inr ⟨0,Nat.zero_le _,rfl⟩
theorem sB1 {x r : Nat} : sB 1 x r = 4 * x + r + 1:=by simp only [sB,tB];omega
def sinA (g a b c : FR) (k : Rat) : Rat:=((b.val + c.val - (g.val + a.val)) * (b.val + c.val - (g.val + a.val)) + k * k * (4 * (a.val * g.val))) / (4 * (b.val * c.val))
def sinB (g a b c : FR) (k : Rat) : Rat:=(b.val + c.val - (g.val + a.val)) * k / (b.val * c.val)
def sinL (g a b c : FR) (k : Rat) : List Rat:=[1 - sinA g a b c k,-sinB g a b c k]
def sinC (g a b c k : FR) : Int:=if gapC g a b c k = 0 then (if nearF g a b c k.val < 0 ∨ farF g a b c k.val < 0 then 16 else 0) else gapC g a b c k
def midF (g a b c : FR) : Rat:=b.val + c.val - (g.val + a.val)
def atF (g a b c : FR) : Int:=if (midF g a b c).num.sign < 0 then -1 else 1
def rgtF (g a b c : FR) : Bool:=decide (cmpQ (midF g a b c * midF g a b c) (4 * (a.val * g.val)) ≤ 0)
def fulC (g a b c : FR) : Int:=if chkF [g,a,b,c] = 0 then (if fullF g a b c then 0 else 16) else chkF [g,a,b,c]
def leaL (g a b c : FR) : List Rat:=if fulC g a b c = 0 then sinL g a b c ((atF g a b c : Int) : Rat) else []
def mosL (g a b c : FR) : List Rat:=if fulC g a b c = 0 then (if rgtF g a b c then [1,0] else sinL g a b c ((-atF g a b c : Int) : Rat)) else []
def twoA (g a b c : FR) : List (List Rat):=if fulC g a b c = 0 then [[a.val * g.val]] else []
def alsC (g a b c m : FR) : Int:=if chkF [g,a,b,c] = 0 then (if m.ok then fulC g a b c else 2) else chkF [g,a,b,c]
noncomputable def alsF (g a b c m : FR) : Bool:=decide (alsC g a b c m = 0) && decide (sgL [[a.val * g.val]] (plusF (leaL g a b c) (minusF (shoF [m.val]))) ≥ 0)
theorem ag_posX {g a b c : FR} (h : [g,a,b,c].all posR = true) : 0 < a.val * g.val:=by
  simp only [List.all_cons,List.all_nil,Bool.and_true,Bool.and_eq_true] at h
  exact Rat.mul_pos (posR_val h.2.1) (posR_val h.1)
theorem bc_ne {g a b c : FR} (h : [g,a,b,c].all posR = true) : b.val * c.val ≠ 0 ∧ 4 * (b.val * c.val) ≠ 0:=by
  simp only [List.all_cons,List.all_nil,Bool.and_true,Bool.and_eq_true] at h
  have h1:=posR_val h.2.2.1;have h2:=posR_val h.2.2.2
  have h3:=Rat.mul_pos h1 h2
  exact ⟨fun e=>by grind,fun e=>by grind⟩
def rigF (g a b c : FR) : Int:=if fulC g a b c = 0 then (if rgtF g a b c then 0 else (midF g a b c).num.sign) else 0
theorem gap_chk {g a b c k : FR} (h : gapC g a b c k = 0) : chkF [g,a,b,c] = 0:=by
  unfold gapC at h
  split at h
  · assumption
  · omega
theorem sin_e1 {g a b c k : FR} (h : gapC g a b c k ≠ 0) : sinC g a b c k = gapC g a b c k:=by unfold sinC;rw [if_neg h]
theorem sin_e2 {g a b c k : FR} (h : ¬ gapC g a b c k ≠ 0) (hc : (decide ((if gapC g a b c k = 0 then nearF g a b c k.val else 0) < 0) || decide ((if gapC g a b c k = 0 then farF g a b c k.val else 0) < 0)) = true) : sinC g a b c k = 16:=by
  have h0 : gapC g a b c k = 0:=by omega
  rw [if_pos h0,if_pos h0,Bool.or_eq_true,decide_eq_true_eq,decide_eq_true_eq] at hc
  unfold sinC;rw [if_pos h0,if_pos hc]
theorem sin_e3 {g a b c k : FR} (h : ¬ gapC g a b c k ≠ 0) (hc : (decide ((if gapC g a b c k = 0 then nearF g a b c k.val else 0) < 0) || decide ((if gapC g a b c k = 0 then farF g a b c k.val else 0) < 0)) = false) : sinC g a b c k = 0:=by
  have h0 : gapC g a b c k = 0:=by omega
  rw [if_pos h0,if_pos h0,Bool.or_eq_false_iff,decide_eq_false_iff_not,decide_eq_false_iff_not] at hc
  unfold sinC;rw [if_pos h0,if_neg (by omega)]
theorem ful_1 {g a b c : FR} (hc : (decide (chkF [g,a,b,c] = 0) && !fullF g a b c) = true) : fulC g a b c = 16:=by
  rw [Bool.and_eq_true,decide_eq_true_eq,Bool.not_eq_true'] at hc
  unfold fulC;rw [if_pos hc.1,hc.2];rfl
theorem ful_2 {g a b c : FR} (hc : (decide (chkF [g,a,b,c] = 0) && !fullF g a b c) = false) : fulC g a b c = chkF [g,a,b,c]:=by
  unfold fulC
  by_cases h : chkF [g,a,b,c] = 0
  · rw [decide_eq_true h,Bool.true_and,Bool.not_eq_false'] at hc
    rw [if_pos h,hc,h];rfl
  · rw [if_neg h]
theorem ful_chk {g a b c : FR} (h : fulC g a b c = 0) : chkF [g,a,b,c] = 0 ∧ fullF g a b c = true:=by
  unfold fulC at h
  split at h
  · refine ⟨by assumption,?_⟩
    split at h
    · assumption
    · cases h
  · omega
theorem ful_all {g a b c : FR} (h : fulC g a b c = 0) : [g,a,b,c].all posR = true:=chk_pos (ful_chk h).1
theorem at_1 {g a b c : FR} (h : ¬ (midF g a b c).num.sign < 0) : atF g a b c = 1:=if_neg h
theorem at_m {g a b c : FR} (h : (midF g a b c).num.sign < 0) : atF g a b c = -1:=if_pos h
theorem twoA_0 {g a b c : FR} (h : fulC g a b c ≠ 0) : twoA g a b c = [] ∧ leaL g a b c = [] ∧ mosL g a b c = []:=⟨if_neg h,if_neg h,if_neg h⟩
theorem twoA_1 {g a b c : FR} (h : ¬ fulC g a b c ≠ 0) : twoA g a b c = [[a.val * g.val]] ∧ leaL g a b c = sinL g a b c ((atF g a b c : Int) : Rat) ∧ mosL g a b c = (if rgtF g a b c then [1,0] else sinL g a b c ((-atF g a b c : Int) : Rat)):=⟨if_pos (by omega),if_pos (by omega),if_pos (by omega)⟩
theorem pw_sho {k : Nat} {x : Rat} : PW k (shoF [x]):=by
  by_cases h : x = 0
  · subst h;rw [show shoF [0] = [] by decide +kernel];exact .inl rfl
  · rw [show shoF [x] = [x] from sho_of (k:=0) (by decide) (.inr ⟨0,Nat.le_refl _,rfl⟩) (.inr (.inl ⟨rfl,h⟩))];exact .inr ⟨0,Nat.zero_le _,rfl⟩
theorem als_sg {g a b c m : FR} (h0 : ¬ chkF [g,a,b,c] ≠ 0) (h1 : (!m.ok) = false) (h : ¬ fulC g a b c ≠ 0) : alsF g a b c m = decide (sgL (twoA g a b c) (plusF (leaL g a b c) (minusF (shoF [m.val]))) ≥ 0) ∧ alsC g a b c m = 0:=by
  have e : alsC g a b c m = 0:=by unfold alsC;rw [if_pos (by omega),if_pos (by simpa using h1)];omega
  refine ⟨?_,e⟩
  unfold alsF twoA;rw [decide_eq_true e,if_pos (by omega),Bool.true_and]
theorem als_1 {g a b c m : FR} (h : chkF [g,a,b,c] ≠ 0) : alsC g a b c m = chkF [g,a,b,c]:=if_neg h
theorem als_2 {g a b c m : FR} (h : ¬ chkF [g,a,b,c] ≠ 0) (h2 : (!m.ok) = true) : alsC g a b c m = 2:=by unfold alsC;rw [if_pos (by omega),if_neg (by simpa using h2)]
theorem als_3 {g a b c m : FR} (h : ¬ chkF [g,a,b,c] ≠ 0) (h2 : (!m.ok) = false) : alsC g a b c m = fulC g a b c:=by unfold alsC;rw [if_pos (by omega),if_pos (by simpa using h2)]
theorem alsF_0 {g a b c m : FR} (h : alsC g a b c m ≠ 0) : alsF g a b c m = false:=by unfold alsF;rw [decide_eq_false h];rfl
attribute [local irreducible] plusF minusF joinF levI lev PW RLN tB sB timesF stepF tmF normF shoF TOK sgL surdsF surdF chkF gapC fullF nearF farF
theorem w73 {n : Nat} {rg ra rb rc : FR} : Con Tryz.prog 73 [QUD n rg ra rb rc] (1000 * n + 100000 ≤ BIG) (TWR (n + n) [[ra.val * rg.val]]):=.o1 fun hok h1 hp=>by
  refine St.enter (N:=11) Tryz.func73 rfl rfl rfl hok (enter1 h1) fun a=>?_
  have hn1:=qud_pos h1
  repeat' (first|((with_reducible refine gS_ ?_);first|((with_reducible refine gL_ ?_);first|refine W.run ?_ fun a w G=>?_|refine W.mv fun a w G=>?_|refine W.asg fun a w G=>?_|refine W.bx fun b a w G=>?_|(refine W.nn hK ?_;clear hK K)|refine W.nl ?_|refine W.al fun b a w G=>?_|refine W.st fun w=>?_|refine W.stp fun w=>?_|refine W.ste ?_ fun w=>?_)|((with_reducible refine gC_ ?_);first|refine W.reg fun K hK=>?_|refine W.reg1 ?_|refine W.sq fun K hK=>?_|refine W.ds ?_ (fun β a w G hu=>W.fin ?_ hu) mixedOrders (by kernel_rfl)|refine W.sk ?_|refine W.cd (fun hc=>?_) (fun hc=>?_)|refine W.cb (fun hc=>?_) (fun hc=>?_)|refine W.bl ?_|refine W.ex ?_|refine W.rt ?_)|((with_reducible refine W.kn hK ?_);clear hK K)|(with_reducible first|refine W.bn ?_|refine W.xt ?_|refine W.xb ?_|refine W.xo ?_|refine W.tr ?_|refine W.br ?_)|refine W.rt1 rfl ?_|refine W.rt2 rfl ?_ ?_|refine W.rt3 rfl ?_ ?_ ?_)|clear hK K|clear hu|exact True.intro|exact Nat.le_trans (by clear hp;omega) hp|exact Nat.le_trans (by clear hp;omega) hp.1|exact Nat.le_trans (by clear hp;omega) hp.2|(clear hp;omega)|apply And.intro|refine GI.i fun _=>?_|with_reducible rfl|decide|(simp only [List.length_cons,List.length_nil];omega))
instance {n : Nat} {rg ra rb rc : FR} {τ1 : MT} [j1 : NF τ1 (QUD n rg ra rb rc)] : Con Tryz.prog 73 [τ1] (1000 * n + 100000 ≤ BIG) (TWR (n + n) [[ra.val * rg.val]]):=.o1 fun hok h1 hp=>w73.c1 hok (j1.h h1) hp
theorem w70 {n : Nat} {rg ra rb rc : FR} : Con Tryz.prog 70 [QUD n rg ra rb rc] (1000 * n + 100000 ≤ BIG) (QC (4 * n + 3) (midF rg ra rb rc)):=.o1 fun hok h1 hp=>by
  refine St.enter (N:=14) Tryz.func70 rfl rfl rfl hok (enter1 h1) fun a=>?_
  have hn1:=qud_pos h1
  repeat' (first|((with_reducible refine gS_ ?_);first|((with_reducible refine gL_ ?_);first|refine W.run ?_ fun a w G=>?_|refine W.mv fun a w G=>?_|refine W.asg fun a w G=>?_|refine W.bx fun b a w G=>?_|(refine W.nn hK ?_;clear hK K)|refine W.nl ?_|refine W.al fun b a w G=>?_|refine W.st fun w=>?_|refine W.stp fun w=>?_|refine W.ste ?_ fun w=>?_)|((with_reducible refine gC_ ?_);first|refine W.reg fun K hK=>?_|refine W.reg1 ?_|refine W.sq fun K hK=>?_|refine W.ds ?_ (fun β a w G hu=>W.fin ?_ hu) mixedOrders (by kernel_rfl)|refine W.sk ?_|refine W.cd (fun hc=>?_) (fun hc=>?_)|refine W.cb (fun hc=>?_) (fun hc=>?_)|refine W.bl ?_|refine W.ex ?_|refine W.rt ?_)|((with_reducible refine W.kn hK ?_);clear hK K)|(with_reducible first|refine W.bn ?_|refine W.xt ?_|refine W.xb ?_|refine W.xo ?_|refine W.tr ?_|refine W.br ?_)|refine W.rt1 rfl ?_|refine W.rt2 rfl ?_ ?_|refine W.rt3 rfl ?_ ?_ ?_)|clear hK K|clear hu|exact True.intro|exact Nat.le_trans (by clear hp;omega) hp|exact Nat.le_trans (by clear hp;omega) hp.1|exact Nat.le_trans (by clear hp;omega) hp.2|(clear hp;omega)|apply And.intro|refine GI.i fun _=>?_|with_reducible rfl|decide|(simp only [List.length_cons,List.length_nil];omega))
  all_goals first | omega | rfl | skip
instance {n : Nat} {rg ra rb rc : FR} {τ1 : MT} [j1 : NF τ1 (QUD n rg ra rb rc)] : Con Tryz.prog 70 [τ1] (1000 * n + 100000 ≤ BIG) (QC (4 * n + 3) (midF rg ra rb rc)):=.o1 fun hok h1 hp=>w70.c1 hok (j1.h h1) hp
theorem w135 {n : Nat} {x : Rat} : Con Tryz.prog 135 [QV n x] (n + n ≤ BIG) (QC (n + n) (x * x)):=.o1 fun hok h1 hp=>by
  refine St.enter (N:=6) Tryz.func135 rfl rfl rfl hok (enter1 h1) fun a=>?_
  repeat' (first|((with_reducible refine gS_ ?_);first|((with_reducible refine gL_ ?_);first|refine W.run ?_ fun a w G=>?_|refine W.mv fun a w G=>?_|refine W.asg fun a w G=>?_|refine W.bx fun b a w G=>?_|(refine W.nn hK ?_;clear hK K)|refine W.nl ?_|refine W.al fun b a w G=>?_|refine W.st fun w=>?_|refine W.stp fun w=>?_|refine W.ste ?_ fun w=>?_)|((with_reducible refine gC_ ?_);first|refine W.reg fun K hK=>?_|refine W.reg1 ?_|refine W.sq fun K hK=>?_|refine W.ds ?_ (fun β a w G hu=>W.fin ?_ hu) mixedOrders (by kernel_rfl)|refine W.sk ?_|refine W.cd (fun hc=>?_) (fun hc=>?_)|refine W.cb (fun hc=>?_) (fun hc=>?_)|refine W.bl ?_|refine W.ex ?_|refine W.rt ?_)|((with_reducible refine W.kn hK ?_);clear hK K)|(with_reducible first|refine W.bn ?_|refine W.xt ?_|refine W.xb ?_|refine W.xo ?_|refine W.tr ?_|refine W.br ?_)|refine W.rt1 rfl ?_|refine W.rt2 rfl ?_ ?_|refine W.rt3 rfl ?_ ?_ ?_)|clear hK K|clear hu|exact True.intro|exact Nat.le_trans (by clear hp;omega) hp|exact Nat.le_trans (by clear hp;omega) hp.1|exact Nat.le_trans (by clear hp;omega) hp.2|(clear hp;omega)|apply And.intro|refine GI.i fun _=>?_|with_reducible rfl|decide|(simp only [List.length_cons,List.length_nil];omega))
instance {n : Nat} {x : Rat} {τ1 : MT} [j1 : NQ τ1 (QV n x)] : Con Tryz.prog 135 [τ1] (n + n ≤ BIG) (QC (n + n) (x * x)):=.o1 fun hok h1 hp=>w135.c1 hok (j1.h h1) hp
theorem w136 {n m : Nat} {x y : Rat} : Con Tryz.prog 136 [QV n x,QV m y] (64 + (n + m) ≤ BIG) (QC (64 + (n + m)) (4 * (x * y))):=.o2 fun hok h1 h2 hp=>by
  refine St.enter (N:=10) Tryz.func136 rfl rfl rfl hok (enter2 h1 h2) fun a=>?_
  repeat' (first|((with_reducible refine gS_ ?_);first|((with_reducible refine gL_ ?_);first|refine W.run ?_ fun a w G=>?_|refine W.mv fun a w G=>?_|refine W.asg fun a w G=>?_|refine W.bx fun b a w G=>?_|(refine W.nn hK ?_;clear hK K)|refine W.nl ?_|refine W.al fun b a w G=>?_|refine W.st fun w=>?_|refine W.stp fun w=>?_|refine W.ste ?_ fun w=>?_)|((with_reducible refine gC_ ?_);first|refine W.reg fun K hK=>?_|refine W.reg1 ?_|refine W.sq fun K hK=>?_|refine W.ds ?_ (fun β a w G hu=>W.fin ?_ hu) mixedOrders (by kernel_rfl)|refine W.sk ?_|refine W.cd (fun hc=>?_) (fun hc=>?_)|refine W.cb (fun hc=>?_) (fun hc=>?_)|refine W.bl ?_|refine W.ex ?_|refine W.rt ?_)|((with_reducible refine W.kn hK ?_);clear hK K)|(with_reducible first|refine W.bn ?_|refine W.xt ?_|refine W.xb ?_|refine W.xo ?_|refine W.tr ?_|refine W.br ?_)|refine W.rt1 rfl ?_|refine W.rt2 rfl ?_ ?_|refine W.rt3 rfl ?_ ?_ ?_)|clear hK K|clear hu|exact True.intro|exact Nat.le_trans (by clear hp;omega) hp|exact Nat.le_trans (by clear hp;omega) hp.1|exact Nat.le_trans (by clear hp;omega) hp.2|(clear hp;omega)|apply And.intro|refine GI.i fun _=>?_|with_reducible rfl|decide|(simp only [List.length_cons,List.length_nil];omega))
instance {n m : Nat} {x y : Rat} {τ1 : MT} [j1 : NQ τ1 (QV n x)] {τ2 : MT} [j2 : NQ τ2 (QV m y)] : Con Tryz.prog 136 [τ1,τ2] (64 + (n + m) ≤ BIG) (QC (64 + (n + m)) (4 * (x * y))):=.o2 fun hok h1 h2 hp=>w136.c2 hok (j1.h h1) (j2.h h2) hp
theorem w71 {n m : Nat} {rg ra rb rc : FR} {k : Rat} : Con Tryz.prog 71 [QUD n rg ra rb rc,QV m k] (1000 * n + 1000 * m + 200000 ≤ BIG ∧ [rg,ra,rb,rc].all posR = true) (MT.tup2 (NM (12 * n + 2 * m + 200) (sinL rg ra rb rc k)) (.ex (errV 69 (0)))):=.o2 fun hok h1 h2 hp=>by
  refine St.enter (N:=56) Tryz.func71 rfl rfl rfl hok (enter2 h1 h2) fun a=>?_
  have hn1:=qud_pos h1
  repeat' (first|((with_reducible refine gS_ ?_);first|((with_reducible refine gL_ ?_);first|refine W.run ?_ fun a w G=>?_|refine W.mv fun a w G=>?_|refine W.asg fun a w G=>?_|refine W.bx fun b a w G=>?_|(refine W.nn hK ?_;clear hK K)|refine W.nl ?_|refine W.al fun b a w G=>?_|refine W.st fun w=>?_|refine W.stp fun w=>?_|refine W.ste ?_ fun w=>?_)|((with_reducible refine gC_ ?_);first|refine W.reg fun K hK=>?_|refine W.reg1 ?_|refine W.sq fun K hK=>?_|refine W.ds ?_ (fun β a w G hu=>W.fin ?_ hu) mixedOrders (by kernel_rfl)|refine W.sk ?_|refine W.cd (fun hc=>?_) (fun hc=>?_)|refine W.cb (fun hc=>?_) (fun hc=>?_)|refine W.bl ?_|refine W.ex ?_|refine W.rt ?_)|((with_reducible refine W.kn hK ?_);clear hK K)|(with_reducible first|refine W.bn ?_|refine W.xt ?_|refine W.xb ?_|refine W.xo ?_|refine W.tr ?_|refine W.br ?_)|refine W.rt1 rfl ?_|refine W.rt2 rfl ?_ ?_|refine W.rt3 rfl ?_ ?_ ?_)|clear hK K|clear hu|exact True.intro|exact Nat.le_trans (by clear hp;omega) hp|exact Nat.le_trans (by clear hp;omega) hp.1|exact Nat.le_trans (by clear hp;omega) hp.2|(clear hp;omega)|apply And.intro|refine GI.i fun _=>?_|with_reducible rfl|decide|(simp only [List.length_cons,List.length_nil];omega))
  all_goals (have hbc:=bc_ne hp.2)
  all_goals first
    | omega
    | exact hbc.1
    | exact hbc.2
    | rfl
    | skip
instance {n m : Nat} {rg ra rb rc : FR} {k : Rat} {τ1 : MT} [j1 : NF τ1 (QUD n rg ra rb rc)] {τ2 : MT} [j2 : NQ τ2 (QV m k)] : Con Tryz.prog 71 [τ1,τ2] (1000 * n + 1000 * m + 200000 ≤ BIG ∧ [rg,ra,rb,rc].all posR = true) (MT.tup2 (NM (12 * n + 2 * m + 200) (sinL rg ra rb rc k)) (.ex (errV 69 (0)))):=.o2 fun hok h1 h2 hp=>w71.c2 hok (j1.h h1) (j2.h h2) hp
theorem w44 {n m : Nat} {rg ra rb rc rk : FR} : Con Tryz.prog 44 [QUD n rg ra rb rc,FX m rk] (1000 * n + 1000 * m + 200000 ≤ BIG) (MT.tup3 (TWR (n + n) (if sinC rg ra rb rc rk = 0 then [[ra.val * rg.val]] else [])) (NM (12 * n + 2 * m + 200) (if sinC rg ra rb rc rk = 0 then sinL rg ra rb rc rk.val else [])) (.ex (errV 69 (sinC rg ra rb rc rk)))):=.o2 fun hok h1 h2 hp=>by
  refine St.enter (N:=43) Tryz.func44 rfl rfl rfl hok (enter2 h1 h2) fun a=>?_
  have hn1:=qud_pos h1
  repeat' (first|((with_reducible refine gS_ ?_);first|((with_reducible refine gL_ ?_);first|refine W.run ?_ fun a w G=>?_|refine W.mv fun a w G=>?_|refine W.asg fun a w G=>?_|refine W.bx fun b a w G=>?_|(refine W.nn hK ?_;clear hK K)|refine W.nl ?_|refine W.al fun b a w G=>?_|refine W.st fun w=>?_|refine W.stp fun w=>?_|refine W.ste ?_ fun w=>?_)|((with_reducible refine gC_ ?_);first|refine W.reg fun K hK=>?_|refine W.reg1 ?_|refine W.sq fun K hK=>?_|refine W.ds ?_ (fun β a w G hu=>W.fin ?_ hu) mixedOrders (by kernel_rfl)|refine W.sk ?_|refine W.cd (fun hc=>?_) (fun hc=>?_)|refine W.cb (fun hc=>?_) (fun hc=>?_)|refine W.bl ?_|refine W.ex ?_|refine W.rt ?_)|((with_reducible refine W.kn hK ?_);clear hK K)|(with_reducible first|refine W.bn ?_|refine W.xt ?_|refine W.xb ?_|refine W.xo ?_|refine W.tr ?_|refine W.br ?_)|refine W.rt1 rfl ?_|refine W.rt2 rfl ?_ ?_|refine W.rt3 rfl ?_ ?_ ?_)|clear hK K|clear hu|exact True.intro|exact Nat.le_trans (by clear hp;omega) hp|exact Nat.le_trans (by clear hp;omega) hp.1|exact Nat.le_trans (by clear hp;omega) hp.2|(clear hp;omega)|apply And.intro|refine GI.i fun _=>?_|with_reducible rfl|decide|(simp only [List.length_cons,List.length_nil];omega))
  all_goals first
    | omega
    | exact chk_pos (gap_chk (k:=rk) (by omega))
    | exact sin_e1 (by assumption)
    | exact sin_e2 (by assumption) (by assumption)
    | exact sin_e3 (by assumption) (by assumption)
    | exact (sin_e1 (by assumption)).symm
    | exact (sin_e2 (by assumption) (by assumption)).symm
    | exact (sin_e3 (by assumption) (by assumption)).symm
    | (rw [sin_e1 (by assumption),if_neg (by assumption)];done)
    | (rw [sin_e2 (by assumption) (by assumption)];rfl)
    | (rw [sin_e3 (by assumption) (by assumption)];rfl)
    | skip
instance {n m : Nat} {rg ra rb rc rk : FR} {τ1 : MT} [j1 : NF τ1 (QUD n rg ra rb rc)] {τ2 : MT} [j2 : NF τ2 (FX m rk)] : Con Tryz.prog 44 [τ1,τ2] (1000 * n + 1000 * m + 200000 ≤ BIG) (MT.tup3 (TWR (n + n) (if sinC rg ra rb rc rk = 0 then [[ra.val * rg.val]] else [])) (NM (12 * n + 2 * m + 200) (if sinC rg ra rb rc rk = 0 then sinL rg ra rb rc rk.val else [])) (.ex (errV 69 (sinC rg ra rb rc rk)))):=.o2 fun hok h1 h2 hp=>w44.c2 hok (j1.h h1) (j2.h h2) hp
theorem w69 {n : Nat} {rg ra rb rc : FR} : Con Tryz.prog 69 [QUD n rg ra rb rc] (1000 * n + 300000 ≤ BIG) (.ex (errV 69 (fulC rg ra rb rc))):=.o1 fun hok h1 hp=>by
  refine St.enter (N:=18) Tryz.func69 rfl rfl rfl hok (enter1 h1) fun a=>?_
  have hn1:=qud_pos h1
  repeat' (first|((with_reducible refine gS_ ?_);first|((with_reducible refine gL_ ?_);first|refine W.run ?_ fun a w G=>?_|refine W.mv fun a w G=>?_|refine W.asg fun a w G=>?_|refine W.bx fun b a w G=>?_|(refine W.nn hK ?_;clear hK K)|refine W.nl ?_|refine W.al fun b a w G=>?_|refine W.st fun w=>?_|refine W.stp fun w=>?_|refine W.ste ?_ fun w=>?_)|((with_reducible refine gC_ ?_);first|refine W.reg fun K hK=>?_|refine W.reg1 ?_|refine W.sq fun K hK=>?_|refine W.ds ?_ (fun β a w G hu=>W.fin ?_ hu) mixedOrders (by kernel_rfl)|refine W.sk ?_|refine W.cd (fun hc=>?_) (fun hc=>?_)|refine W.cb (fun hc=>?_) (fun hc=>?_)|refine W.bl ?_|refine W.ex ?_|refine W.rt ?_)|((with_reducible refine W.kn hK ?_);clear hK K)|(with_reducible first|refine W.bn ?_|refine W.xt ?_|refine W.xb ?_|refine W.xo ?_|refine W.tr ?_|refine W.br ?_)|refine W.rt1 rfl ?_|refine W.rt2 rfl ?_ ?_|refine W.rt3 rfl ?_ ?_ ?_)|clear hK K|clear hu|exact True.intro|exact Nat.le_trans (by clear hp;omega) hp|exact Nat.le_trans (by clear hp;omega) hp.1|exact Nat.le_trans (by clear hp;omega) hp.2|(clear hp;omega)|apply And.intro|refine GI.i fun _=>?_|with_reducible rfl|decide|(simp only [List.length_cons,List.length_nil];omega))
  all_goals first
    | omega
    | exact (ful_1 (by assumption)).symm
    | exact (ful_2 (by assumption)).symm
    | skip
instance {n : Nat} {rg ra rb rc : FR} {τ1 : MT} [j1 : NF τ1 (QUD n rg ra rb rc)] : Con Tryz.prog 69 [τ1] (1000 * n + 300000 ≤ BIG) (.ex (errV 69 (fulC rg ra rb rc))):=.o1 fun hok h1 hp=>w69.c1 hok (j1.h h1) hp
theorem w72 {n : Nat} {rg ra rb rc : FR} : Con Tryz.prog 72 [QUD n rg ra rb rc] (1000 * n + 300000 ≤ BIG) (BT (rgtF rg ra rb rc)):=.o1 fun hok h1 hp=>by
  refine St.enter (N:=13) Tryz.func72 rfl rfl rfl hok (enter1 h1) fun a=>?_
  have hn1:=qud_pos h1
  repeat' (first|((with_reducible refine gS_ ?_);first|((with_reducible refine gL_ ?_);first|refine W.run ?_ fun a w G=>?_|refine W.mv fun a w G=>?_|refine W.asg fun a w G=>?_|refine W.bx fun b a w G=>?_|(refine W.nn hK ?_;clear hK K)|refine W.nl ?_|refine W.al fun b a w G=>?_|refine W.st fun w=>?_|refine W.stp fun w=>?_|refine W.ste ?_ fun w=>?_)|((with_reducible refine gC_ ?_);first|refine W.reg fun K hK=>?_|refine W.reg1 ?_|refine W.sq fun K hK=>?_|refine W.ds ?_ (fun β a w G hu=>W.fin ?_ hu) mixedOrders (by kernel_rfl)|refine W.sk ?_|refine W.cd (fun hc=>?_) (fun hc=>?_)|refine W.cb (fun hc=>?_) (fun hc=>?_)|refine W.bl ?_|refine W.ex ?_|refine W.rt ?_)|((with_reducible refine W.kn hK ?_);clear hK K)|(with_reducible first|refine W.bn ?_|refine W.xt ?_|refine W.xb ?_|refine W.xo ?_|refine W.tr ?_|refine W.br ?_)|refine W.rt1 rfl ?_|refine W.rt2 rfl ?_ ?_|refine W.rt3 rfl ?_ ?_ ?_)|clear hK K|clear hu|exact True.intro|exact Nat.le_trans (by clear hp;omega) hp|exact Nat.le_trans (by clear hp;omega) hp.1|exact Nat.le_trans (by clear hp;omega) hp.2|(clear hp;omega)|apply And.intro|refine GI.i fun _=>?_|with_reducible rfl|decide|(simp only [List.length_cons,List.length_nil];omega))
  all_goals first | omega | rfl | skip
instance {n : Nat} {rg ra rb rc : FR} {τ1 : MT} [j1 : NF τ1 (QUD n rg ra rb rc)] : Con Tryz.prog 72 [τ1] (1000 * n + 300000 ≤ BIG) (BT (rgtF rg ra rb rc)):=.o1 fun hok h1 hp=>w72.c1 hok (j1.h h1) hp
attribute [local irreducible] sinC fulC leaL mosL alsC alsF rigF rgtF atF twoA sinA sinB sinL
theorem w16 {n : Nat} {rg ra rb rc : FR} : Con Tryz.prog 16 [QUD n rg ra rb rc] (1000 * n + 300000 ≤ BIG) (MT.tup5 (TWR (n + n) (twoA rg ra rb rc)) (NM (12 * n + 400) (leaL rg ra rb rc)) (NM (12 * n + 400) (mosL rg ra rb rc)) (IT (if fulC rg ra rb rc = 0 then atF rg ra rb rc else 0)) (.ex (errV 69 (fulC rg ra rb rc)))):=.o1 fun hok h1 hp=>by
  refine St.enter (N:=51) Tryz.func16 rfl rfl rfl hok (enter1 h1) fun a=>?_
  have hn1:=qud_pos h1
  repeat' (first|with_reducible refine W.gc 7 3 [4,6] ?_|with_reducible refine W.gc 12 6 [4] ?_|((with_reducible refine gS_ ?_);first|((with_reducible refine gL_ ?_);first|refine W.run ?_ fun a w G=>?_|refine W.mv fun a w G=>?_|refine W.asg fun a w G=>?_|refine W.bx fun b a w G=>?_|(refine W.nn hK ?_;clear hK K)|refine W.nl ?_|refine W.al fun b a w G=>?_|refine W.st fun w=>?_|refine W.stp fun w=>?_|refine W.ste ?_ fun w=>?_)|((with_reducible refine gC_ ?_);first|refine W.reg fun K hK=>?_|refine W.reg1 ?_|refine W.sq fun K hK=>?_|refine W.ds ?_ (fun β a w G hu=>W.fin ?_ hu) mixedOrders (by kernel_rfl)|refine W.sk ?_|refine W.cd (fun hc=>?_) (fun hc=>?_)|refine W.cb (fun hc=>?_) (fun hc=>?_)|refine W.bl ?_|refine W.ex ?_|refine W.rt ?_)|((with_reducible refine W.kn hK ?_);clear hK K)|(with_reducible first|refine W.bn ?_|refine W.xt ?_|refine W.xb ?_|refine W.xo ?_|refine W.tr ?_|refine W.br ?_)|refine W.rt1 rfl ?_|refine W.rt2 rfl ?_ ?_|refine W.rt3 rfl ?_ ?_ ?_)|refine W.rt5 rfl ?_ ?_ ?_ ?_ ?_|refine W.rt4 rfl ?_ ?_ ?_ ?_|clear hK K|clear hu|exact True.intro|exact Nat.le_trans (by clear hp;omega) hp|exact Nat.le_trans (by clear hp;omega) hp.1|exact Nat.le_trans (by clear hp;omega) hp.2|(clear hp;omega)|apply And.intro|refine GI.i fun _=>?_|with_reducible rfl|decide|(simp only [List.length_cons,List.length_nil];omega))
  all_goals first
    | omega
    | exact ful_all (by omega)
    | exact (twoA_0 (by assumption)).1.symm
    | exact (twoA_0 (by assumption)).2.1.symm
    | exact (twoA_0 (by assumption)).2.2.symm
    | exact (twoA_0 (by assumption)).1
    | exact (twoA_0 (by assumption)).2.1
    | exact (twoA_0 (by assumption)).2.2
    | (rw [if_neg (by assumption)];done)
    | exact (twoA_1 (by assumption)).1.symm
    | (rw [if_pos (by omega)];first | exact (at_1 (by assumption)).symm | exact (at_m (by assumption)).symm)
    | (rw [(twoA_1 (by assumption)).2.1];first | (rw [at_1 (by assumption)] <;> rfl) | (rw [at_m (by assumption)] <;> rfl))
    | (rw [(twoA_1 (by assumption)).2.2,if_pos (by assumption)];done)
    | (rw [(twoA_1 (by assumption)).2.2,if_neg (by simp_all)];first | (rw [at_1 (by assumption)] <;> rfl) | (rw [at_m (by assumption)] <;> rfl))
    | skip
instance {n : Nat} {rg ra rb rc : FR} {τ1 : MT} [j1 : NF τ1 (QUD n rg ra rb rc)] : Con Tryz.prog 16 [τ1] (1000 * n + 300000 ≤ BIG) (MT.tup5 (TWR (n + n) (twoA rg ra rb rc)) (NM (12 * n + 400) (leaL rg ra rb rc)) (NM (12 * n + 400) (mosL rg ra rb rc)) (IT (if fulC rg ra rb rc = 0 then atF rg ra rb rc else 0)) (.ex (errV 69 (fulC rg ra rb rc)))):=.o1 fun hok h1 hp=>w16.c1 hok (j1.h h1) hp
theorem w17 {n m : Nat} {rg ra rb rc rm : FR} : Con Tryz.prog 17 [QUD n rg ra rb rc,FX m rm] (1000 * n + 1000 * m + 300000 ≤ BIG) (MT.tup2 (BT (alsF rg ra rb rc rm)) (.ex (errV 69 (alsC rg ra rb rc rm)))):=.o2 fun hok h1 h2 hp=>by
  refine St.enter (N:=48) Tryz.func17 rfl rfl rfl hok (enter2 h1 h2) fun a=>?_
  have hn1:=qud_pos h1
  repeat' (first|((with_reducible refine gS_ ?_);first|((with_reducible refine gL_ ?_);first|refine W.run ?_ fun a w G=>?_|refine W.mv fun a w G=>?_|refine W.asg fun a w G=>?_|refine W.bx fun b a w G=>?_|(refine W.nn hK ?_;clear hK K)|refine W.nl ?_|refine W.al fun b a w G=>?_|refine W.st fun w=>?_|refine W.stp fun w=>?_|refine W.ste ?_ fun w=>?_)|((with_reducible refine gC_ ?_);first|refine W.reg fun K hK=>?_|refine W.reg1 ?_|refine W.sq fun K hK=>?_|refine W.ds ?_ (fun β a w G hu=>W.fin ?_ hu) mixedOrders (by kernel_rfl)|refine W.sk ?_|refine W.cd (fun hc=>?_) (fun hc=>?_)|refine W.cb (fun hc=>?_) (fun hc=>?_)|refine W.bl ?_|refine W.ex ?_|refine W.rt ?_)|((with_reducible refine W.kn hK ?_);clear hK K)|(with_reducible first|refine W.bn ?_|refine W.xt ?_|refine W.xb ?_|refine W.xo ?_|refine W.tr ?_|refine W.br ?_)|refine W.rt1 rfl ?_|refine W.rt2 rfl ?_ ?_|refine W.rt3 rfl ?_ ?_ ?_)|clear hK K|clear hu|exact True.intro|exact Nat.le_trans (by clear hp;omega) hp|exact Nat.le_trans (by clear hp;omega) hp.1|exact Nat.le_trans (by clear hp;omega) hp.2|(clear hp;omega)|apply And.intro|refine GI.i fun _=>?_|with_reducible rfl|decide|(simp only [List.length_cons,List.length_nil];omega))
  all_goals first
    | omega
    | exact (als_1 (by assumption)).symm
    | exact (als_2 (by assumption) (by assumption)).symm
    | exact (als_3 (by assumption) (by assumption)).symm
    | exact (als_sg (by assumption) (by assumption) (by assumption)).2.symm
    | (rw [(als_sg (by assumption) (by assumption) (by assumption)).1];rfl)
    | exact pw_sho
    | (rw [(twoA_1 (by assumption)).1]; first
       | exact tok1 (Rat.le_of_lt (ag_posX (b:=rb) (c:=rc) (ful_all (by omega))))
       | (show sB 1 _ _ ≤ BIG;rw [sB1];omega)
       | (rw [(twoA_1 (by assumption)).2.1];unfold sinL;exact pw2 (Nat.le_refl 1)))
    | (rw [alsF_0 (by rw [als_1 (by assumption)];assumption)];done)
    | (rw [alsF_0 (by rw [als_2 (by assumption) (by assumption)];decide)];done)
    | (rw [alsF_0 (by rw [als_3 (by assumption) (by assumption)];assumption)];done)
    | skip
instance {n m : Nat} {rg ra rb rc rm : FR} {τ1 : MT} [j1 : NF τ1 (QUD n rg ra rb rc)] {τ2 : MT} [j2 : NF τ2 (FX m rm)] : Con Tryz.prog 17 [τ1,τ2] (1000 * n + 1000 * m + 300000 ≤ BIG) (MT.tup2 (BT (alsF rg ra rb rc rm)) (.ex (errV 69 (alsC rg ra rb rc rm)))):=.o2 fun hok h1 h2 hp=>w17.c2 hok (j1.h h1) (j2.h h2) hp
end Go.Proofs.YtdbdnabpaadigaaGreat
set_option linter.unusedVariables false
set_option linter.unusedSimpArgs false
set_option maxHeartbeats 4000000
set_option maxRecDepth 100000
set_option synthInstance.maxSize 100000
set_option synthInstance.maxHeartbeats 400000
namespace Go.Proofs.YtdbdnabpaadigaaGreat
open Go.RowKit (Below)
attribute [local irreducible] Go.Code.wp Go.wpList Go.bodyPost
attribute [local irreducible] plusF minusF joinF levI lev PW RLN tB sB timesF stepF tmF normF TOK sgL surdsF chkF gapC fullF
instance  : Con Tryz.prog 66 [] (True) (QUD 64 (FR.of 16) (FR.of 1) (FR.of 9) (FR.of 9)):=.o0 fun hok  hp=>by
  refine St.enter (N:=6) Tryz.func66 rfl rfl rfl hok enter0 fun a=>?_
  repeat' (first|((with_reducible refine gS_ ?_);first|((with_reducible refine gL_ ?_);first|refine W.run ?_ fun a w G=>?_|refine W.mv fun a w G=>?_|refine W.asg fun a w G=>?_|refine W.bx fun b a w G=>?_|(refine W.nn hK ?_;clear hK K)|refine W.nl ?_|refine W.al fun b a w G=>?_|refine W.st fun w=>?_|refine W.stp fun w=>?_|refine W.ste ?_ fun w=>?_)|((with_reducible refine gC_ ?_);first|refine W.reg fun K hK=>?_|refine W.reg1 ?_|refine W.sq fun K hK=>?_|refine W.ds ?_ (fun β a w G hu=>W.fin ?_ hu) mixedOrders (by kernel_rfl)|refine W.sk ?_|refine W.cd (fun hc=>?_) (fun hc=>?_)|refine W.cb (fun hc=>?_) (fun hc=>?_)|refine W.bl ?_|refine W.ex ?_|refine W.rt ?_)|((with_reducible refine W.kn hK ?_);clear hK K)|(with_reducible first|refine W.bn ?_|refine W.xt ?_|refine W.xb ?_|refine W.xo ?_|refine W.tr ?_|refine W.br ?_)|refine W.rt1 rfl ?_|refine W.rt2 rfl ?_ ?_|refine W.rt3 rfl ?_ ?_ ?_)|clear hK K|clear hu|exact True.intro|exact Nat.le_trans (by clear hp;omega) hp|exact Nat.le_trans (by clear hp;omega) hp.1|exact Nat.le_trans (by clear hp;omega) hp.2|(clear hp;omega)|apply And.intro|refine GI.i fun _=>?_|with_reducible rfl|decide|(simp only [List.length_cons,List.length_nil];omega))
end Go.Proofs.YtdbdnabpaadigaaGreat
set_option linter.unusedVariables false
set_option linter.unusedSimpArgs false
set_option maxHeartbeats 4000000
set_option maxRecDepth 100000
set_option synthInstance.maxSize 100000
set_option synthInstance.maxHeartbeats 400000
namespace Go.Proofs.YtdbdnabpaadigaaGreat
open Go.RowKit (Below)
attribute [local irreducible] Go.Code.wp Go.wpList Go.bodyPost
theorem sho_c {x : Rat} (h : x ≠ 0) : shoF [x] = [x]:=sho_of (k:=0) (by decide) (.inr ⟨0,Nat.le_refl _,rfl⟩) (.inr (.inl ⟨rfl,h⟩))
def limN (y u : Rat) : List Rat:=[0,y,0,u]
def limA (g a b c : FR) : Rat:=(g.val + a.val - (b.val + c.val)) / (2 * (a.val * g.val))
def limI (g a b c : FR) (u : Rat) : Bool:=decide (surdsF (-1) (limA g a b c) (a.val * g.val) u (a.val * g.val * (b.val * c.val)) ≤ 0) && decide (surdsF 1 (limA g a b c) (a.val * g.val) u (a.val * g.val * (b.val * c.val)) ≥ 0)
def limK (g a : FR) : List Rat:=[-(1 / (a.val * g.val)),1 / (a.val * g.val)]
def limJ (g a b c : FR) (j : Nat) : List (List Rat):=(((limK g a).take j).filter fun u=>limI g a b c u).map fun u=>limN (limA g a b c) u
def limL (g a b c : FR) : List (List Rat):=if chkF [g,a,b,c] = 0 then limJ g a b c 2 else []
theorem LSC.nm {b c : Nat} {l : List Rat} {v : Value} {G : Gh} (h : (LSC none [NM b l]).t v G) (e : b ≤ c) : (LSC none [NM c l]).t v G:=⟨LS.els h.1 rfl fun i τ σ h1 h2 _ hv=>by
  match i,h1,h2 with
  | 0,h1,h2=>cases h1;cases h2;exact NM.up hv e,h.2⟩
instance AsT.nm {b : Nat} {l : List Rat} : AsT (NM b l) (NM b) l:=⟨fun h=>h⟩
attribute [local irreducible] plusF minusF joinF levI lev PW RLN tB sB timesF stepF tmF normF TOK sgL surdsF chkF nearF farF gapC fullF
attribute [local irreducible] limJ limL limI
end Go.Proofs.YtdbdnabpaadigaaGreat
set_option linter.unusedVariables false
set_option linter.unusedSimpArgs false
set_option maxHeartbeats 4000000
set_option maxRecDepth 100000
set_option synthInstance.maxSize 100000
set_option synthInstance.maxHeartbeats 400000
namespace Go.Proofs.YtdbdnabpaadigaaGreat
open Go.RowKit (Below)
attribute [local irreducible] Go.Code.wp Go.wpList Go.bodyPost
theorem ex_far : farF (FR.of 16) (FR.of 1) (FR.of 9) (FR.of 9) (-1) = 1:=by
  unfold farF
  rw [FR.of_val,FR.of_val,FR.of_val]
  decide +kernel
theorem ex_full : fullF (FR.of 16) (FR.of 1) (FR.of 9) (FR.of 9) = true:=by
  have h : nearF (FR.of 16) (FR.of 1) (FR.of 9) (FR.of 9) 1 = 1:=by
    unfold nearF
    rw [FR.of_val,FR.of_val,FR.of_val]
    decide +kernel
  unfold fullF
  rw [ex_chk,ex_far,h];rfl
attribute [local irreducible] plusF minusF joinF levI lev PW RLN tB sB timesF stepF tmF normF TOK sgL surdsF chkF gapC fullF nearF farF limL limJ
end Go.Proofs.YtdbdnabpaadigaaGreat
namespace Go.Proofs.YtdbdnabpaadigaaGreat
def perms4 : List (List Nat):=[[0,1,2,3],[0,1,3,2],[0,2,1,3],[0,2,3,1],[0,3,1,2],[0,3,2,1],[1,0,2,3],[1,0,3,2],[1,2,0,3],[1,2,3,0],[1,3,0,2],[1,3,2,0],[2,0,1,3],[2,0,3,1],[2,1,0,3],[2,1,3,0],[2,3,0,1],[2,3,1,0],[3,0,1,2],[3,0,2,1],[3,1,0,2],[3,1,2,0],[3,2,0,1],[3,2,1,0]]
theorem perm4 {i j k m : Nat} (h : [i,j,k,m].Perm [0,1,2,3]) : [i,j,k,m] ∈ perms4:=by
  have hm : ∀ x ∈ [i,j,k,m],x < 4:=fun x hx=>by
    have:=h.mem_iff.1 hx
    simp at this;omega
  have all : ∀ i,i < 4 → ∀ j,j < 4 → ∀ k,k < 4 → ∀ m,m < 4 → [i,j,k,m].isPerm [0,1,2,3] = true → perms4.contains [i,j,k,m] = true:=by decide +kernel
  have:=all i (hm i (by simp)) j (hm j (by simp)) k (hm k (by simp)) m (hm m (by simp)) (List.isPerm_iff.2 h)
  simpa using this
end Go.Proofs.YtdbdnabpaadigaaGreat
namespace Go.Proofs.YtdbdnabpaadigaaGreat
open Go.RowKit (Below)
attribute [local irreducible] rotQ compareF befR
end Go.Proofs.YtdbdnabpaadigaaGreat
namespace Go.Proofs.YtdbdnabpaadigaaGreat
open Go.RowKit (Below)
theorem vget (l : List FR) (j : Nat) : (l.map FR.val).getD j default = (l.getD j default).val:=by
  rw [List.getD_eq_getElem?_getD,List.getD_eq_getElem?_getD,List.getElem?_map]
  cases l[j]? with
  | none=>exact val_default.symm
  | some z=>rfl
theorem lk_get (l : List FR) (j : Nat) : lk l j = (l.map FR.val).getD ((orderF (l.map FR.val)).getD j default) default:=by rw [vget];rfl
end Go.Proofs.YtdbdnabpaadigaaGreat
namespace Go.Proofs.YtdbdnabpaadigaaGreat
open Go.RowKit (Below)
end Go.Proofs.YtdbdnabpaadigaaGreat
namespace Go.Proofs.YtdbdnabpaadigaaGreat
open Go.RowKit (Below)
def invQ (l : List FR) (k : Int) : List FR:=[invF l k 0,invF l k 1,invF l k 2,invF l k 3]
theorem inv_pos {l : List FR} {k : Int} (h : chkF l = 0) (hl : l.length = 4) : (invQ l k).all posR = true:=by
  have hp:=chk_pos h
  have : ∀ j,posR (invF l k j) = true:=fun j=>by
    unfold invF;rw [if_pos h,posR_of4]
    have hlt : (j + md4 k) % 4 < l.length:=by rw [hl];exact Nat.mod_lt _ (by decide)
    refine decide_eq_true (posR_val (List.all_eq_true.1 hp _ ?_))
    rw [List.getD_eq_getElem?_getD,List.getElem?_eq_getElem hlt];exact List.getElem_mem hlt
  unfold invQ;simp [this]
end Go.Proofs.YtdbdnabpaadigaaGreat
namespace Go.Proofs.YtdbdnabpaadigaaGreat
end Go.Proofs.YtdbdnabpaadigaaGreat
namespace Go.Proofs.YtdbdnabpaadigaaGreat
theorem fr_self {r : FR} (hw : wfl r.p ∧ wfl r.q) (hok : r.ok = true) : FR.of r.val = r:=by
  obtain ⟨s,p,q⟩:=r
  have hw : wfl p ∧ wfl q:=hw
  have hok : qok s p q = true:=hok
  by_cases hp : p.length = 0
  · have e:=List.length_eq_zero_iff.1 hp
    subst e
    have h : qok s [] q = true:=hok
    have hv : FR.val ⟨s,[],q⟩ = 0:=qval_nil rfl
    unfold qok at h
    split at h
    · rename_i k
      obtain rfl:=k.2
      rw [hv]
      have : s = false:=by simpa using h
      subst this
      unfold FR.of dwords
      rw [if_pos rfl,show (0 : Rat).num.natAbs = 0 from rfl,words_zero];rfl
    · simp at h
  · obtain ⟨_,h3,h4,h5,h6⟩:=qval_parts hw hok hp
    have hp0 : val p ≠ 0:=fun e=>ne_of_len hp (val_eq_zero h3 e)
    have hne : FR.val ⟨s,p,q⟩ ≠ 0:=fun e=>by
      have h5' : (FR.val ⟨s,p,q⟩).num = sg s (val p):=h5
      rw [e] at h5'
      have:=congrArg Int.natAbs h5'
      rw [sg_abs] at this;exact hp0 this.symm
    have hs : decide (FR.val ⟨s,p,q⟩ < 0) = s:=by
      have h5' : (FR.val ⟨s,p,q⟩).num = sg s (val p):=h5
      have h7 : FR.val ⟨s,p,q⟩ < 0 ↔ (FR.val ⟨s,p,q⟩).num < 0:=by
        rw [← Rat.not_le,← Rat.num_nonneg];omega
      rw [Bool.eq_iff_iff,decide_eq_true_iff,h7,h5']
      cases s <;> simp [sg] <;> omega
    unfold FR.of dwords
    rw [if_neg hne,hs]
    have e1 : (FR.val ⟨s,p,q⟩).num.natAbs = val p:=(congrArg Int.natAbs h5).trans sg_abs
    have e2 : (FR.val ⟨s,p,q⟩).den = val q:=h6
    rw [e1,e2,words_val hw.1 h3,words_val hw.2 h4]
theorem FX.self {n : Nat} {r : FR} {v : Value} {G : Gh} (h : (FX n r).t v G) (hok : r.ok = true) : (FX n (FR.of r.val)).t v G:=FX.eq h (fr_self (QR.wf (FX.qr h)) hok).symm
theorem FX.inv {n : Nat} {ra rb rc rd : FR} {k : Int} {j : Nat} {v : Value} {G : Gh} (hck : chkF [ra,rb,rc,rd] = 0) (h : (FX n ([ra,rb,rc,rd].getD ((j + md4 k) % 4) default)).t v G) : (FX n (invF [ra,rb,rc,rd] k j)).t v G:=by
  have hp:=chk_pos hck
  unfold invF;rw [if_pos hck]
  refine FX.self h ?_
  have hlt : (j + md4 k) % 4 < [ra,rb,rc,rd].length:=Nat.mod_lt _ (by decide)
  have hm : [ra,rb,rc,rd].getD ((j + md4 k) % 4) default ∈ [ra,rb,rc,rd]:=by
    rw [List.getD_eq_getElem?_getD,List.getElem?_eq_getElem hlt];exact List.getElem_mem hlt
  have:=List.all_eq_true.1 hp _ hm
  unfold posR at this
  exact (Bool.and_eq_true_iff.1 this).1
section
variable {a b c d A B C D : Rat}
end
end Go.Proofs.YtdbdnabpaadigaaGreat
set_option linter.unusedVariables false
set_option linter.unusedSimpArgs false
namespace Go.Proofs.YtdbdnabpaadigaaGreat
def nearR (x : Rat) (u v : RR) (k : Rat) : RR:=RR.of x + RR.of (-(2 * k)) * u + RR.of 2 * v
theorem rt_sub {x : Rat} {u v : RR} {k m : Rat} : nearR x u v k - nearR x u v m = RR.of (2 * (m - k)) * u:=by
  unfold nearR
  obtain ⟨f,hf,rfl⟩:=RR.rep u;obtain ⟨g,hg,rfl⟩:=RR.rep v
  exact RR.ext fun n=>by grind
theorem near_R {g a b c : FR} (h : [g,a,b,c].all posR = true) (k : Rat) : nearF g a b c k = sgR (nearR (g.val + a.val - (b.val + c.val)) (rt (a.val * g.val)) (rt (b.val * c.val)) k):=surds_sg (pos_nn h).1 (pos_nn h).2
theorem far_R {g a b c : FR} (h : [g,a,b,c].all posR = true) (k : Rat) : farF g a b c k = sgR (nearR (-(g.val + a.val - (b.val + c.val))) (rt (a.val * g.val)) (rt (b.val * c.val)) (-k)):=by
  unfold farF nearR
  rw [show -(g.val + a.val - (b.val + c.val)) = b.val + c.val - (g.val + a.val) by grind,show -(2 * -k) = 2 * k by grind]
  exact surds_sg (pos_nn h).1 (pos_nn h).2
theorem nearR_anti {x : Rat} {u v : RR} (hu : 0 ≤ u) {k m : Rat} (hk : k ≤ m) : sgR (nearR x u v m) ≤ sgR (nearR x u v k):=by
  refine sgR_mono ?_
  rw [RR.le_iff_sub,rt_sub]
  exact RR.mul_nn (RR.of_le (p:=0) |>.2 (by grind)) hu
theorem near_anti {g a b c : FR} (h : [g,a,b,c].all posR = true) {k m : Rat} (hk : k ≤ m) : nearF g a b c m ≤ nearF g a b c k:=by
  rw [near_R h,near_R h];exact nearR_anti (rt_nn _) hk
theorem far_mono {g a b c : FR} (h : [g,a,b,c].all posR = true) {k m : Rat} (hk : k ≤ m) : farF g a b c k ≤ farF g a b c m:=by
  rw [far_R h,far_R h];exact nearR_anti (rt_nn _) (by grind)
def nearV (g a b c k : Rat) : Int:=surdsF (g + a - (b + c)) (-(2 * k)) (a * g) 2 (b * c)
def farV (g a b c k : Rat) : Int:=surdsF (b + c - (g + a)) (2 * k) (a * g) 2 (b * c)
theorem nearV_s2 {g a b c k : Rat} : nearV g a b c k = nearV g a c b k:=by unfold nearV;rw [Rat.add_comm b c,Rat.mul_comm b c]
theorem farV_s1 {g a b c k : Rat} : farV g a b c k = farV a g b c k:=by unfold farV;rw [Rat.add_comm g a,Rat.mul_comm a g]
section
variable {g a b c : Rat}
theorem of_4 (hg : 0 ≤ g) (ha : 0 ≤ a) (hb : 0 ≤ b) (hc : 0 ≤ c) : RR.of (g + a - (b + c)) = rt g * rt g + rt a * rt a - (rt b * rt b + rt c * rt c):=by
  rw [rt_sq hg,rt_sq ha,rt_sq hb,rt_sq hc,RR.of_sub,RR.of_add,RR.of_add]
end
theorem sum4 {R : Nat → RR} {i j k m : Nat} (hp : [i,j,k,m].Perm [0,1,2,3]) : R i + R j + R k + R m = R 0 + R 1 + R 2 + R 3:=by
  have hm:=perm4 hp
  simp only [perms4,List.mem_cons,List.not_mem_nil,or_false,List.cons.injEq,and_true] at hm
  haveI : Std.Commutative (α:=RR) (· + ·):=⟨RR.add_comm⟩
  haveI : Std.Associative (α:=RR) (· + ·):=⟨RR.add_assoc⟩
  clear hp
  rcases hm with ⟨rfl,rfl,rfl,rfl⟩ | ⟨rfl,rfl,rfl,rfl⟩ | ⟨rfl,rfl,rfl,rfl⟩ | ⟨rfl,rfl,rfl,rfl⟩ | ⟨rfl,rfl,rfl,rfl⟩ | ⟨rfl,rfl,rfl,rfl⟩ | ⟨rfl,rfl,rfl,rfl⟩ | ⟨rfl,rfl,rfl,rfl⟩ | ⟨rfl,rfl,rfl,rfl⟩ | ⟨rfl,rfl,rfl,rfl⟩ | ⟨rfl,rfl,rfl,rfl⟩ | ⟨rfl,rfl,rfl,rfl⟩ | ⟨rfl,rfl,rfl,rfl⟩ | ⟨rfl,rfl,rfl,rfl⟩ | ⟨rfl,rfl,rfl,rfl⟩ | ⟨rfl,rfl,rfl,rfl⟩ | ⟨rfl,rfl,rfl,rfl⟩ | ⟨rfl,rfl,rfl,rfl⟩ | ⟨rfl,rfl,rfl,rfl⟩ | ⟨rfl,rfl,rfl,rfl⟩ | ⟨rfl,rfl,rfl,rfl⟩ | ⟨rfl,rfl,rfl,rfl⟩ | ⟨rfl,rfl,rfl,rfl⟩ | ⟨rfl,rfl,rfl,rfl⟩
  all_goals ac_rfl
theorem half4 {p q r x s : RR} (h : x + x ≤ s) (e : s = p + q + r + x) : x ≤ p + q + r:=by
  rw [RR.le_iff_sub] at h ⊢
  have : p + q + r - x = s - (x + x):=by
    subst e
    obtain ⟨f,hf,rfl⟩:=RR.rep p;obtain ⟨f1,hf1,rfl⟩:=RR.rep q;obtain ⟨f2,hf2,rfl⟩:=RR.rep r;obtain ⟨f3,hf3,rfl⟩:=RR.rep x
    exact RR.ext fun n=>by grind
  rwa [this]
theorem rt_pos {x : Rat} (h : 0 < x) : 0 < rt x:=by
  refine RR.lt_of_ne (rt_nn x) fun e=>?_
  have h2:=rt_sq (Rat.le_of_lt h)
  rw [← e,RR.mul_zero] at h2
  have:=RR.of_inj (p:=0) |>.1 h2
  grind
end Go.Proofs.YtdbdnabpaadigaaGreat
set_option linter.unusedVariables false
set_option linter.unusedSimpArgs false
namespace Go.Proofs.YtdbdnabpaadigaaGreat
theorem sg_dif1 {p y z m : Rat} (hp : 0 ≤ p) : sgL [[p]] (plusF [y,z] (minusF [m])) = surdF (y - m) (z - 0) p:=by
  rw [show plusF [y,z] (minusF [m]) = [y + -m,z + 0] from rfl,sg1 hp,← Rat.sub_eq_add_neg,Rat.add_zero,show z - 0 = z by grind]
theorem sho_z : shoF [0] = []:=by decide +kernel
theorem sg_dif0 {p y z m : Rat} (hp : 0 ≤ p) : sgL [[p]] (plusF [y,z] (minusF (shoF [m]))) = surdF (y - m) (z - 0) p:=by
  by_cases h : m = 0
  · subst h
    rw [sho_z,show plusF [y,z] (minusF []) = [y + 0,z + 0] from rfl,sg1 hp,Rat.add_zero,Rat.add_zero,show z - 0 = z by grind,show y - 0 = y by grind]
  · rw [sho_c h,sg_dif1 hp]
noncomputable def qR (g a b c : FR) (k : Rat) : RR:=RR.of (midF g a b c) + RR.of (2 * k) * rt (a.val * g.val)
section
variable {g a b c : FR} (h : [g,a,b,c].all posR = true)
include h
theorem bc_pos : 0 < b.val * c.val:=by
  simp only [List.all_cons,List.all_nil,Bool.and_true,Bool.and_eq_true] at h
  exact Rat.mul_pos (posR_val h.2.2.1) (posR_val h.2.2.2)
theorem ag_pos : 0 < a.val * g.val:=by
  simp only [List.all_cons,List.all_nil,Bool.and_true,Bool.and_eq_true] at h
  exact Rat.mul_pos (posR_val h.2.1) (posR_val h.1)
theorem s4_pos : 0 < RR.of (4 * (b.val * c.val)):=RR.of_lt (p:=0) |>.2 (by have:=bc_pos h;grind)
theorem scale_sg {y z : Rat} : surdF y z (a.val * g.val) = sgR (RR.of (4 * (b.val * c.val)) * (RR.of y + RR.of z * rt (a.val * g.val))):=by
  rw [sgR_mul (RR.of _),sgR_pos (s4_pos h),Int.one_mul,surd_sg (Rat.le_of_lt (ag_pos h))]
theorem q_sq (k : Rat) : qR g a b c k * qR g a b c k = RR.of (4 * (b.val * c.val) * sinA g a b c k) + RR.of (4 * (b.val * c.val) * sinB g a b c k) * rt (a.val * g.val):=by
  have hbc:=bc_pos h
  have e1 : 4 * (b.val * c.val) * sinA g a b c k = midF g a b c * midF g a b c + 4 * k * k * (a.val * g.val):=by
    unfold sinA midF
    rw [Rat.mul_comm,Rat.div_mul_cancel (by grind)]
    grind
  have e2 : 4 * (b.val * c.val) * sinB g a b c k = 4 * midF g a b c * k:=by
    have : (b.val * c.val) * sinB g a b c k = midF g a b c * k:=by
      unfold sinB midF
      rw [Rat.mul_comm,Rat.div_mul_cancel (by grind)]
    grind
  rw [e1,e2,RR.of_add,show RR.of (4 * k * k * (a.val * g.val)) = RR.of (4 * k * k) * (rt (a.val * g.val) * rt (a.val * g.val)) by rw [rt_sq (Rat.le_of_lt (ag_pos h)),← RR.of_mul]]
  unfold qR
  generalize rt (a.val * g.val) = X
  obtain ⟨f,hf,rfl⟩:=RR.rep X
  exact RR.ext fun n=>by grind
theorem sin_diff {k m y z : Rat} : surdF (1 - sinA g a b c k - y) (-sinB g a b c k - z) (a.val * g.val) = sgR (RR.of (4 * (b.val * c.val)) - qR g a b c k * qR g a b c k - RR.of (4 * (b.val * c.val)) * (RR.of y + RR.of z * rt (a.val * g.val))):=by
  rw [scale_sg h,q_sq h]
  congr 1
  generalize rt (a.val * g.val) = X
  obtain ⟨f,hf,rfl⟩:=RR.rep X
  exact RR.ext fun n=>by grind
end
end Go.Proofs.YtdbdnabpaadigaaGreat
set_option linter.unusedVariables false
set_option linter.unusedSimpArgs false
set_option maxHeartbeats 4000000
set_option maxRecDepth 100000
set_option synthInstance.maxSize 100000
set_option synthInstance.maxHeartbeats 400000
namespace Go.Proofs.YtdbdnabpaadigaaGreat
open Go.RowKit (Below)
attribute [local irreducible] Go.Code.wp Go.wpList Go.bodyPost
attribute [local irreducible] plusF minusF joinF levI lev PW RLN tB sB timesF stepF tmF normF shoF TOK sgL surdsF surdF chkF gapC fullF nearF farF limL limJ sinA sinB sinC fulC leaL mosL alsC alsF rigF rgtF atF twoA
instance {i j : Int} : Con Tryz.prog 134 [IT i,IT j] (I64 i ∧ I64 j) (MT.tup2 (QC 64 (Rat.divInt i j)) (IT (if j = 0 then 8 else 0))):=.o2 fun hok h1 h2 hp=>by
  refine St.enter (N:=13) Tryz.func134 rfl rfl rfl hok (enter2 h1 h2) fun a=>?_
  repeat' (first|((with_reducible refine gS_ ?_);first|((with_reducible refine gL_ ?_);first|refine W.run ?_ fun a w G=>?_|refine W.mv fun a w G=>?_|refine W.asg fun a w G=>?_|refine W.bx fun b a w G=>?_|(refine W.nn hK ?_;clear hK K)|refine W.nl ?_|refine W.al fun b a w G=>?_|refine W.st fun w=>?_|refine W.stp fun w=>?_|refine W.ste ?_ fun w=>?_)|((with_reducible refine gC_ ?_);first|refine W.reg fun K hK=>?_|refine W.reg1 ?_|refine W.sq fun K hK=>?_|refine W.ds ?_ (fun β a w G hu=>W.fin ?_ hu) mixedOrders (by kernel_rfl)|refine W.sk ?_|refine W.cd (fun hc=>?_) (fun hc=>?_)|refine W.cb (fun hc=>?_) (fun hc=>?_)|refine W.bl ?_|refine W.ex ?_|refine W.rt ?_)|((with_reducible refine W.kn hK ?_);clear hK K)|(with_reducible first|refine W.bn ?_|refine W.xt ?_|refine W.xb ?_|refine W.xo ?_|refine W.tr ?_|refine W.br ?_)|refine W.rt1 rfl ?_|refine W.rt2 rfl ?_ ?_|refine W.rt3 rfl ?_ ?_ ?_)|clear hK K|clear hu|exact True.intro|exact Nat.le_trans (by clear hp;omega) hp|exact Nat.le_trans (by clear hp;omega) hp.1|exact Nat.le_trans (by clear hp;omega) hp.2|(clear hp;omega)|apply And.intro|refine GI.i fun _=>?_|with_reducible rfl|decide|(simp only [List.length_cons,List.length_nil];omega))
  all_goals first | exact hp.1.1 | exact hp.1.2 | exact hp.2.1 | exact hp.2.2
section
private theorem exv : (FR.of 16).val = 16 ∧ (FR.of 1).val = 1 ∧ (FR.of 9).val = 9:=⟨FR.of_val _,FR.of_val _,FR.of_val _⟩
theorem exx_full : fulC (FR.of 16) (FR.of 1) (FR.of 9) (FR.of 9) = 0:=by unfold fulC;rw [ex_chk,ex_full];rfl
theorem exx_mid : midF (FR.of 16) (FR.of 1) (FR.of 9) (FR.of 9) = 1:=by unfold midF;rw [exv.1,exv.2.1,exv.2.2];decide +kernel
theorem exx_at : atF (FR.of 16) (FR.of 1) (FR.of 9) (FR.of 9) = 1:=by unfold atF;rw [exx_mid];rfl
theorem exx_two : twoA (FR.of 16) (FR.of 1) (FR.of 9) (FR.of 9) = [[16]]:=by unfold twoA;rw [exx_full,exv.1,exv.2.1];decide +kernel
theorem exx_lea : leaL (FR.of 16) (FR.of 1) (FR.of 9) (FR.of 9) = [Rat.divInt 259 324,Rat.divInt (-1) 81]:=by
  unfold leaL sinL sinA sinB;rw [exx_full,exx_at,exv.1,exv.2.1,exv.2.2];decide +kernel
theorem exx_alsC {x : Rat} : alsC (FR.of 16) (FR.of 1) (FR.of 9) (FR.of 9) (FR.of x) = 0:=by unfold alsC;rw [ex_chk,FR.of_ok,exx_full];rfl
theorem exx_sg : sgL [[16]] (plusF [Rat.divInt 259 324,Rat.divInt (-1) 81] (minusF [Rat.divInt 3 4])) = 0:=by
  rw [sg_dif1 (by decide)];decide +kernel
theorem exx_als (x : Rat) : alsF (FR.of 16) (FR.of 1) (FR.of 9) (FR.of 9) (FR.of x) = decide (surdF (Rat.divInt 259 324 - x) (Rat.divInt (-1) 81 - 0) 16 ≥ 0):=by
  rw [(als_sg (by rw [ex_chk];decide) (by rw [FR.of_ok];rfl) (by rw [exx_full];decide)).1,exx_two,exx_lea,sg_dif0 (by decide),FR.of_val]
end
instance {i j : Int} : Con Tryz.prog 67 [IT i,IT j] (I64 i ∧ I64 j) (QC 64 (Rat.divInt i j)):=.o2 fun hok h1 h2 hp=>by
  refine St.enter (N:=14) Tryz.func67 rfl rfl rfl hok (enter2 h1 h2) fun a=>?_
  repeat' (first|((with_reducible refine gS_ ?_);first|((with_reducible refine gL_ ?_);first|refine W.run ?_ fun a w G=>?_|refine W.mv fun a w G=>?_|refine W.asg fun a w G=>?_|refine W.bx fun b a w G=>?_|(refine W.nn hK ?_;clear hK K)|refine W.nl ?_|refine W.al fun b a w G=>?_|refine W.st fun w=>?_|refine W.stp fun w=>?_|refine W.ste ?_ fun w=>?_)|((with_reducible refine gC_ ?_);first|refine W.reg fun K hK=>?_|refine W.reg1 ?_|refine W.sq fun K hK=>?_|refine W.ds ?_ (fun β a w G hu=>W.fin ?_ hu) mixedOrders (by kernel_rfl)|refine W.sk ?_|refine W.cd (fun hc=>?_) (fun hc=>?_)|refine W.cb (fun hc=>?_) (fun hc=>?_)|refine W.bl ?_|refine W.ex ?_|refine W.rt ?_)|((with_reducible refine W.kn hK ?_);clear hK K)|(with_reducible first|refine W.bn ?_|refine W.xt ?_|refine W.xb ?_|refine W.xo ?_|refine W.tr ?_|refine W.br ?_)|refine W.rt1 rfl ?_|refine W.rt2 rfl ?_ ?_|refine W.rt3 rfl ?_ ?_ ?_)|clear hK K|clear hu|exact True.intro|exact Nat.le_trans (by clear hp;omega) hp|exact Nat.le_trans (by clear hp;omega) hp.1|exact Nat.le_trans (by clear hp;omega) hp.2|(clear hp;omega)|apply And.intro|refine GI.i fun _=>?_|with_reducible rfl|decide|(simp only [List.length_cons,List.length_nil];omega))
  all_goals first | omega | exact hp.1.1 | exact hp.1.2 | exact hp.2.1 | exact hp.2.2 | skip
instance  : Con Tryz.prog 13 [] (True) (BT true):=.o0 fun hok  hp=>by
  refine St.enter (N:=67) Tryz.func13 rfl rfl rfl hok enter0 fun a=>?_
  repeat' (first|((with_reducible refine gS_ ?_);first|((with_reducible refine gL_ ?_);first|refine W.run ?_ fun a w G=>?_|refine W.mv fun a w G=>?_|refine W.asg fun a w G=>?_|refine W.bx fun b a w G=>?_|(refine W.nn hK ?_;clear hK K)|refine W.nl ?_|refine W.al fun b a w G=>?_|refine W.st fun w=>?_|refine W.stp fun w=>?_|refine W.ste ?_ fun w=>?_)|((with_reducible refine gC_ ?_);first|refine W.reg fun K hK=>?_|refine W.reg1 ?_|refine W.sq fun K hK=>?_|refine W.ds ?_ (fun β a w G hu=>W.fin ?_ hu) mixedOrders (by kernel_rfl)|refine W.sk ?_|refine W.cd (fun hc=>?_) (fun hc=>?_)|refine W.cb (fun hc=>?_) (fun hc=>?_)|refine W.bl ?_|refine W.ex ?_|refine W.rt ?_)|((with_reducible refine W.kn hK ?_);clear hK K)|(with_reducible first|refine W.bn ?_|refine W.xt ?_|refine W.xb ?_|refine W.xo ?_|refine W.tr ?_|refine W.br ?_)|refine W.rt1 rfl ?_|refine W.rt2 rfl ?_ ?_|refine W.rt3 rfl ?_ ?_ ?_)|clear hK K|clear hu|exact True.intro|exact Nat.le_trans (by clear hp;omega) hp|exact Nat.le_trans (by clear hp;omega) hp.1|exact Nat.le_trans (by clear hp;omega) hp.2|(clear hp;omega)|apply And.intro|refine GI.i fun _=>?_|with_reducible rfl|decide|(simp only [List.length_cons,List.length_nil];omega))
  all_goals first
    | (exfalso;rw [exx_full,exx_at] at hc;simp at hc;done)
    | (rw [exx_two];first | exact tok1 (by decide) | exact pw1k | (rw [exx_lea];exact pw2 (Nat.le_refl 1)) | (show sB 1 _ _ ≤ BIG;rw [sB1];omega) | (show sB 1 _ _ ≤ BIG;rw [sB1];decide))
    | (rw [exx_alsC,exx_alsC,exx_two,exx_lea,exx_sg,exx_als,exx_als];decide +kernel)
    | skip
end Go.Proofs.YtdbdnabpaadigaaGreat
set_option linter.unusedVariables false
set_option linter.unusedSimpArgs false
set_option maxHeartbeats 4000000
set_option maxRecDepth 100000
set_option synthInstance.maxSize 100000
set_option synthInstance.maxHeartbeats 400000
namespace Go.Proofs.YtdbdnabpaadigaaGreat
open Go.RowKit (Below)
attribute [local irreducible] Go.Code.wp Go.wpList Go.bodyPost
attribute [local irreducible] plusF minusF joinF levI lev PW RLN tB sB timesF stepF tmF normF shoF TOK sgL surdsF surdF chkF gapC fullF nearF farF limL limJ sinA sinB sinC fulC leaL mosL alsC alsF rigF rgtF atF twoA sinL shortF
instance NR.lx9 {τs : List MT} {xs : List FR} [h : AsTL τs RX xs] : NR (LSC (some 3) τs) (LS (some 3) (xs.map RX)):=⟨fun hv=>h.ls hv.1⟩
instance AsT.fxr9 {n : Nat} {r : FR} : AsT (FX n r) RX r:=⟨fun h=>FX.toRX h⟩
instance AsT.qxr9 {n : Nat} {x : Rat} : AsT (QC n x) RX (FR.of x):=⟨fun h=>NR.h h⟩
instance {rg ra rb rc : FR} : Con Tryz.prog 48 [PTS [(some 3,RX rg),(some 3,RX ra),(some 3,RX rb),(some 3,RX rc)]] (shortF [rg,ra,rb,rc] = true) (.ex (errV 69 (chkF [rg,ra,rb,rc]))):=.o1 fun hok h1 hp=>by
  have hq:=hp
  (try simp only [shortF,List.all_cons,List.all_nil,Bool.and_true,Bool.and_eq_true] at hq)
  exact (inferInstance : Con Tryz.prog 48 [QUD 64 rg ra rb rc] _ (.ex (errV 69 (chkF [rg,ra,rb,rc])))).c1 hok (NS.h (τ':=QUD 64 rg ra rb rc) (by (try simp only [and_true,true_and]);grind) h1) (by decide)
section
variable {g a b c k : FR}
theorem sin_1 (h : chkF [g,a,b,c] ≠ 0) : sinC g a b c k = chkF [g,a,b,c]:=by rw [sin_e1 (by rwa [gapC_0 h]),gapC_0 h]
end
section
variable {g a b c k : FR}
theorem sin_16 (h : gapC g a b c k = 0) (h2 : nearF g a b c k.val < 0 ∨ farF g a b c k.val < 0) : sinC g a b c k = 16:=by unfold sinC;rw [if_pos h,if_pos h2]
theorem sin_0 (h : gapC g a b c k = 0) (h2 : ¬ (nearF g a b c k.val < 0 ∨ farF g a b c k.val < 0)) : sinC g a b c k = 0:=by unfold sinC;rw [if_pos h,if_neg h2]
end
section
variable {g a b c k m : FR}
end
end Go.Proofs.YtdbdnabpaadigaaGreat
namespace Go.Proofs.YtdbdnabpaadigaaGreat
def dirC (h : Bool) (t : Rat) : Rat:=if h then -1 else (1 - t * t) / (1 + t * t)
def dirS (h : Bool) (t : Rat) : Rat:=if h then 0 else (t + t) / (1 + t * t)
theorem one_sq (t : Rat) : 1 + t * t ≠ 0:=by
  have : 0 ≤ t * t:=by
    rcases (Rat.le_total : 0 ≤ t ∨ t ≤ 0) with h | h
    · exact Rat.mul_nonneg h h
    · have:=Rat.mul_nonneg (show 0 ≤ -t by grind) (show 0 ≤ -t by grind);grind
  grind
def wayX (g a : Rat) (h : Bool) (t : Rat) : Rat:=g - a * dirC h t
def wayY (a : Rat) (h : Bool) (t : Rat) : Rat:=-(a * dirS h t)
def d2F (x y : Rat) : Rat:=x * x + y * y
def discF (b c d : Rat) : Rat:=4 * (b * c) - (b + c - d) * (b + c - d)
def dsc (g a b c : FR) (h : Bool) (t : Rat) : Rat:=discF b.val c.val (d2F (wayX g.val a.val h t) (wayY a.val h t))
def trnF (h : Bool) (t : FR) : Bool:=t.ok && (!h || decide (t.val.num.sign = 0))
def trnC (h : Bool) (t : FR) : Int:=if trnF h t then 0 else 2
def barC (l : List FR) : Int:=if l.all posR then 0 else 3
def sqF (g a b c : FR) : List FR:=[FR.of (g.val * g.val),FR.of (a.val * a.val),FR.of b.val,FR.of c.val]
def quF (l : List FR) (j : Nat) : FR:=if barC l = 0 then FR.of (if j < 2 then (l.getD j default).val * (l.getD j default).val else (l.getD j default).val) else default
def btC (l : List FR) (h : Bool) (t : FR) : Int:=if barC l = 0 then trnC h t else 3
theorem trn_0 {h : Bool} {t : FR} (ht : trnF h t = true) : trnC h t = 0:=by unfold trnC;rw [if_pos ht]
theorem bar_3 {l : List FR} (h : l.all posR = false) : barC l = ((3 : Nat) : Int):=by unfold barC;rw [h];rfl
theorem bar_0 {l : List FR} (h : l.all posR = true) : barC l = 0:=by unfold barC;rw [h];rfl
theorem bar_pos {l : List FR} (h : barC l = 0) : l.all posR = true:=by
  unfold barC at h
  cases hp : l.all posR with
  | true=>rfl
  | false=>rw [hp] at h;exact absurd h (by decide)
theorem bar_two (l : List FR) : barC l = 0 ∨ barC l = 3:=by unfold barC;split <;> simp
theorem bt_0 {l : List FR} {h : Bool} {t : FR} (hb : barC l = 0) (ht : trnF h t = true) : btC l h t = 0:=by unfold btC;rw [if_pos hb,trn_0 ht]
theorem trn_two (h : Bool) (t : FR) : trnC h t = 0 ∨ trnC h t = 2:=by unfold trnC;split <;> simp
theorem qu_bad {l : List FR} {j : Nat} (hb : barC l ≠ 0) : default = quF l j:=by unfold quF;rw [if_neg hb]
end Go.Proofs.YtdbdnabpaadigaaGreat
