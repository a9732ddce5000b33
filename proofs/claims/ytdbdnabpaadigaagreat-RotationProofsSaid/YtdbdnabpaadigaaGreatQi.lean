import Derived.Test.YtdbdnabpaadigaaGreatQh
set_option linter.unusedVariables false
set_option linter.unusedSimpArgs false
set_option linter.unusedVariables false
set_option linter.unusedSimpArgs false
set_option maxHeartbeats 4000000
set_option maxRecDepth 100000
set_option synthInstance.maxSize 100000
set_option synthInstance.maxHeartbeats 400000
namespace Go.Proofs.YtdbdnabpaadigaaGreat
open Go.RowKit (Below)
attribute [local irreducible] Go.Code.wp Go.wpList Go.bodyPost
private theorem gS_ {W0 : World} {G0 : Gh} {N : Nat} {L : List (Nat × MT)} {B : List BX} {a : Act} {w : World} {G : Gh} {q : Prop} (h : St W0 G0 N L B a w G → q) : St W0 G0 N L B a w G → q:=h
private theorem gL_ {p : Prop} {P : Program} {arr : Array Oper} {Q : Exit → Act → World → Prop} {l : List Oper} {a : Act} {w : World} (h : p → wpList P arr Q l a w) : p → wpList P arr Q l a w:=h
private theorem gC_ {p : Prop} {P : Program} {c : Code} {Q : Exit → Act → World → Prop} {a : Act} {w : World} (h : p → c.wp P Q a w) : p → c.wp P Q a w:=h
private theorem mixedOrders : Tryz.prog.follows .mixedOrders = true:=by kernel_rfl
attribute [local irreducible] plusF minusF joinF levI lev PW RLN tB sB timesF stepF tmF normF TOK sgL surdsF chkF gapC fullF
theorem w89 {n : Nat} {rg ra rb rc : FR} : Con Tryz.prog 89 [QUD n rg ra rb rc] (100 * n + 1000 ≤ BIG) (MT.tup3 (QC (4 * n + 3) (rg.val + ra.val - (rb.val + rc.val))) (QC (n + n) (ra.val * rg.val)) (QC (n + n) (rb.val * rc.val))):=.o1 fun hok h1 hp=>by
  refine St.enter (N:=27) Tryz.func89 rfl rfl rfl hok (enter1 h1) fun a=>?_
  repeat' (first|((with_reducible refine gS_ ?_);first|((with_reducible refine gL_ ?_);first|refine W.run ?_ fun a w G=>?_|refine W.mv fun a w G=>?_|refine W.asg fun a w G=>?_|refine W.bx fun b a w G=>?_|(refine W.nn hK ?_;clear hK K)|refine W.nl ?_|refine W.al fun b a w G=>?_|refine W.st fun w=>?_|refine W.stp fun w=>?_|refine W.ste ?_ fun w=>?_)|((with_reducible refine gC_ ?_);first|refine W.reg fun K hK=>?_|refine W.reg1 ?_|refine W.sq fun K hK=>?_|refine W.ds ?_ (fun β a w G hu=>W.fin ?_ hu) mixedOrders (by kernel_rfl)|refine W.sk ?_|refine W.cd (fun hc=>?_) (fun hc=>?_)|refine W.cb (fun hc=>?_) (fun hc=>?_)|refine W.bl ?_|refine W.ex ?_|refine W.rt ?_)|((with_reducible refine W.kn hK ?_);clear hK K)|(with_reducible first|refine W.bn ?_|refine W.xt ?_|refine W.xb ?_|refine W.xo ?_|refine W.tr ?_|refine W.br ?_)|refine W.rt1 rfl ?_|refine W.rt2 rfl ?_ ?_|refine W.rt3 rfl ?_ ?_ ?_)|clear hK K|clear hu|exact True.intro|exact Nat.le_trans (by clear hp;omega) hp|exact Nat.le_trans (by clear hp;omega) hp.1|exact Nat.le_trans (by clear hp;omega) hp.2|(clear hp;omega)|apply And.intro|refine GI.i fun _=>?_|with_reducible rfl|decide|(simp only [List.length_cons,List.length_nil];omega))
  all_goals first | omega | skip
instance {n : Nat} {rg ra rb rc : FR} {τ1 : MT} [j1 : NF τ1 (QUD n rg ra rb rc)] : Con Tryz.prog 89 [τ1] (100 * n + 1000 ≤ BIG) (MT.tup3 (QC (4 * n + 3) (rg.val + ra.val - (rb.val + rc.val))) (QC (n + n) (ra.val * rg.val)) (QC (n + n) (rb.val * rc.val))):=.o1 fun hok h1 hp=>w89.c1 hok (j1.h h1) hp
theorem w46 {n m : Nat} {rg ra rb rc : FR} {k : Rat} : Con Tryz.prog 46 [QUD n rg ra rb rc,QV m k] (1000 * n + 1000 * m + 200000 ≤ BIG) (MT.tup2 (IT (nearF rg ra rb rc k)) (IT (farF rg ra rb rc k))):=.o2 fun hok h1 h2 hp=>by
  refine St.enter (N:=39) Tryz.func46 rfl rfl rfl hok (enter2 h1 h2) fun a=>?_
  repeat' (first|((with_reducible refine gS_ ?_);first|((with_reducible refine gL_ ?_);first|refine W.run ?_ fun a w G=>?_|refine W.mv fun a w G=>?_|refine W.asg fun a w G=>?_|refine W.bx fun b a w G=>?_|(refine W.nn hK ?_;clear hK K)|refine W.nl ?_|refine W.al fun b a w G=>?_|refine W.st fun w=>?_|refine W.stp fun w=>?_|refine W.ste ?_ fun w=>?_)|((with_reducible refine gC_ ?_);first|refine W.reg fun K hK=>?_|refine W.reg1 ?_|refine W.sq fun K hK=>?_|refine W.ds ?_ (fun β a w G hu=>W.fin ?_ hu) mixedOrders (by kernel_rfl)|refine W.sk ?_|refine W.cd (fun hc=>?_) (fun hc=>?_)|refine W.cb (fun hc=>?_) (fun hc=>?_)|refine W.bl ?_|refine W.ex ?_|refine W.rt ?_)|((with_reducible refine W.kn hK ?_);clear hK K)|(with_reducible first|refine W.bn ?_|refine W.xt ?_|refine W.xb ?_|refine W.xo ?_|refine W.tr ?_|refine W.br ?_)|refine W.rt1 rfl ?_|refine W.rt2 rfl ?_ ?_|refine W.rt3 rfl ?_ ?_ ?_)|clear hK K|clear hu|exact True.intro|exact Nat.le_trans (by clear hp;omega) hp|exact Nat.le_trans (by clear hp;omega) hp.1|exact Nat.le_trans (by clear hp;omega) hp.2|(clear hp;omega)|apply And.intro|refine GI.i fun _=>?_|with_reducible rfl|decide|(simp only [List.length_cons,List.length_nil];omega))
  all_goals first
    | omega
    | rfl
    | (unfold farF;congr 1;grind)
    | skip
instance {n m : Nat} {rg ra rb rc : FR} {k : Rat} {τ1 : MT} [j1 : NF τ1 (QUD n rg ra rb rc)] {τ2 : MT} [j2 : NQ τ2 (QV m k)] : Con Tryz.prog 46 [τ1,τ2] (1000 * n + 1000 * m + 200000 ≤ BIG) (MT.tup2 (IT (nearF rg ra rb rc k)) (IT (farF rg ra rb rc k))):=.o2 fun hok h1 h2 hp=>w46.c2 hok (j1.h h1) (j2.h h2) hp
theorem w21 {n : Nat} {rg ra rb rc : FR} : Con Tryz.prog 21 [QUD n rg ra rb rc] (1000 * n + 300000 ≤ BIG) (BT (decide (nearF rg ra rb rc 1 ≥ 0) && decide (farF rg ra rb rc (-1) ≥ 0))):=.o1 fun hok h1 hp=>by
  refine St.enter (N:=25) Tryz.func21 rfl rfl rfl hok (enter1 h1) fun a=>?_
  repeat' (first|((with_reducible refine gS_ ?_);first|((with_reducible refine gL_ ?_);first|refine W.run ?_ fun a w G=>?_|refine W.mv fun a w G=>?_|refine W.asg fun a w G=>?_|refine W.bx fun b a w G=>?_|(refine W.nn hK ?_;clear hK K)|refine W.nl ?_|refine W.al fun b a w G=>?_|refine W.st fun w=>?_|refine W.stp fun w=>?_|refine W.ste ?_ fun w=>?_)|((with_reducible refine gC_ ?_);first|refine W.reg fun K hK=>?_|refine W.reg1 ?_|refine W.sq fun K hK=>?_|refine W.ds ?_ (fun β a w G hu=>W.fin ?_ hu) mixedOrders (by kernel_rfl)|refine W.sk ?_|refine W.cd (fun hc=>?_) (fun hc=>?_)|refine W.cb (fun hc=>?_) (fun hc=>?_)|refine W.bl ?_|refine W.ex ?_|refine W.rt ?_)|((with_reducible refine W.kn hK ?_);clear hK K)|(with_reducible first|refine W.bn ?_|refine W.xt ?_|refine W.xb ?_|refine W.xo ?_|refine W.tr ?_|refine W.br ?_)|refine W.rt1 rfl ?_|refine W.rt2 rfl ?_ ?_|refine W.rt3 rfl ?_ ?_ ?_)|clear hK K|clear hu|exact True.intro|exact Nat.le_trans (by clear hp;omega) hp|exact Nat.le_trans (by clear hp;omega) hp.1|exact Nat.le_trans (by clear hp;omega) hp.2|(clear hp;omega)|apply And.intro|refine GI.i fun _=>?_|with_reducible rfl|decide|(simp only [List.length_cons,List.length_nil];omega))
  all_goals first | omega | rfl | skip
instance {n : Nat} {rg ra rb rc : FR} {τ1 : MT} [j1 : NF τ1 (QUD n rg ra rb rc)] : Con Tryz.prog 21 [τ1] (1000 * n + 300000 ≤ BIG) (BT (decide (nearF rg ra rb rc 1 ≥ 0) && decide (farF rg ra rb rc (-1) ≥ 0))):=.o1 fun hok h1 hp=>w21.c1 hok (j1.h h1) hp
theorem shF_t {l : List FR} {j : Nat} (hj : j < l.length) (h : (decide ((((l.getD j default).p.length : Nat) : Int) > 2) || decide ((((l.getD j default).q.length : Nat) : Int) > 2)) = true) : shortF l = false:=by
  unfold shortF
  rw [all_not hj (p:=shortR) (by simp only [Bool.or_eq_true,decide_eq_true_eq] at h;exact shortR_not (by omega)),Bool.false_and]
theorem shR_f {r : FR} (h : (decide (((r.p.length : Nat) : Int) > 2) || decide (((r.q.length : Nat) : Int) > 2)) = false) : shortR r = true:=by
  simp only [Bool.or_eq_false_iff,decide_eq_false_iff_not] at h
  exact shortR_of (by omega) (by omega)
theorem shF_e {l : List FR} {j : Nat} (hj : ¬ j < l.length) (h : (l.take j).all shortR = true) : decide (((l.length : Nat) : Int) < 60) = shortF l:=by
  unfold shortF;rw [all_end hj h,Bool.true_and];exact decide_eq_decide.2 (by omega)
theorem w15 {l : List FR} : Con Tryz.prog 15 [LS (some 3) (l.map RX)] (True) (BT (shortF l)):=.o1 fun hok h1 hp=>by
  refine St.enter (N:=25) Tryz.func15 rfl rfl rfl hok (enter1 h1) fun a=>?_
  have hlim:=LS.lenM h1
  simp only [LIM] at hlim
  repeat' (first|((with_reducible refine gS_ ?_);first|((with_reducible refine gL_ ?_);first|refine W.run ?_ fun a w G=>?_|refine W.mv fun a w G=>?_|refine W.asg fun a w G=>?_|refine W.bx fun b a w G=>?_|(refine W.nn hK ?_;clear hK K)|refine W.nl ?_|refine W.al fun b a w G=>?_|refine W.st fun w=>?_|refine W.stp fun w=>?_|refine W.ste ?_ fun w=>?_)|((with_reducible refine gC_ ?_);first|refine W.reg fun K hK=>?_|refine W.reg1 ?_|refine W.sq fun K hK=>?_|refine W.ds ?_ (fun β a w G hu=>W.fin ?_ hu) mixedOrders (by kernel_rfl)|refine W.sk ?_|refine W.cd (fun hc=>?_) (fun hc=>?_)|refine W.cb (fun hc=>?_) (fun hc=>?_)|refine W.bl ?_|refine W.ex ?_|refine W.rt ?_)|((with_reducible refine W.kn hK ?_);clear hK K)|(with_reducible first|refine W.bn ?_|refine W.xt ?_|refine W.xb ?_|refine W.xo ?_|refine W.tr ?_|refine W.br ?_)|refine W.rt1 rfl ?_|refine W.rt2 rfl ?_ ?_|refine W.rt3 rfl ?_ ?_ ?_)|refine W.lp 8 (α:=Nat) (fun j=>l.length - j) (fun j=>j ≤ l.length ∧ (l.take j).all shortR = true) [2,4,7,8,9,10,11,12,13,14,15,16,17,18,19,20,21] (fun j=>[(7,NT j)]) (fun j=>[]) (0) ?_ ?_ ?_ fun j hj a w G=>?_|refine W.ag (x:=j) (j+1) ?_ ?_ ?_ ?_|clear hK K|clear hu|exact True.intro|exact Nat.le_trans (by clear hp;omega) hp|exact Nat.le_trans (by clear hp;omega) hp.1|exact Nat.le_trans (by clear hp;omega) hp.2|(clear hp;omega)|apply And.intro|refine GI.i fun _=>?_|with_reducible rfl|decide|(simp only [List.length_cons,List.length_nil];omega))
  all_goals first
    | omega
    | rfl
    | exact (shF_t (by omega) hc).symm
    | exact all_snoc (by omega) hj.2 (shR_f hc)
    | exact shF_e (by omega) hj.2
    | skip
instance {l : List FR} {τ1 : MT} [j1 : NR τ1 (LS (some 3) (l.map RX))] : Con Tryz.prog 15 [τ1] (True) (BT (shortF l)):=.o1 fun hok h1 hp=>w15.c1 hok (j1.h h1) hp
theorem sqX {rg ra rb rc : FR} : Con Tryz.prog 68 [PTS [(some 3,RX rg),(some 3,RX ra),(some 3,RX rb),(some 3,RX rc)]] (True) (AR 12 (some 3) ([rg,ra,rb,rc].map RX)):=.o1 fun hok h1 hp=>by
  refine St.enter (N:=12) Tryz.func68 rfl rfl rfl hok (enter1 h1) fun a=>?_
  repeat' (first|((with_reducible refine gS_ ?_);first|((with_reducible refine gL_ ?_);first|refine W.run ?_ fun a w G=>?_|refine W.mv fun a w G=>?_|refine W.asg fun a w G=>?_|refine W.bx fun b a w G=>?_|(refine W.nn hK ?_;clear hK K)|refine W.nl ?_|refine W.al fun b a w G=>?_|refine W.st fun w=>?_|refine W.stp fun w=>?_|refine W.ste ?_ fun w=>?_)|((with_reducible refine gC_ ?_);first|refine W.reg fun K hK=>?_|refine W.reg1 ?_|refine W.sq fun K hK=>?_|refine W.ds ?_ (fun β a w G hu=>W.fin ?_ hu) mixedOrders (by kernel_rfl)|refine W.sk ?_|refine W.cd (fun hc=>?_) (fun hc=>?_)|refine W.cb (fun hc=>?_) (fun hc=>?_)|refine W.bl ?_|refine W.ex ?_|refine W.rt ?_)|((with_reducible refine W.kn hK ?_);clear hK K)|(with_reducible first|refine W.bn ?_|refine W.xt ?_|refine W.xb ?_|refine W.xo ?_|refine W.tr ?_|refine W.br ?_)|refine W.rt1 rfl ?_|refine W.rt2 rfl ?_ ?_|refine W.rt3 rfl ?_ ?_ ?_)|clear hK K|clear hu|exact True.intro|exact Nat.le_trans (by clear hp;omega) hp|exact Nat.le_trans (by clear hp;omega) hp.1|exact Nat.le_trans (by clear hp;omega) hp.2|(clear hp;omega)|apply And.intro|refine GI.i fun _=>?_|with_reducible rfl|decide|(simp only [List.length_cons,List.length_nil];omega))
instance {rg ra rb rc : FR} : Con Tryz.prog 68 [PTS [(some 3,RX rg),(some 3,RX ra),(some 3,RX rb),(some 3,RX rc)]] True (AR 12 (some 3) ([rg,ra,rb,rc].map RX)):=sqX
instance  : Con Tryz.prog 66 [] (True) (QUD 64 (FR.of 16) (FR.of 1) (FR.of 9) (FR.of 9)):=.o0 fun hok  hp=>by
  refine St.enter (N:=6) Tryz.func66 rfl rfl rfl hok enter0 fun a=>?_
  repeat' (first|((with_reducible refine gS_ ?_);first|((with_reducible refine gL_ ?_);first|refine W.run ?_ fun a w G=>?_|refine W.mv fun a w G=>?_|refine W.asg fun a w G=>?_|refine W.bx fun b a w G=>?_|(refine W.nn hK ?_;clear hK K)|refine W.nl ?_|refine W.al fun b a w G=>?_|refine W.st fun w=>?_|refine W.stp fun w=>?_|refine W.ste ?_ fun w=>?_)|((with_reducible refine gC_ ?_);first|refine W.reg fun K hK=>?_|refine W.reg1 ?_|refine W.sq fun K hK=>?_|refine W.ds ?_ (fun β a w G hu=>W.fin ?_ hu) mixedOrders (by kernel_rfl)|refine W.sk ?_|refine W.cd (fun hc=>?_) (fun hc=>?_)|refine W.cb (fun hc=>?_) (fun hc=>?_)|refine W.bl ?_|refine W.ex ?_|refine W.rt ?_)|((with_reducible refine W.kn hK ?_);clear hK K)|(with_reducible first|refine W.bn ?_|refine W.xt ?_|refine W.xb ?_|refine W.xo ?_|refine W.tr ?_|refine W.br ?_)|refine W.rt1 rfl ?_|refine W.rt2 rfl ?_ ?_|refine W.rt3 rfl ?_ ?_ ?_)|clear hK K|clear hu|exact True.intro|exact Nat.le_trans (by clear hp;omega) hp|exact Nat.le_trans (by clear hp;omega) hp.1|exact Nat.le_trans (by clear hp;omega) hp.2|(clear hp;omega)|apply And.intro|refine GI.i fun _=>?_|with_reducible rfl|decide|(simp only [List.length_cons,List.length_nil];omega))
theorem w37 {rg ra rb rc : FR} : Con Tryz.prog 37 [PTS [(some 3,RX rg),(some 3,RX ra),(some 3,RX rb),(some 3,RX rc)]] (True) (BT (shortF [rg,ra,rb,rc])):=.o1 fun hok h1 hp=>by
  refine St.enter (N:=8) Tryz.func37 rfl rfl rfl hok (enter1 h1) fun a=>?_
  repeat' (first|((with_reducible refine gS_ ?_);first|((with_reducible refine gL_ ?_);first|refine W.run ?_ fun a w G=>?_|refine W.mv fun a w G=>?_|refine W.asg fun a w G=>?_|refine W.bx fun b a w G=>?_|(refine W.nn hK ?_;clear hK K)|refine W.nl ?_|refine W.al fun b a w G=>?_|refine W.st fun w=>?_|refine W.stp fun w=>?_|refine W.ste ?_ fun w=>?_)|((with_reducible refine gC_ ?_);first|refine W.reg fun K hK=>?_|refine W.reg1 ?_|refine W.sq fun K hK=>?_|refine W.ds ?_ (fun β a w G hu=>W.fin ?_ hu) mixedOrders (by kernel_rfl)|refine W.sk ?_|refine W.cd (fun hc=>?_) (fun hc=>?_)|refine W.cb (fun hc=>?_) (fun hc=>?_)|refine W.bl ?_|refine W.ex ?_|refine W.rt ?_)|((with_reducible refine W.kn hK ?_);clear hK K)|(with_reducible first|refine W.bn ?_|refine W.xt ?_|refine W.xb ?_|refine W.xo ?_|refine W.tr ?_|refine W.br ?_)|refine W.rt1 rfl ?_|refine W.rt2 rfl ?_ ?_|refine W.rt3 rfl ?_ ?_ ?_)|clear hK K|clear hu|exact True.intro|exact Nat.le_trans (by clear hp;omega) hp|exact Nat.le_trans (by clear hp;omega) hp.1|exact Nat.le_trans (by clear hp;omega) hp.2|(clear hp;omega)|apply And.intro|refine GI.i fun _=>?_|with_reducible rfl|decide|(simp only [List.length_cons,List.length_nil];omega))
  all_goals first | rfl | (simp only [LIM,List.length_cons,List.length_nil];omega) | skip
instance {rg ra rb rc : FR} {τ1 : MT} [j1 : NR τ1 (PTS [(some 3,RX rg),(some 3,RX ra),(some 3,RX rb),(some 3,RX rc)])] : Con Tryz.prog 37 [τ1] (True) (BT (shortF [rg,ra,rb,rc])):=.o1 fun hok h1 hp=>w37.c1 hok (j1.h h1) hp
end Go.Proofs.YtdbdnabpaadigaaGreat
set_option linter.unusedVariables false
set_option linter.unusedSimpArgs false
set_option maxHeartbeats 4000000
set_option maxRecDepth 100000
set_option synthInstance.maxSize 100000
set_option synthInstance.maxHeartbeats 400000
namespace Go.Proofs.YtdbdnabpaadigaaGreat
open Go.RowKit (Below)
attribute [local irreducible] Go.Code.wp Go.wpList Go.bodyPost
theorem sho_c {x : Rat} (h : x ≠ 0) : shoF [x] = [x]:=sho_of (k:=0) (by decide) (.inr ⟨0,Nat.le_refl _,rfl⟩) (.inr (.inl ⟨rfl,h⟩))
def limN (y u : Rat) : List Rat:=[0,y,0,u]
theorem lim_sub {y u c : Rat} : plusF (limN y u) (minusF [c]) = [-c,y,0,u]:=by
  unfold plusF minusF limN
  show [cf [0,y,0,u] 0 + cf [-c] 0,cf [0,y,0,u] 1 + cf [-c] 1,cf [0,y,0,u] 2 + cf [-c] 2,cf [0,y,0,u] 3 + cf [-c] 3] = _
  show [0 + -c,y + 0,0 + 0,u + 0] = _
  rw [Rat.zero_add,Rat.add_zero,Rat.add_zero,Rat.add_zero]
def limA (g a b c : FR) : Rat:=(g.val + a.val - (b.val + c.val)) / (2 * (a.val * g.val))
def limI (g a b c : FR) (u : Rat) : Bool:=decide (surdsF (-1) (limA g a b c) (a.val * g.val) u (a.val * g.val * (b.val * c.val)) ≤ 0) && decide (surdsF 1 (limA g a b c) (a.val * g.val) u (a.val * g.val * (b.val * c.val)) ≥ 0)
def limK (g a : FR) : List Rat:=[-(1 / (a.val * g.val)),1 / (a.val * g.val)]
def limJ (g a b c : FR) (j : Nat) : List (List Rat):=(((limK g a).take j).filter fun u=>limI g a b c u).map fun u=>limN (limA g a b c) u
def limL (g a b c : FR) : List (List Rat):=if chkF [g,a,b,c] = 0 then limJ g a b c 2 else []
theorem lim_len (g a b c : FR) (j : Nat) : (limJ g a b c j).length ≤ 2:=by
  unfold limJ
  rw [List.length_map]
  exact Nat.le_trans (List.length_filter_le _ _) (by rw [List.length_take];exact Nat.min_le_right _ _)
theorem lim_go {g a b c : FR} {j : Nat} (hj : j < 2) : limJ g a b c (j + 1) = limJ g a b c j ++ (if limI g a b c ((limK g a).getD j default) then [limN (limA g a b c) ((limK g a).getD j default)] else []):=by
  have e : (limK g a).take (j + 1) = (limK g a).take j ++ [(limK g a).getD j default]:=by
    match j,hj with
    | 0,_=>rfl
    | 1,_=>rfl
  unfold limJ
  rw [e,List.filter_append,List.map_append]
  congr 1
  generalize (limK g a).getD j default = u
  by_cases h : limI g a b c u = true
  · rw [if_pos h,List.filter_cons_of_pos h];rfl
  · rw [if_neg h,List.filter_cons_of_neg h];rfl
theorem LSC.nm {b c : Nat} {l : List Rat} {v : Value} {G : Gh} (h : (LSC none [NM b l]).t v G) (e : b ≤ c) : (LSC none [NM c l]).t v G:=⟨LS.els h.1 rfl fun i τ σ h1 h2 _ hv=>by
  match i,h1,h2 with
  | 0,h1,h2=>cases h1;cases h2;exact NM.up hv e,h.2⟩
instance AsT.nm {b : Nat} {l : List Rat} : AsT (NM b l) (NM b) l:=⟨fun h=>h⟩
theorem lim_0 {g a b c : FR} : [] = limJ g a b c 0:=rfl
theorem lim_k {g a : FR} : [-(1 / (a.val * g.val)),1 / (a.val * g.val)] = limK g a:=rfl
theorem pw1 {x : Rat} : PW 2 [x]:=.inr ⟨0,by decide,rfl⟩
theorem ag_ne {g a b c : FR} (h : [g,a,b,c].all posR = true) : a.val * g.val ≠ 0 ∧ 2 * (a.val * g.val) ≠ 0:=by
  simp only [List.all_cons,List.all_nil,Bool.and_true,Bool.and_eq_true] at h
  have h1:=posR_val h.1;have h2:=posR_val h.2.1
  have h3:=Rat.mul_pos h2 h1
  exact ⟨fun e=>by grind,fun e=>by grind⟩
theorem limL_bad {g a b c : FR} (h : chkF [g,a,b,c] ≠ 0) : limL g a b c = []:=by unfold limL;rw [if_neg h]
theorem limL_ok {g a b c : FR} (h : ¬ chkF [g,a,b,c] ≠ 0) : limL g a b c = limJ g a b c 2:=by unfold limL;rw [if_pos (by omega)]
theorem ps_bad {g a b c : FR} (h : chkF [g,a,b,c] ≠ 0) : (if chkF [g,a,b,c] = 0 then [[a.val * g.val],[b.val * c.val,0]] else []) = []:=if_neg h
theorem ps_ok {g a b c : FR} (h : ¬ chkF [g,a,b,c] ≠ 0) : (if chkF [g,a,b,c] = 0 then [[a.val * g.val],[b.val * c.val,0]] else []) = [[a.val * g.val],[b.val * c.val,0]]:=if_pos (by omega)
theorem lim_t {g a b c : FR} {j : Nat} (hp : [g, a, b, c].all posR = true) (hj : j < 2) : sgL [[a.val * g.val], [b.val * c.val, 0]] (plusF [0, limA g a b c, 0, (limK g a).getD j default] (minusF (shoF [1]))) = surdsF (-1) (limA g a b c) (a.val * g.val) ((limK g a).getD j default) (a.val * g.val * (b.val * c.val)) ∧
    sgL [[a.val * g.val],[b.val * c.val,0]] (plusF [0,limA g a b c,0,(limK g a).getD j default] (minusF (shoF [-1]))) = surdsF 1 (limA g a b c) (a.val * g.val) ((limK g a).getD j default) (a.val * g.val * (b.val * c.val)):=by
  have hn:=pos_nn hp
  rw [sho_c (by decide),sho_c (by decide)]
  constructor
  · rw [← sg2p hn.1 hn.2];exact congrArg _ lim_sub
  · rw [← sg2p hn.1 hn.2];exact congrArg _ (lim_sub.trans (by rw [show (- -1 : Rat) = 1 by decide]))
theorem lim_y {g a b c : FR} {j : Nat} (hp : [g, a, b, c].all posR = true) (hj : j < 2) (hc : (decide (sgL [[a.val * g.val], [b.val * c.val, 0]] (plusF [0, limA g a b c, 0, (limK g a).getD j default] (minusF (shoF [1]))) ≤ 0) && decide (sgL [[a.val * g.val], [b.val * c.val, 0]] (plusF [0, limA g a b c, 0, (limK g a).getD j default] (minusF (shoF [-1]))) ≥ 0)) = true) :
    limJ g a b c j ++ [[0,limA g a b c,0,(limK g a).getD j default]] = limJ g a b c (j + 1):=by
  rw [lim_go hj,(lim_t hp hj).1,(lim_t hp hj).2] at *
  rw [if_pos (show limI g a b c ((limK g a).getD j default) = true from hc)];rfl
theorem lim_n {g a b c : FR} {j : Nat} (hp : [g, a, b, c].all posR = true) (hj : j < 2) (hc : (decide (sgL [[a.val * g.val], [b.val * c.val, 0]] (plusF [0, limA g a b c, 0, (limK g a).getD j default] (minusF (shoF [1]))) ≤ 0) && decide (sgL [[a.val * g.val], [b.val * c.val, 0]] (plusF [0, limA g a b c, 0, (limK g a).getD j default] (minusF (shoF [-1]))) ≥ 0)) = false) :
    limJ g a b c j = limJ g a b c (j + 1):=by
  rw [(lim_t hp hj).1,(lim_t hp hj).2] at hc
  rw [lim_go hj,if_neg (show ¬ limI g a b c ((limK g a).getD j default) = true from fun e=>by rw [show limI g a b c ((limK g a).getD j default) = false from hc] at e;cases e),List.append_nil]
attribute [local irreducible] plusF minusF joinF levI lev PW RLN tB sB timesF stepF tmF normF TOK sgL surdsF chkF nearF farF gapC fullF
attribute [local irreducible] limJ limL limI
theorem w101 {n : Nat} {rg ra rb rc : FR} : Con Tryz.prog 101 [QUD n rg ra rb rc] (1000 * n + 300000 ≤ BIG) (MT.tup3 (TWR (n + n) (if chkF [rg,ra,rb,rc] = 0 then [[ra.val * rg.val],[rb.val * rc.val,0]] else [])) (LS none ((limL rg ra rb rc).map (NM (6 * n + 100)))) (.ex (errV 69 (chkF [rg,ra,rb,rc])))):=.o1 fun hok h1 hp=>by
  refine St.enter (N:=116) Tryz.func101 rfl rfl rfl hok (enter1 h1) fun a=>?_
  have hn1:=qud_pos h1
  have own112 : OwnAt 112:=⟨⟩
  repeat' (first|((with_reducible refine gS_ ?_);first|((with_reducible refine gL_ ?_);first|refine W.run ?_ fun a w G=>?_|refine W.mv fun a w G=>?_|refine W.asg fun a w G=>?_|refine W.bx fun b a w G=>?_|(refine W.nn hK ?_;clear hK K)|refine W.nl ?_|refine W.al fun b a w G=>?_|refine W.st fun w=>?_|refine W.stp fun w=>?_|refine W.ste ?_ fun w=>?_)|((with_reducible refine gC_ ?_);first|refine W.reg fun K hK=>?_|refine W.reg1 ?_|refine W.sq fun K hK=>?_|refine W.ds ?_ (fun β a w G hu=>W.fin ?_ hu) mixedOrders (by kernel_rfl)|refine W.sk ?_|refine W.cd (fun hc=>?_) (fun hc=>?_)|refine W.cb (fun hc=>?_) (fun hc=>?_)|refine W.bl ?_|refine W.ex ?_|refine W.rt ?_)|((with_reducible refine W.kn hK ?_);clear hK K)|(with_reducible first|refine W.bn ?_|refine W.xt ?_|refine W.xb ?_|refine W.xo ?_|refine W.tr ?_|refine W.br ?_)|refine W.rt1 rfl ?_|refine W.rt2 rfl ?_ ?_|refine W.rt3 rfl ?_ ?_ ?_)|refine W.lpo 71 (OWNS.nil (k:=none) (e:=34)) (T:=NM (6 * n + 100)) (xs0:=[]) (fun j=>2 - j) (fun j=>j ≤ 2) (fun j=>limJ rg ra rb rc j) [12,14,15,16,17,18,70,71,72,73,74,75,76,77,78,79,80,81,82,83,84,85,86,87,88,89,90,91,92,93,94,95,96,97,98,99,100,101,102,103,104,105,106,107,108,109,110,111,112,113,68,69] (fun j V=>[(70,NT j),(12,.ex V),(68,NM (6 * n + 100) (limK rg ra)),(69,NT 2)]) (fun j=>[]) 0 ?_ ?_ ?_ ?_ fun j hj V own a w G hO=>?_|refine W.ds ?_ (fun β a w G hu=>W.fing ?_) mixedOrders (by kernel_rfl)|refine W.ap (mt:=.ex (.slice none 0 0)) (T:=NM (6 * n + 100)) hO ?_ fun V own a w G hO=>?_|refine W.ago (K:=fun _ _=>True) (T:=NM (6 * n + 100)) hO (x:=j) (j+1) ?_ ?_ ?_ ?_ ?_|refine W.fzo (T:=NM (6 * n + 100)) 3 hO ?_ fun G=>?_|refine W.cast (t:=111) (τ:=LSC none [NM (max 1 (max (n + n + 1 + (n + n + 1) + 1 + (64 + (n + n))) (max 1 (6 * n + 100)))) [0,(rg.val + ra.val - (rb.val + rc.val)) / (2 * (ra.val * rg.val)),0,(limK rg ra).getD j default]]) (τ':=LSC none [NM (6 * n + 100) [0,(rg.val + ra.val - (rb.val + rc.val)) / (2 * (ra.val * rg.val)),0,(limK rg ra).getD j default]]) (fun h=>LSC.nm h (by omega)) ?_|clear hK K|clear hu|exact True.intro|exact Nat.le_trans (by clear hp;omega) hp|exact Nat.le_trans (by clear hp;omega) hp.1|exact Nat.le_trans (by clear hp;omega) hp.2|(clear hp;omega)|apply And.intro|refine GI.i fun _=>?_|with_reducible rfl|decide|(simp only [List.length_cons,List.length_nil];omega))
  all_goals first
    | omega
    | exact (ps_bad (by assumption)).symm
    | exact limL_bad (by assumption)
    | (have hp2 := chk_pos (l := [rg, ra, rb, rc]) (by omega)
       have hag:=ag_ne hp2
       have hlj:=lim_len rg ra rb rc j
       first
       | exact hag.1
       | exact hag.2
       | exact tok2 (pos_nn hp2).1 (pos_nn hp2).2
       | exact pw4
       | (rw [sho_c (by decide)];exact pw1)
       | (show sB 2 _ _ ≤ BIG;rw [sB2];omega)
       | exact lim_y hp2 (by omega) (by assumption)
       | exact lim_n hp2 (by omega) (by assumption)
       | exact (ps_ok (by assumption)).symm
       | (show j < 2;omega)
       | exact lim_0
       | exact lim_k
       | (simp only [LIM,List.length_append,List.length_cons,List.length_nil];omega)
       | (rw [limL_ok (by assumption),show j = 2 by omega])
       | skip)
    | (have hp2 := chk_pos (l := [rg, ra, rb, rc]) (by omega)
       have hag:=ag_ne hp2
       first
       | exact hag.1
       | exact hag.2
       | exact lim_0
       | exact lim_k
       | exact (ps_ok (by assumption)).symm)
    | skip
instance {n : Nat} {rg ra rb rc : FR} {τ1 : MT} [j1 : NF τ1 (QUD n rg ra rb rc)] : Con Tryz.prog 101 [τ1] (1000 * n + 300000 ≤ BIG) (MT.tup3 (TWR (n + n) (if chkF [rg,ra,rb,rc] = 0 then [[ra.val * rg.val],[rb.val * rc.val,0]] else [])) (LS none ((limL rg ra rb rc).map (NM (6 * n + 100)))) (.ex (errV 69 (chkF [rg,ra,rb,rc])))):=.o1 fun hok h1 hp=>w101.c1 hok (j1.h h1) hp
end Go.Proofs.YtdbdnabpaadigaaGreat
set_option linter.unusedVariables false
set_option linter.unusedSimpArgs false
set_option maxHeartbeats 4000000
set_option maxRecDepth 100000
set_option synthInstance.maxSize 100000
set_option synthInstance.maxHeartbeats 400000
namespace Go.Proofs.YtdbdnabpaadigaaGreat
open Go.RowKit (Below)
attribute [local irreducible] Go.Code.wp Go.wpList Go.bodyPost
theorem ex_gap : gapC (FR.of 16) (FR.of 1) (FR.of 9) (FR.of 9) (FR.of (-1)) = 0:=by
  unfold gapC
  rw [ex_chk,if_pos rfl,FR.of_ok,if_pos rfl,FR.of_val]
  decide
theorem ex_near : nearF (FR.of 16) (FR.of 1) (FR.of 9) (FR.of 9) (-1) = 1:=by
  unfold nearF
  rw [FR.of_val,FR.of_val,FR.of_val]
  decide +kernel
theorem ex_far : farF (FR.of 16) (FR.of 1) (FR.of 9) (FR.of 9) (-1) = 1:=by
  unfold farF
  rw [FR.of_val,FR.of_val,FR.of_val]
  decide +kernel
theorem ex_full : fullF (FR.of 16) (FR.of 1) (FR.of 9) (FR.of 9) = true:=by
  have h : nearF (FR.of 16) (FR.of 1) (FR.of 9) (FR.of 9) 1 = 1:=by
    unfold nearF
    rw [FR.of_val,FR.of_val,FR.of_val]
    decide +kernel
  unfold fullF
  rw [ex_chk,ex_far,h];rfl
theorem ex_lim : limL (FR.of 16) (FR.of 1) (FR.of 9) (FR.of 9) = []:=by
  have h : (limK (FR.of 16) (FR.of 1)).filter (fun u=>limI (FR.of 16) (FR.of 1) (FR.of 9) (FR.of 9) u) = []:=by
    unfold limI limK limA
    rw [FR.of_val,FR.of_val,FR.of_val]
    decide +kernel
  unfold limL limJ
  rw [ex_chk,if_pos rfl,show (limK (FR.of 16) (FR.of 1)).take 2 = limK (FR.of 16) (FR.of 1) from rfl,h];rfl
attribute [local irreducible] plusF minusF joinF levI lev PW RLN tB sB timesF stepF tmF normF TOK sgL surdsF chkF gapC fullF nearF farF limL limJ
instance  : Con Tryz.prog 36 [] (True) (BT true):=.o0 fun hok  hp=>by
  refine St.enter (N:=53) Tryz.func36 rfl rfl rfl hok enter0 fun a=>?_
  repeat' (first|((with_reducible refine gS_ ?_);first|((with_reducible refine gL_ ?_);first|refine W.run ?_ fun a w G=>?_|refine W.mv fun a w G=>?_|refine W.asg fun a w G=>?_|refine W.bx fun b a w G=>?_|(refine W.nn hK ?_;clear hK K)|refine W.nl ?_|refine W.al fun b a w G=>?_|refine W.st fun w=>?_|refine W.stp fun w=>?_|refine W.ste ?_ fun w=>?_)|((with_reducible refine gC_ ?_);first|refine W.reg fun K hK=>?_|refine W.reg1 ?_|refine W.sq fun K hK=>?_|refine W.ds ?_ (fun β a w G hu=>W.fin ?_ hu) mixedOrders (by kernel_rfl)|refine W.sk ?_|refine W.cd (fun hc=>?_) (fun hc=>?_)|refine W.cb (fun hc=>?_) (fun hc=>?_)|refine W.bl ?_|refine W.ex ?_|refine W.rt ?_)|((with_reducible refine W.kn hK ?_);clear hK K)|(with_reducible first|refine W.bn ?_|refine W.xt ?_|refine W.xb ?_|refine W.xo ?_|refine W.tr ?_|refine W.br ?_)|refine W.rt1 rfl ?_|refine W.rt2 rfl ?_ ?_|refine W.rt3 rfl ?_ ?_ ?_)|clear hK K|clear hu|exact True.intro|exact Nat.le_trans (by clear hp;omega) hp|exact Nat.le_trans (by clear hp;omega) hp.1|exact Nat.le_trans (by clear hp;omega) hp.2|(clear hp;omega)|apply And.intro|refine GI.i fun _=>?_|with_reducible rfl|decide|(simp only [List.length_cons,List.length_nil];omega))
  all_goals first
    | (rw [ex_gap,ex_chk,FR.of_val,if_pos rfl,if_pos rfl,ex_near,ex_far,ex_full,ex_lim];rfl)
    | (simp only [ex_gap,ex_chk,FR.of_val,if_true,ex_near,ex_far,ex_full,ex_lim];decide)
    | decide
    | skip
end Go.Proofs.YtdbdnabpaadigaaGreat
set_option linter.unusedVariables false
set_option linter.unusedSimpArgs false
set_option maxHeartbeats 4000000
set_option maxRecDepth 100000
set_option synthInstance.maxSize 100000
set_option synthInstance.maxHeartbeats 400000
namespace Go.Proofs.YtdbdnabpaadigaaGreat
open Go.RowKit (Below)
attribute [local irreducible] Go.Code.wp Go.wpList Go.bodyPost
instance : DecidableEq FR:=fun r s=>decidable_of_iff (r.s = s.s ∧ r.p = s.p ∧ r.q = s.q) ⟨fun h=>by obtain ⟨a,b,c⟩:=r;obtain ⟨d,e,f⟩:=s;simp only at h;obtain ⟨rfl,rfl,rfl⟩:=h;rfl,fun h=>by subst h;exact ⟨rfl,rfl,rfl⟩⟩
theorem FR.eq_dec {r s : FR} : ((r.s == s.s) && decide (r.p = s.p) && decide (r.q = s.q)) = decide (r = s):=by
  rw [Bool.eq_iff_iff,Bool.and_eq_true,Bool.and_eq_true,decide_eq_true_eq,decide_eq_true_eq,decide_eq_true_eq,beq_iff_eq]
  obtain ⟨a,b,c⟩:=r;obtain ⟨d,e,f⟩:=s;simp [and_assoc]
theorem FR.of_inj {x y : Rat} (h : FR.of x = FR.of y) : x = y:=by rw [← FR.of_val (x:=x),h,FR.of_val]
section
variable {α : Type} {l k : List α} {j : Nat}
theorem eq_ln [DecidableEq α] (h : decide (((l.length : Nat) : Int) ≠ ((k.length : Nat) : Int)) = true) : false = decide (l = k):=by
  rw [decide_eq_true_eq] at h;exact (decide_eq_false fun e=>h (by rw [e])).symm
theorem eq_at [Inhabited α] [DecidableEq α] (hj : j < l.length) (hl : l.length = k.length) (h : l.getD j default ≠ k.getD j default) : false = decide (l = k):=(decide_eq_false fun e=>h (by rw [e])).symm
theorem eq_nx [Inhabited α] (hj : j < l.length) (hl : l.length = k.length) (h : l.take j = k.take j) (e : l.getD j default = k.getD j default) : l.take (j + 1) = k.take (j + 1):=by
  rw [List.getD_eq_getElem?_getD,List.getD_eq_getElem?_getD,List.getElem?_eq_getElem hj,List.getElem?_eq_getElem (by omega)] at e
  rw [List.take_add_one,List.take_add_one,h,List.getElem?_eq_getElem hj,List.getElem?_eq_getElem (by omega)]
  simp only [Option.getD_some] at e;rw [e]
theorem eq_en [DecidableEq α] (hj : ¬ j < l.length) (hl : l.length = k.length) (h : l.take j = k.take j) : true = decide (l = k):=by
  rw [List.take_of_length_le (by omega),List.take_of_length_le (by omega)] at h
  exact (decide_eq_true h).symm
end
theorem dig_getD (l : List Nat) (j : Nat) : dig l j = l.getD j default:=rfl
theorem w193 {l k : List Nat} : Con Tryz.prog 193 [SL l,SL k] (True) (BT (decide (l = k))):=.o2 fun hok h1 h2 hp=>by
  refine St.enter (N:=26) Tryz.func193 rfl rfl rfl hok (enter2 h1 h2) fun a=>?_
  have hlim:=SL.lim h1
  have hlim2:=SL.lim h2
  simp only [LIM] at hlim hlim2
  repeat' (first|((with_reducible refine gS_ ?_);first|((with_reducible refine gL_ ?_);first|refine W.run ?_ fun a w G=>?_|refine W.mv fun a w G=>?_|refine W.asg fun a w G=>?_|refine W.bx fun b a w G=>?_|(refine W.nn hK ?_;clear hK K)|refine W.nl ?_|refine W.al fun b a w G=>?_|refine W.st fun w=>?_|refine W.stp fun w=>?_|refine W.ste ?_ fun w=>?_)|((with_reducible refine gC_ ?_);first|refine W.reg fun K hK=>?_|refine W.reg1 ?_|refine W.sq fun K hK=>?_|refine W.ds ?_ (fun β a w G hu=>W.fin ?_ hu) mixedOrders (by kernel_rfl)|refine W.sk ?_|refine W.cd (fun hc=>?_) (fun hc=>?_)|refine W.cb (fun hc=>?_) (fun hc=>?_)|refine W.bl ?_|refine W.ex ?_|refine W.rt ?_)|((with_reducible refine W.kn hK ?_);clear hK K)|(with_reducible first|refine W.bn ?_|refine W.xt ?_|refine W.xb ?_|refine W.xo ?_|refine W.tr ?_|refine W.br ?_)|refine W.rt1 rfl ?_|refine W.rt2 rfl ?_ ?_|refine W.rt3 rfl ?_ ?_ ?_)|refine W.lp 11 (α:=Nat) (fun j=>l.length - j) (fun j=>j ≤ l.length ∧ l.take j = k.take j) [4,5,11,12,13,14,15,16,17,18,19,20,21,22,23,24,25] (fun j=>[(5,NT j)]) (fun j=>[]) (0) ?_ ?_ ?_ fun j hj a w G=>?_|refine W.ag (x:=j) (j+1) ?_ ?_ ?_ ?_|clear hK K|clear hu|exact True.intro|exact Nat.le_trans (by clear hp;omega) hp|exact Nat.le_trans (by clear hp;omega) hp.1|exact Nat.le_trans (by clear hp;omega) hp.2|(clear hp;omega)|apply And.intro|refine GI.i fun _=>?_|with_reducible rfl|decide|(simp only [List.length_cons,List.length_nil];omega))
  all_goals first
    | exact eq_ln (decide_eq_true hc)
    | (simp;done)
    | (exact (decide_eq_false fun e=>hc (by rw [e])).symm)
    | (have hle : l.length = k.length := by (have h0 : ¬ ((l.length : Nat) : Int) ≠ ((k.length : Nat) : Int) := by assumption); omega
       first
       | omega
       | exact eq_en (by omega) hle hj.2
       | ((simp only [Int.toNat_natCast,dig_getD] at *);first
         | exact eq_at (by omega) hle (by assumption)
         | exact eq_nx (by omega) hle hj.2 (Classical.not_not.1 (by assumption))))
    | skip
instance {l k : List Nat} {τ1 : MT} [j1 : NL τ1 (SL l)] {τ2 : MT} [j2 : NL τ2 (SL k)] : Con Tryz.prog 193 [τ1,τ2] (True) (BT (decide (l = k))):=.o2 fun hok h1 h2 hp=>w193.c2 hok (j1.h h1) (j2.h h2) hp
theorem w148 {r s : FR} : Con Tryz.prog 148 [RX r,RX s] (True) (BT (decide (r = s))):=.o2 fun hok h1 h2 hp=>by
  refine St.enter (N:=24) Tryz.func148 rfl rfl rfl hok (enter2 h1 h2) fun a=>?_
  repeat' (first|((with_reducible refine gS_ ?_);first|((with_reducible refine gL_ ?_);first|refine W.run ?_ fun a w G=>?_|refine W.mv fun a w G=>?_|refine W.asg fun a w G=>?_|refine W.bx fun b a w G=>?_|(refine W.nn hK ?_;clear hK K)|refine W.nl ?_|refine W.al fun b a w G=>?_|refine W.st fun w=>?_|refine W.stp fun w=>?_|refine W.ste ?_ fun w=>?_)|((with_reducible refine gC_ ?_);first|refine W.reg fun K hK=>?_|refine W.reg1 ?_|refine W.sq fun K hK=>?_|refine W.ds ?_ (fun β a w G hu=>W.fin ?_ hu) mixedOrders (by kernel_rfl)|refine W.sk ?_|refine W.cd (fun hc=>?_) (fun hc=>?_)|refine W.cb (fun hc=>?_) (fun hc=>?_)|refine W.bl ?_|refine W.ex ?_|refine W.rt ?_)|((with_reducible refine W.kn hK ?_);clear hK K)|(with_reducible first|refine W.bn ?_|refine W.xt ?_|refine W.xb ?_|refine W.xo ?_|refine W.tr ?_|refine W.br ?_)|refine W.rt1 rfl ?_|refine W.rt2 rfl ?_ ?_|refine W.rt3 rfl ?_ ?_ ?_)|clear hK K|clear hu|exact True.intro|exact Nat.le_trans (by clear hp;omega) hp|exact Nat.le_trans (by clear hp;omega) hp.1|exact Nat.le_trans (by clear hp;omega) hp.2|(clear hp;omega)|apply And.intro|refine GI.i fun _=>?_|with_reducible rfl|decide|(simp only [List.length_cons,List.length_nil];omega))
  all_goals first | exact FR.eq_dec | skip
instance {r s : FR} {τ1 : MT} [j1 : NR τ1 (RX r)] {τ2 : MT} [j2 : NR τ2 (RX s)] : Con Tryz.prog 148 [τ1,τ2] (True) (BT (decide (r = s))):=.o2 fun hok h1 h2 hp=>w148.c2 hok (j1.h h1) (j2.h h2) hp
theorem w88 {xs ys : List FR} : Con Tryz.prog 88 [LS (some 3) (xs.map RX),LS (some 3) (ys.map RX)] (True) (BT (decide (xs = ys))):=.o2 fun hok h1 h2 hp=>by
  refine St.enter (N:=27) Tryz.func88 rfl rfl rfl hok (enter2 h1 h2) fun a=>?_
  have hlim:=LS.lenM h1
  have hlim2:=LS.lenM h2
  simp only [LIM] at hlim hlim2
  repeat' (first|((with_reducible refine gS_ ?_);first|((with_reducible refine gL_ ?_);first|refine W.run ?_ fun a w G=>?_|refine W.mv fun a w G=>?_|refine W.asg fun a w G=>?_|refine W.bx fun b a w G=>?_|(refine W.nn hK ?_;clear hK K)|refine W.nl ?_|refine W.al fun b a w G=>?_|refine W.st fun w=>?_|refine W.stp fun w=>?_|refine W.ste ?_ fun w=>?_)|((with_reducible refine gC_ ?_);first|refine W.reg fun K hK=>?_|refine W.reg1 ?_|refine W.sq fun K hK=>?_|refine W.ds ?_ (fun β a w G hu=>W.fin ?_ hu) mixedOrders (by kernel_rfl)|refine W.sk ?_|refine W.cd (fun hc=>?_) (fun hc=>?_)|refine W.cb (fun hc=>?_) (fun hc=>?_)|refine W.bl ?_|refine W.ex ?_|refine W.rt ?_)|((with_reducible refine W.kn hK ?_);clear hK K)|(with_reducible first|refine W.bn ?_|refine W.xt ?_|refine W.xb ?_|refine W.xo ?_|refine W.tr ?_|refine W.br ?_)|refine W.rt1 rfl ?_|refine W.rt2 rfl ?_ ?_|refine W.rt3 rfl ?_ ?_ ?_)|refine W.lp 11 (α:=Nat) (fun j=>xs.length - j) (fun j=>j ≤ xs.length ∧ xs.take j = ys.take j) [4,5,11,12,13,14,15,16,17,18,19,20,21,22,23,24,25,26] (fun j=>[(5,NT j)]) (fun j=>[]) (0) ?_ ?_ ?_ fun j hj a w G=>?_|refine W.ag (x:=j) (j+1) ?_ ?_ ?_ ?_|clear hK K|clear hu|exact True.intro|exact Nat.le_trans (by clear hp;omega) hp|exact Nat.le_trans (by clear hp;omega) hp.1|exact Nat.le_trans (by clear hp;omega) hp.2|(clear hp;omega)|apply And.intro|refine GI.i fun _=>?_|with_reducible rfl|decide|(simp only [List.length_cons,List.length_nil];omega))
  all_goals first
    | exact eq_ln (decide_eq_true hc)
    | (simp;done)
    | (exact (decide_eq_false fun e=>hc (by rw [e])).symm)
    | (have hle : xs.length = ys.length := by (have h0 : ¬ ((xs.length : Nat) : Int) ≠ ((ys.length : Nat) : Int) := by assumption); omega
       first
       | omega
       | exact eq_en (by omega) hle hj.2
       | (first
         | (refine eq_at (j:=j) (by omega) hle ?_;simp only [Bool.not_eq_true',decide_eq_false_iff_not] at hc;exact hc)
         | exact eq_nx (by omega) hle hj.2 (by simpa using hc)))
    | skip
instance {xs ys : List FR} {τ1 : MT} [j1 : NR τ1 (LS (some 3) (xs.map RX))] {τ2 : MT} [j2 : NR τ2 (LS (some 3) (ys.map RX))] : Con Tryz.prog 88 [τ1,τ2] (True) (BT (decide (xs = ys))):=.o2 fun hok h1 h2 hp=>w88.c2 hok (j1.h h1) (j2.h h2) hp
abbrev LFR (l : List FR) : MT:=LS (some 3) (l.map RX)
instance {l : List FR} : AsT (LS (some 3) (l.map RX)) LFR l:=⟨fun h=>h⟩
theorem NM.lfr {n : Nat} {l : List Rat} {v : Value} {G : Gh} (h : (NM n l).t v G) : (LFR (l.map FR.of)).t v G:=LS.convM (T:=QC n) (U:=RX) (f:=FR.of) h (by simp) fun x hx v G hv=>FX.toRX (QC.toFX hv (QC.one hv))
instance NR.nm {n : Nat} {l : List Rat} : NR (LS (some 3) (l.map (QC n))) (LS (some 3) ((l.map FR.of).map RX)):=⟨NM.lfr⟩
instance NR.rts {n : Nat} {rs : List (List Rat)} : NR (LS none (rs.map (NM n))) (LS none ((rs.map (List.map FR.of)).map LFR)):=⟨fun h=>LS.convM (T:=NM n) (U:=LFR) (f:=List.map FR.of) h (by simp) fun x hx v G hv=>NM.lfr hv⟩
theorem mof_inj {l k : List Rat} (h : l.map FR.of = k.map FR.of) : l = k:=by
  induction l generalizing k with
  | nil=>cases k with
    | nil=>rfl
    | cons y k=>cases h
  | cons x l ih=>cases k with
    | nil=>cases h
    | cons y k=>simp only [List.map_cons,List.cons.injEq] at h;rw [FR.of_inj h.1,ih h.2]
theorem mmof_inj {l k : List (List Rat)} (h : l.map (List.map FR.of) = k.map (List.map FR.of)) : l = k:=by
  induction l generalizing k with
  | nil=>cases k with
    | nil=>rfl
    | cons y k=>cases h
  | cons x l ih=>cases k with
    | nil=>cases h
    | cons y k=>simp only [List.map_cons,List.cons.injEq] at h;rw [mof_inj h.1,ih h.2]
theorem mof_dec {l k : List Rat} : decide (l.map FR.of = k.map FR.of) = decide (l = k):=decide_eq_decide.2 ⟨mof_inj,fun h=>by rw [h]⟩
theorem mmof_dec {l k : List (List Rat)} : decide (l.map (List.map FR.of) = k.map (List.map FR.of)) = decide (l = k):=decide_eq_decide.2 ⟨mmof_inj,fun h=>by rw [h]⟩
theorem w26 {xs ys : List FR} : Con Tryz.prog 26 [LS (some 3) (xs.map RX),LS (some 3) (ys.map RX)] (True) (BT (decide (xs = ys))):=.o2 fun hok h1 h2 hp=>by
  refine St.enter (N:=8) Tryz.func26 rfl rfl rfl hok (enter2 h1 h2) fun a=>?_
  repeat' (first|((with_reducible refine gS_ ?_);first|((with_reducible refine gL_ ?_);first|refine W.run ?_ fun a w G=>?_|refine W.mv fun a w G=>?_|refine W.asg fun a w G=>?_|refine W.bx fun b a w G=>?_|(refine W.nn hK ?_;clear hK K)|refine W.nl ?_|refine W.al fun b a w G=>?_|refine W.st fun w=>?_|refine W.stp fun w=>?_|refine W.ste ?_ fun w=>?_)|((with_reducible refine gC_ ?_);first|refine W.reg fun K hK=>?_|refine W.reg1 ?_|refine W.sq fun K hK=>?_|refine W.ds ?_ (fun β a w G hu=>W.fin ?_ hu) mixedOrders (by kernel_rfl)|refine W.sk ?_|refine W.cd (fun hc=>?_) (fun hc=>?_)|refine W.cb (fun hc=>?_) (fun hc=>?_)|refine W.bl ?_|refine W.ex ?_|refine W.rt ?_)|((with_reducible refine W.kn hK ?_);clear hK K)|(with_reducible first|refine W.bn ?_|refine W.xt ?_|refine W.xb ?_|refine W.xo ?_|refine W.tr ?_|refine W.br ?_)|refine W.rt1 rfl ?_|refine W.rt2 rfl ?_ ?_|refine W.rt3 rfl ?_ ?_ ?_)|clear hK K|clear hu|exact True.intro|exact Nat.le_trans (by clear hp;omega) hp|exact Nat.le_trans (by clear hp;omega) hp.1|exact Nat.le_trans (by clear hp;omega) hp.2|(clear hp;omega)|apply And.intro|refine GI.i fun _=>?_|with_reducible rfl|decide|(simp only [List.length_cons,List.length_nil];omega))
instance {xs ys : List FR} {τ1 : MT} [j1 : NR τ1 (LS (some 3) (xs.map RX))] {τ2 : MT} [j2 : NR τ2 (LS (some 3) (ys.map RX))] : Con Tryz.prog 26 [τ1,τ2] (True) (BT (decide (xs = ys))):=.o2 fun hok h1 h2 hp=>w26.c2 hok (j1.h h1) (j2.h h2) hp
theorem PTS.lenL {α : Type} {T : α → MT} {xs : List α} {v : Value} {G : Gh} (h : (PTS [(none,LS none (xs.map T))]).t v G) : xs.length ≤ LIM:=by
  obtain ⟨us,_,hl,hE⟩:=h
  match us,hl with
  | u :: us,_=>exact LS.lenM (hE 0 _ u rfl rfl).2
theorem w24 {xs ys : List (List FR)} : Con Tryz.prog 24 [PTS [(none,LS none (xs.map LFR))],PTS [(none,LS none (ys.map LFR))]] (True) (BT (decide (xs = ys))):=.o2 fun hok h1 h2 hp=>by
  refine St.enter (N:=32) Tryz.func24 rfl rfl rfl hok (enter2 h1 h2) fun a=>?_
  have hlim:=PTS.lenL h1
  have hlim2:=PTS.lenL h2
  simp only [LIM] at hlim hlim2
  repeat' (first|((with_reducible refine gS_ ?_);first|((with_reducible refine gL_ ?_);first|refine W.run ?_ fun a w G=>?_|refine W.mv fun a w G=>?_|refine W.asg fun a w G=>?_|refine W.bx fun b a w G=>?_|(refine W.nn hK ?_;clear hK K)|refine W.nl ?_|refine W.al fun b a w G=>?_|refine W.st fun w=>?_|refine W.stp fun w=>?_|refine W.ste ?_ fun w=>?_)|((with_reducible refine gC_ ?_);first|refine W.reg fun K hK=>?_|refine W.reg1 ?_|refine W.sq fun K hK=>?_|refine W.ds ?_ (fun β a w G hu=>W.fin ?_ hu) mixedOrders (by kernel_rfl)|refine W.sk ?_|refine W.cd (fun hc=>?_) (fun hc=>?_)|refine W.cb (fun hc=>?_) (fun hc=>?_)|refine W.bl ?_|refine W.ex ?_|refine W.rt ?_)|((with_reducible refine W.kn hK ?_);clear hK K)|(with_reducible first|refine W.bn ?_|refine W.xt ?_|refine W.xb ?_|refine W.xo ?_|refine W.tr ?_|refine W.br ?_)|refine W.rt1 rfl ?_|refine W.rt2 rfl ?_ ?_|refine W.rt3 rfl ?_ ?_ ?_)|refine W.lp 13 (α:=Nat) (fun j=>xs.length - j) (fun j=>j ≤ xs.length ∧ xs.take j = ys.take j) [4,5,13,14,15,16,17,18,19,20,21,22,23,24,25,26,27,28,29,30,31] (fun j=>[(5,NT j)]) (fun j=>[]) (0) ?_ ?_ ?_ fun j hj a w G=>?_|refine W.ag (x:=j) (j+1) ?_ ?_ ?_ ?_|clear hK K|clear hu|exact True.intro|exact Nat.le_trans (by clear hp;omega) hp|exact Nat.le_trans (by clear hp;omega) hp.1|exact Nat.le_trans (by clear hp;omega) hp.2|(clear hp;omega)|apply And.intro|refine GI.i fun _=>?_|with_reducible rfl|decide|(simp only [List.length_cons,List.length_nil];omega))
  all_goals first
    | exact eq_ln (decide_eq_true hc)
    | (simp;done)
    | (exact (decide_eq_false fun e=>hc (by rw [e])).symm)
    | (have hle : xs.length = ys.length := by (have h0 : ¬ ((xs.length : Nat) : Int) ≠ ((ys.length : Nat) : Int) := by assumption); omega
       first
       | omega
       | exact eq_en (by omega) hle hj.2
       | (first
         | (refine eq_at (j:=j) (by omega) hle ?_;simp only [Bool.not_eq_true',decide_eq_false_iff_not] at hc;exact hc)
         | exact eq_nx (by omega) hle hj.2 (by simpa using hc)))
    | skip
instance {xs ys : List (List FR)} {τ1 : MT} [j1 : NR τ1 (PTS [(none,LS none (xs.map LFR))])] {τ2 : MT} [j2 : NR τ2 (PTS [(none,LS none (ys.map LFR))])] : Con Tryz.prog 24 [τ1,τ2] (True) (BT (decide (xs = ys))):=.o2 fun hok h1 h2 hp=>w24.c2 hok (j1.h h1) (j2.h h2) hp
instance (priority:=1100) {n m : Nat} {l k : List Rat} {τ1 τ2 : MT} [j1 : NU τ1 (NM n l)] [j2 : NU τ2 (NM m k)] : Con Tryz.prog 88 [τ1,τ2] True (BT (decide (l = k))):=.o2 fun hok h1 h2 hp=>by
  have:=(inferInstance : Con Tryz.prog 88 [NM n l,NM m k] _ _).c2 hok (j1.h h1) (j2.h h2) hp
  rwa [mof_dec] at this
instance (priority:=1100) {n m : Nat} {l k : List Rat} {τ1 τ2 : MT} [j1 : NU τ1 (NM n l)] [j2 : NU τ2 (NM m k)] : Con Tryz.prog 26 [τ1,τ2] True (BT (decide (l = k))):=.o2 fun hok h1 h2 hp=>by
  have:=(inferInstance : Con Tryz.prog 26 [NM n l,NM m k] _ _).c2 hok (j1.h h1) (j2.h h2) hp
  rwa [mof_dec] at this
instance (priority:=1100) {n m : Nat} {l k : List (List Rat)} {τ1 τ2 : MT} [j1 : NU τ1 (TWR n l)] [j2 : NU τ2 (TWR m k)] : Con Tryz.prog 24 [τ1,τ2] True (BT (decide (l = k))):=.o2 fun hok h1 h2 hp=>by
  have:=(inferInstance : Con Tryz.prog 24 [TWR n l,TWR m k] _ _).c2 hok (j1.h h1) (j2.h h2) hp
  rwa [mmof_dec] at this
end Go.Proofs.YtdbdnabpaadigaaGreat
