import Derived.Test.YtdbdnabpaadigaaGreatQj
set_option linter.unusedVariables false
set_option linter.unusedSimpArgs false
set_option linter.unusedVariables false
set_option linter.unusedSimpArgs false
set_option maxHeartbeats 4000000
set_option maxRecDepth 100000
set_option synthInstance.maxSize 100000
set_option synthInstance.maxHeartbeats 400000
namespace Go.Proofs.YtdbdnabpaadigaaGreat
open Go.RowKit (Below)
attribute [local irreducible] Go.Code.wp Go.wpList Go.bodyPost
private theorem gS_ {W0 : World} {G0 : Gh} {N : Nat} {L : List (Nat × MT)} {B : List BX} {a : Act} {w : World} {G : Gh} {q : Prop} (h : St W0 G0 N L B a w G → q) : St W0 G0 N L B a w G → q:=h
private theorem gL_ {p : Prop} {P : Program} {arr : Array Oper} {Q : Exit → Act → World → Prop} {l : List Oper} {a : Act} {w : World} (h : p → wpList P arr Q l a w) : p → wpList P arr Q l a w:=h
private theorem gC_ {p : Prop} {P : Program} {c : Code} {Q : Exit → Act → World → Prop} {a : Act} {w : World} (h : p → c.wp P Q a w) : p → c.wp P Q a w:=h
private theorem mixedOrders : Tryz.prog.follows .mixedOrders = true:=by kernel_rfl
attribute [local irreducible] plusF minusF joinF levI lev PW RLN tB sB timesF stepF tmF normF shoF TOK sgL surdsF surdF chkF gapC fullF nearF farF limL limJ sinA sinB sinC fulC leaL mosL alsC alsF rigF rgtF atF twoA
theorem sinL_ref {g a b c : FR} {k : Rat} : [1 - (-(g.val + a.val - (b.val + c.val)) * -(g.val + a.val - (b.val + c.val)) + 4 * (k * k * (a.val * g.val))) / (4 * (b.val * c.val)),-(-(g.val + a.val - (b.val + c.val)) * k / (b.val * c.val))] = sinL g a b c k:=by
  unfold sinL sinA sinB
  rw [show -(g.val + a.val - (b.val + c.val)) = b.val + c.val - (g.val + a.val) by grind,show 4 * (k * k * (a.val * g.val)) = k * k * (4 * (a.val * g.val)) by grind]
theorem w25 {n : Nat} {rg ra rb rc : FR} : Con Tryz.prog 25 [QUD n rg ra rb rc] (1000 * n + 100000 ≤ BIG) (TWR (n + n) [[ra.val * rg.val]]):=.o1 fun hok h1 hp=>by
  refine St.enter (N:=16) Tryz.func25 rfl rfl rfl hok (enter1 h1) fun a=>?_
  have hn1:=qud_pos h1
  repeat' (first|((with_reducible refine gS_ ?_);first|((with_reducible refine gL_ ?_);first|refine W.run ?_ fun a w G=>?_|refine W.mv fun a w G=>?_|refine W.asg fun a w G=>?_|refine W.bx fun b a w G=>?_|(refine W.nn hK ?_;clear hK K)|refine W.nl ?_|refine W.al fun b a w G=>?_|refine W.st fun w=>?_|refine W.stp fun w=>?_|refine W.ste ?_ fun w=>?_)|((with_reducible refine gC_ ?_);first|refine W.reg fun K hK=>?_|refine W.reg1 ?_|refine W.sq fun K hK=>?_|refine W.ds ?_ (fun β a w G hu=>W.fin ?_ hu) mixedOrders (by kernel_rfl)|refine W.sk ?_|refine W.cd (fun hc=>?_) (fun hc=>?_)|refine W.cb (fun hc=>?_) (fun hc=>?_)|refine W.bl ?_|refine W.ex ?_|refine W.rt ?_)|((with_reducible refine W.kn hK ?_);clear hK K)|(with_reducible first|refine W.bn ?_|refine W.xt ?_|refine W.xb ?_|refine W.xo ?_|refine W.tr ?_|refine W.br ?_)|refine W.rt1 rfl ?_|refine W.rt2 rfl ?_ ?_|refine W.rt3 rfl ?_ ?_ ?_)|clear hK K|clear hu|exact True.intro|exact Nat.le_trans (by clear hp;omega) hp|exact Nat.le_trans (by clear hp;omega) hp.1|exact Nat.le_trans (by clear hp;omega) hp.2|(clear hp;omega)|apply And.intro|refine GI.i fun _=>?_|with_reducible rfl|decide|(simp only [List.length_cons,List.length_nil];omega))
  all_goals first | omega | skip
instance {n : Nat} {rg ra rb rc : FR} {τ1 : MT} [j1 : NF τ1 (QUD n rg ra rb rc)] : Con Tryz.prog 25 [τ1] (1000 * n + 100000 ≤ BIG) (TWR (n + n) [[ra.val * rg.val]]):=.o1 fun hok h1 hp=>w25.c1 hok (j1.h h1) hp
theorem w47 {n m : Nat} {rg ra rb rc : FR} {k : Rat} : Con Tryz.prog 47 [QUD n rg ra rb rc,QV m k] (1000 * n + 1000 * m + 200000 ≤ BIG ∧ [rg,ra,rb,rc].all posR = true) (NM (12 * n + 2 * m + 200) [1 - sinA rg ra rb rc k,-sinB rg ra rb rc k]):=.o2 fun hok h1 h2 hp=>by
  refine St.enter (N:=57) Tryz.func47 rfl rfl rfl hok (enter2 h1 h2) fun a=>?_
  have hn1:=qud_pos h1
  repeat' (first|((with_reducible refine gS_ ?_);first|((with_reducible refine gL_ ?_);first|refine W.run ?_ fun a w G=>?_|refine W.mv fun a w G=>?_|refine W.asg fun a w G=>?_|refine W.bx fun b a w G=>?_|(refine W.nn hK ?_;clear hK K)|refine W.nl ?_|refine W.al fun b a w G=>?_|refine W.st fun w=>?_|refine W.stp fun w=>?_|refine W.ste ?_ fun w=>?_)|((with_reducible refine gC_ ?_);first|refine W.reg fun K hK=>?_|refine W.reg1 ?_|refine W.sq fun K hK=>?_|refine W.ds ?_ (fun β a w G hu=>W.fin ?_ hu) mixedOrders (by kernel_rfl)|refine W.sk ?_|refine W.cd (fun hc=>?_) (fun hc=>?_)|refine W.cb (fun hc=>?_) (fun hc=>?_)|refine W.bl ?_|refine W.ex ?_|refine W.rt ?_)|((with_reducible refine W.kn hK ?_);clear hK K)|(with_reducible first|refine W.bn ?_|refine W.xt ?_|refine W.xb ?_|refine W.xo ?_|refine W.tr ?_|refine W.br ?_)|refine W.rt1 rfl ?_|refine W.rt2 rfl ?_ ?_|refine W.rt3 rfl ?_ ?_ ?_)|clear hK K|clear hu|exact True.intro|exact Nat.le_trans (by clear hp;omega) hp|exact Nat.le_trans (by clear hp;omega) hp.1|exact Nat.le_trans (by clear hp;omega) hp.2|(clear hp;omega)|apply And.intro|refine GI.i fun _=>?_|with_reducible rfl|decide|(simp only [List.length_cons,List.length_nil];omega))
  all_goals (have hbc:=bc_ne hp.2)
  all_goals first
    | omega
    | exact hbc.1
    | exact hbc.2
    | exact sinL_ref
    | skip
instance {n m : Nat} {rg ra rb rc : FR} {k : Rat} {τ1 : MT} [j1 : NF τ1 (QUD n rg ra rb rc)] {τ2 : MT} [j2 : NQ τ2 (QV m k)] : Con Tryz.prog 47 [τ1,τ2] (1000 * n + 1000 * m + 200000 ≤ BIG ∧ [rg,ra,rb,rc].all posR = true) (NM (12 * n + 2 * m + 200) [1 - sinA rg ra rb rc k,-sinB rg ra rb rc k]):=.o2 fun hok h1 h2 hp=>w47.c2 hok (j1.h h1) (j2.h h2) hp
theorem w28 {n m : Nat} {rg ra rb rc : FR} {y z : Rat} : Con Tryz.prog 28 [QUD n rg ra rb rc,NM m [y,z]] (100 * n + 10 * m + 10000 ≤ BIG) (IT (surdF y z (ra.val * rg.val))):=.o2 fun hok h1 h2 hp=>by
  refine St.enter (N:=22) Tryz.func28 rfl rfl rfl hok (enter2 h1 h2) fun a=>?_
  have hn1:=qud_pos h1
  repeat' (first|((with_reducible refine gS_ ?_);first|((with_reducible refine gL_ ?_);first|refine W.run ?_ fun a w G=>?_|refine W.mv fun a w G=>?_|refine W.asg fun a w G=>?_|refine W.bx fun b a w G=>?_|(refine W.nn hK ?_;clear hK K)|refine W.nl ?_|refine W.al fun b a w G=>?_|refine W.st fun w=>?_|refine W.stp fun w=>?_|refine W.ste ?_ fun w=>?_)|((with_reducible refine gC_ ?_);first|refine W.reg fun K hK=>?_|refine W.reg1 ?_|refine W.sq fun K hK=>?_|refine W.ds ?_ (fun β a w G hu=>W.fin ?_ hu) mixedOrders (by kernel_rfl)|refine W.sk ?_|refine W.cd (fun hc=>?_) (fun hc=>?_)|refine W.cb (fun hc=>?_) (fun hc=>?_)|refine W.bl ?_|refine W.ex ?_|refine W.rt ?_)|((with_reducible refine W.kn hK ?_);clear hK K)|(with_reducible first|refine W.bn ?_|refine W.xt ?_|refine W.xb ?_|refine W.xo ?_|refine W.tr ?_|refine W.br ?_)|refine W.rt1 rfl ?_|refine W.rt2 rfl ?_ ?_|refine W.rt3 rfl ?_ ?_ ?_)|clear hK K|clear hu|exact True.intro|exact Nat.le_trans (by clear hp;omega) hp|exact Nat.le_trans (by clear hp;omega) hp.1|exact Nat.le_trans (by clear hp;omega) hp.2|(clear hp;omega)|apply And.intro|refine GI.i fun _=>?_|with_reducible rfl|decide|(simp only [List.length_cons,List.length_nil];omega))
  all_goals first | omega | rfl | (simp;done) | skip
instance {n m : Nat} {rg ra rb rc : FR} {y z : Rat} {τ1 : MT} [j1 : NF τ1 (QUD n rg ra rb rc)] {τ2 : MT} [j2 : NU τ2 (NM m [y,z])] : Con Tryz.prog 28 [τ1,τ2] (100 * n + 10 * m + 10000 ≤ BIG) (IT (surdF y z (ra.val * rg.val))):=.o2 fun hok h1 h2 hp=>w28.c2 hok (j1.h h1) (j2.h h2) hp
theorem w86 {n m : Nat} {y z y2 z2 : Rat} : Con Tryz.prog 86 [NM n [y,z],NM m [y2,z2]] (n + m + 1 ≤ BIG) (NM (n + m + 1) [y - y2,z - z2]):=.o2 fun hok h1 h2 hp=>by
  refine St.enter (N:=20) Tryz.func86 rfl rfl rfl hok (enter2 h1 h2) fun a=>?_
  repeat' (first|((with_reducible refine gS_ ?_);first|((with_reducible refine gL_ ?_);first|refine W.run ?_ fun a w G=>?_|refine W.mv fun a w G=>?_|refine W.asg fun a w G=>?_|refine W.bx fun b a w G=>?_|(refine W.nn hK ?_;clear hK K)|refine W.nl ?_|refine W.al fun b a w G=>?_|refine W.st fun w=>?_|refine W.stp fun w=>?_|refine W.ste ?_ fun w=>?_)|((with_reducible refine gC_ ?_);first|refine W.reg fun K hK=>?_|refine W.reg1 ?_|refine W.sq fun K hK=>?_|refine W.ds ?_ (fun β a w G hu=>W.fin ?_ hu) mixedOrders (by kernel_rfl)|refine W.sk ?_|refine W.cd (fun hc=>?_) (fun hc=>?_)|refine W.cb (fun hc=>?_) (fun hc=>?_)|refine W.bl ?_|refine W.ex ?_|refine W.rt ?_)|((with_reducible refine W.kn hK ?_);clear hK K)|(with_reducible first|refine W.bn ?_|refine W.xt ?_|refine W.xb ?_|refine W.xo ?_|refine W.tr ?_|refine W.br ?_)|refine W.rt1 rfl ?_|refine W.rt2 rfl ?_ ?_|refine W.rt3 rfl ?_ ?_ ?_)|clear hK K|clear hu|exact True.intro|exact Nat.le_trans (by clear hp;omega) hp|exact Nat.le_trans (by clear hp;omega) hp.1|exact Nat.le_trans (by clear hp;omega) hp.2|(clear hp;omega)|apply And.intro|refine GI.i fun _=>?_|with_reducible rfl|decide|(simp only [List.length_cons,List.length_nil];omega))
  all_goals first | omega | rfl | (simp;done) | skip
instance {n m : Nat} {y z y2 z2 : Rat} {τ1 : MT} [j1 : NU τ1 (NM n [y,z])] {τ2 : MT} [j2 : NU τ2 (NM m [y2,z2])] : Con Tryz.prog 86 [τ1,τ2] (n + m + 1 ≤ BIG) (NM (n + m + 1) [y - y2,z - z2]):=.o2 fun hok h1 h2 hp=>w86.c2 hok (j1.h h1) (j2.h h2) hp
theorem rgt_ref {g a b c : FR} : decide (cmpQ ((g.val + a.val - (b.val + c.val)) * (g.val + a.val - (b.val + c.val))) (4 * (a.val * g.val)) ≤ 0) = rgtF g a b c:=by
  unfold rgtF midF
  rw [show (g.val + a.val - (b.val + c.val)) * (g.val + a.val - (b.val + c.val)) = (b.val + c.val - (g.val + a.val)) * (b.val + c.val - (g.val + a.val)) by grind]
theorem sgn_mid {g a b c : FR} : -(g.val + a.val - (b.val + c.val)).num.sign = (midF g a b c).num.sign:=by
  unfold midF
  rw [show b.val + c.val - (g.val + a.val) = -(g.val + a.val - (b.val + c.val)) by grind,Rat.neg_num,Int.sign_neg]
theorem ends_ref {g a b c : FR} (h : [g,a,b,c].all posR = true) : surdF (1 - sinA g a b c (-1) - (1 - sinA g a b c 1)) (-sinB g a b c (-1) - -sinB g a b c 1) (a.val * g.val) = (midF g a b c).num.sign:=sin_ends h
theorem at_r1 {g a b c : FR} (h : [g,a,b,c].all posR = true) (e : surdF (1 - sinA g a b c (-1) - (1 - sinA g a b c 1)) (-sinB g a b c (-1) - -sinB g a b c 1) (a.val * g.val) < 0) : atF g a b c = -1:=at_m (by rwa [ends_ref h] at e)
theorem at_r2 {g a b c : FR} (h : [g,a,b,c].all posR = true) (e : ¬ surdF (1 - sinA g a b c (-1) - (1 - sinA g a b c 1)) (-sinB g a b c (-1) - -sinB g a b c 1) (a.val * g.val) < 0) : atF g a b c = 1:=at_1 (by rwa [ends_ref h] at e)
theorem w87 {n : Nat} {rg ra rb rc : FR} : Con Tryz.prog 87 [QUD n rg ra rb rc] (1000 * n + 300000 ≤ BIG) (BT (rgtF rg ra rb rc)):=.o1 fun hok h1 hp=>by
  refine St.enter (N:=20) Tryz.func87 rfl rfl rfl hok (enter1 h1) fun a=>?_
  have hn1:=qud_pos h1
  repeat' (first|((with_reducible refine gS_ ?_);first|((with_reducible refine gL_ ?_);first|refine W.run ?_ fun a w G=>?_|refine W.mv fun a w G=>?_|refine W.asg fun a w G=>?_|refine W.bx fun b a w G=>?_|(refine W.nn hK ?_;clear hK K)|refine W.nl ?_|refine W.al fun b a w G=>?_|refine W.st fun w=>?_|refine W.stp fun w=>?_|refine W.ste ?_ fun w=>?_)|((with_reducible refine gC_ ?_);first|refine W.reg fun K hK=>?_|refine W.reg1 ?_|refine W.sq fun K hK=>?_|refine W.ds ?_ (fun β a w G hu=>W.fin ?_ hu) mixedOrders (by kernel_rfl)|refine W.sk ?_|refine W.cd (fun hc=>?_) (fun hc=>?_)|refine W.cb (fun hc=>?_) (fun hc=>?_)|refine W.bl ?_|refine W.ex ?_|refine W.rt ?_)|((with_reducible refine W.kn hK ?_);clear hK K)|(with_reducible first|refine W.bn ?_|refine W.xt ?_|refine W.xb ?_|refine W.xo ?_|refine W.tr ?_|refine W.br ?_)|refine W.rt1 rfl ?_|refine W.rt2 rfl ?_ ?_|refine W.rt3 rfl ?_ ?_ ?_)|clear hK K|clear hu|exact True.intro|exact Nat.le_trans (by clear hp;omega) hp|exact Nat.le_trans (by clear hp;omega) hp.1|exact Nat.le_trans (by clear hp;omega) hp.2|(clear hp;omega)|apply And.intro|refine GI.i fun _=>?_|with_reducible rfl|decide|(simp only [List.length_cons,List.length_nil];omega))
  all_goals first
    | omega
    | exact rgt_ref
    | skip
instance {n : Nat} {rg ra rb rc : FR} {τ1 : MT} [j1 : NF τ1 (QUD n rg ra rb rc)] : Con Tryz.prog 87 [τ1] (1000 * n + 300000 ≤ BIG) (BT (rgtF rg ra rb rc)):=.o1 fun hok h1 hp=>w87.c1 hok (j1.h h1) hp
theorem w23 {n : Nat} {rg ra rb rc : FR} : Con Tryz.prog 23 [QUD n rg ra rb rc] (1000 * n + 300000 ≤ BIG ∧ [rg,ra,rb,rc].all posR = true) (MT.tup3 (NM (12 * n + 400) (sinL rg ra rb rc ((atF rg ra rb rc : Int) : Rat))) (NM (12 * n + 400) (if rgtF rg ra rb rc then [1,0] else sinL rg ra rb rc ((-atF rg ra rb rc : Int) : Rat))) (IT (atF rg ra rb rc))):=.o1 fun hok h1 hp=>by
  refine St.enter (N:=34) Tryz.func23 rfl rfl rfl hok (enter1 h1) fun a=>?_
  have hn1:=qud_pos h1
  repeat' (first|((with_reducible refine gS_ ?_);first|((with_reducible refine gL_ ?_);first|refine W.run ?_ fun a w G=>?_|refine W.mv fun a w G=>?_|refine W.asg fun a w G=>?_|refine W.bx fun b a w G=>?_|(refine W.nn hK ?_;clear hK K)|refine W.nl ?_|refine W.al fun b a w G=>?_|refine W.st fun w=>?_|refine W.stp fun w=>?_|refine W.ste ?_ fun w=>?_)|((with_reducible refine gC_ ?_);first|refine W.reg fun K hK=>?_|refine W.reg1 ?_|refine W.sq fun K hK=>?_|refine W.ds ?_ (fun β a w G hu=>W.fin ?_ hu) mixedOrders (by kernel_rfl)|refine W.sk ?_|refine W.cd (fun hc=>?_) (fun hc=>?_)|refine W.cb (fun hc=>?_) (fun hc=>?_)|refine W.bl ?_|refine W.ex ?_|refine W.rt ?_)|((with_reducible refine W.kn hK ?_);clear hK K)|(with_reducible first|refine W.bn ?_|refine W.xt ?_|refine W.xb ?_|refine W.xo ?_|refine W.tr ?_|refine W.br ?_)|refine W.rt1 rfl ?_|refine W.rt2 rfl ?_ ?_|refine W.rt3 rfl ?_ ?_ ?_)|clear hK K|clear hu|exact True.intro|exact Nat.le_trans (by clear hp;omega) hp|exact Nat.le_trans (by clear hp;omega) hp.1|exact Nat.le_trans (by clear hp;omega) hp.2|(clear hp;omega)|apply And.intro|refine GI.i fun _=>?_|with_reducible rfl|decide|(simp only [List.length_cons,List.length_nil];omega))
  all_goals first
    | omega
    | exact hp.2
    | (first | rw [at_r1 hp.2 (by assumption)] | rw [at_r2 hp.2 (by assumption)]
       first | done | rfl | (rw [if_pos (by assumption)];done) | (rw [if_neg (by simp_all)];rfl))
    | (rw [if_pos (by assumption)];done)
    | skip
instance {n : Nat} {rg ra rb rc : FR} {τ1 : MT} [j1 : NF τ1 (QUD n rg ra rb rc)] : Con Tryz.prog 23 [τ1] (1000 * n + 300000 ≤ BIG ∧ [rg,ra,rb,rc].all posR = true) (MT.tup3 (NM (12 * n + 400) (sinL rg ra rb rc ((atF rg ra rb rc : Int) : Rat))) (NM (12 * n + 400) (if rgtF rg ra rb rc then [1,0] else sinL rg ra rb rc ((-atF rg ra rb rc : Int) : Rat))) (IT (atF rg ra rb rc))):=.o1 fun hok h1 hp=>w23.c1 hok (j1.h h1) hp
theorem w27 {n : Nat} {rg ra rb rc : FR} : Con Tryz.prog 27 [QUD n rg ra rb rc] (1000 * n + 300000 ≤ BIG) (IT (if rgtF rg ra rb rc then 0 else (midF rg ra rb rc).num.sign)):=.o1 fun hok h1 hp=>by
  refine St.enter (N:=17) Tryz.func27 rfl rfl rfl hok (enter1 h1) fun a=>?_
  have hn1:=qud_pos h1
  repeat' (first|((with_reducible refine gS_ ?_);first|((with_reducible refine gL_ ?_);first|refine W.run ?_ fun a w G=>?_|refine W.mv fun a w G=>?_|refine W.asg fun a w G=>?_|refine W.bx fun b a w G=>?_|(refine W.nn hK ?_;clear hK K)|refine W.nl ?_|refine W.al fun b a w G=>?_|refine W.st fun w=>?_|refine W.stp fun w=>?_|refine W.ste ?_ fun w=>?_)|((with_reducible refine gC_ ?_);first|refine W.reg fun K hK=>?_|refine W.reg1 ?_|refine W.sq fun K hK=>?_|refine W.ds ?_ (fun β a w G hu=>W.fin ?_ hu) mixedOrders (by kernel_rfl)|refine W.sk ?_|refine W.cd (fun hc=>?_) (fun hc=>?_)|refine W.cb (fun hc=>?_) (fun hc=>?_)|refine W.bl ?_|refine W.ex ?_|refine W.rt ?_)|((with_reducible refine W.kn hK ?_);clear hK K)|(with_reducible first|refine W.bn ?_|refine W.xt ?_|refine W.xb ?_|refine W.xo ?_|refine W.tr ?_|refine W.br ?_)|refine W.rt1 rfl ?_|refine W.rt2 rfl ?_ ?_|refine W.rt3 rfl ?_ ?_ ?_)|clear hK K|clear hu|exact True.intro|exact Nat.le_trans (by clear hp;omega) hp|exact Nat.le_trans (by clear hp;omega) hp.1|exact Nat.le_trans (by clear hp;omega) hp.2|(clear hp;omega)|apply And.intro|refine GI.i fun _=>?_|with_reducible rfl|decide|(simp only [List.length_cons,List.length_nil];omega))
  all_goals first
    | omega
    | (have:=sgn_cases (rg.val + ra.val - (rb.val + rc.val)).num;omega)
    | (rw [if_pos (by assumption)];done)
    | (rw [if_neg (by simp_all)];exact sgn_mid)
    | skip
instance {n : Nat} {rg ra rb rc : FR} {τ1 : MT} [j1 : NF τ1 (QUD n rg ra rb rc)] : Con Tryz.prog 27 [τ1] (1000 * n + 300000 ≤ BIG) (IT (if rgtF rg ra rb rc then 0 else (midF rg ra rb rc).num.sign)):=.o1 fun hok h1 hp=>w27.c1 hok (j1.h h1) hp
instance {i j : Int} : Con Tryz.prog 134 [IT i,IT j] (I64 i ∧ I64 j) (MT.tup2 (QC 64 (Rat.divInt i j)) (IT (if j = 0 then 8 else 0))):=.o2 fun hok h1 h2 hp=>by
  refine St.enter (N:=13) Tryz.func134 rfl rfl rfl hok (enter2 h1 h2) fun a=>?_
  repeat' (first|((with_reducible refine gS_ ?_);first|((with_reducible refine gL_ ?_);first|refine W.run ?_ fun a w G=>?_|refine W.mv fun a w G=>?_|refine W.asg fun a w G=>?_|refine W.bx fun b a w G=>?_|(refine W.nn hK ?_;clear hK K)|refine W.nl ?_|refine W.al fun b a w G=>?_|refine W.st fun w=>?_|refine W.stp fun w=>?_|refine W.ste ?_ fun w=>?_)|((with_reducible refine gC_ ?_);first|refine W.reg fun K hK=>?_|refine W.reg1 ?_|refine W.sq fun K hK=>?_|refine W.ds ?_ (fun β a w G hu=>W.fin ?_ hu) mixedOrders (by kernel_rfl)|refine W.sk ?_|refine W.cd (fun hc=>?_) (fun hc=>?_)|refine W.cb (fun hc=>?_) (fun hc=>?_)|refine W.bl ?_|refine W.ex ?_|refine W.rt ?_)|((with_reducible refine W.kn hK ?_);clear hK K)|(with_reducible first|refine W.bn ?_|refine W.xt ?_|refine W.xb ?_|refine W.xo ?_|refine W.tr ?_|refine W.br ?_)|refine W.rt1 rfl ?_|refine W.rt2 rfl ?_ ?_|refine W.rt3 rfl ?_ ?_ ?_)|clear hK K|clear hu|exact True.intro|exact Nat.le_trans (by clear hp;omega) hp|exact Nat.le_trans (by clear hp;omega) hp.1|exact Nat.le_trans (by clear hp;omega) hp.2|(clear hp;omega)|apply And.intro|refine GI.i fun _=>?_|with_reducible rfl|decide|(simp only [List.length_cons,List.length_nil];omega))
  all_goals first | exact hp.1.1 | exact hp.1.2 | exact hp.2.1 | exact hp.2.2
section
private theorem exv : (FR.of 16).val = 16 ∧ (FR.of 1).val = 1 ∧ (FR.of 9).val = 9:=⟨FR.of_val _,FR.of_val _,FR.of_val _⟩
theorem exx_full : fulC (FR.of 16) (FR.of 1) (FR.of 9) (FR.of 9) = 0:=by unfold fulC;rw [ex_chk,ex_full];rfl
theorem exx_mid : midF (FR.of 16) (FR.of 1) (FR.of 9) (FR.of 9) = 1:=by unfold midF;rw [exv.1,exv.2.1,exv.2.2];decide +kernel
theorem exx_at : atF (FR.of 16) (FR.of 1) (FR.of 9) (FR.of 9) = 1:=by unfold atF;rw [exx_mid];rfl
theorem exx_two : twoA (FR.of 16) (FR.of 1) (FR.of 9) (FR.of 9) = [[16]]:=by unfold twoA;rw [exx_full,exv.1,exv.2.1];decide +kernel
theorem exx_lea : leaL (FR.of 16) (FR.of 1) (FR.of 9) (FR.of 9) = [Rat.divInt 259 324,Rat.divInt (-1) 81]:=by
  unfold leaL sinL sinA sinB;rw [exx_full,exx_at,exv.1,exv.2.1,exv.2.2];decide +kernel
theorem exx_alsC {x : Rat} : alsC (FR.of 16) (FR.of 1) (FR.of 9) (FR.of 9) (FR.of x) = 0:=by unfold alsC;rw [ex_chk,FR.of_ok,exx_full];rfl
theorem exx_sg : sgL [[16]] (plusF [Rat.divInt 259 324,Rat.divInt (-1) 81] (minusF [Rat.divInt 3 4])) = 0:=by
  rw [sg_dif1 (by decide)];decide +kernel
theorem exx_als (x : Rat) : alsF (FR.of 16) (FR.of 1) (FR.of 9) (FR.of 9) (FR.of x) = decide (surdF (Rat.divInt 259 324 - x) (Rat.divInt (-1) 81 - 0) 16 ≥ 0):=by
  rw [(als_sg (by rw [ex_chk];decide) (by rw [FR.of_ok];rfl) (by rw [exx_full];decide)).1,exx_two,exx_lea,sg_dif0 (by decide),FR.of_val]
end
instance {i j : Int} : Con Tryz.prog 67 [IT i,IT j] (I64 i ∧ I64 j) (QC 64 (Rat.divInt i j)):=.o2 fun hok h1 h2 hp=>by
  refine St.enter (N:=14) Tryz.func67 rfl rfl rfl hok (enter2 h1 h2) fun a=>?_
  repeat' (first|((with_reducible refine gS_ ?_);first|((with_reducible refine gL_ ?_);first|refine W.run ?_ fun a w G=>?_|refine W.mv fun a w G=>?_|refine W.asg fun a w G=>?_|refine W.bx fun b a w G=>?_|(refine W.nn hK ?_;clear hK K)|refine W.nl ?_|refine W.al fun b a w G=>?_|refine W.st fun w=>?_|refine W.stp fun w=>?_|refine W.ste ?_ fun w=>?_)|((with_reducible refine gC_ ?_);first|refine W.reg fun K hK=>?_|refine W.reg1 ?_|refine W.sq fun K hK=>?_|refine W.ds ?_ (fun β a w G hu=>W.fin ?_ hu) mixedOrders (by kernel_rfl)|refine W.sk ?_|refine W.cd (fun hc=>?_) (fun hc=>?_)|refine W.cb (fun hc=>?_) (fun hc=>?_)|refine W.bl ?_|refine W.ex ?_|refine W.rt ?_)|((with_reducible refine W.kn hK ?_);clear hK K)|(with_reducible first|refine W.bn ?_|refine W.xt ?_|refine W.xb ?_|refine W.xo ?_|refine W.tr ?_|refine W.br ?_)|refine W.rt1 rfl ?_|refine W.rt2 rfl ?_ ?_|refine W.rt3 rfl ?_ ?_ ?_)|clear hK K|clear hu|exact True.intro|exact Nat.le_trans (by clear hp;omega) hp|exact Nat.le_trans (by clear hp;omega) hp.1|exact Nat.le_trans (by clear hp;omega) hp.2|(clear hp;omega)|apply And.intro|refine GI.i fun _=>?_|with_reducible rfl|decide|(simp only [List.length_cons,List.length_nil];omega))
  all_goals first | omega | exact hp.1.1 | exact hp.1.2 | exact hp.2.1 | exact hp.2.2 | skip
theorem w14 {rg ra rb rc : FR} : Con Tryz.prog 14 [PTS [(some 3,RX rg),(some 3,RX ra),(some 3,RX rb),(some 3,RX rc)]] (True) (BT (shortF [rg,ra,rb,rc])):=.o1 fun hok h1 hp=>by
  refine St.enter (N:=8) Tryz.func14 rfl rfl rfl hok (enter1 h1) fun a=>?_
  repeat' (first|((with_reducible refine gS_ ?_);first|((with_reducible refine gL_ ?_);first|refine W.run ?_ fun a w G=>?_|refine W.mv fun a w G=>?_|refine W.asg fun a w G=>?_|refine W.bx fun b a w G=>?_|(refine W.nn hK ?_;clear hK K)|refine W.nl ?_|refine W.al fun b a w G=>?_|refine W.st fun w=>?_|refine W.stp fun w=>?_|refine W.ste ?_ fun w=>?_)|((with_reducible refine gC_ ?_);first|refine W.reg fun K hK=>?_|refine W.reg1 ?_|refine W.sq fun K hK=>?_|refine W.ds ?_ (fun β a w G hu=>W.fin ?_ hu) mixedOrders (by kernel_rfl)|refine W.sk ?_|refine W.cd (fun hc=>?_) (fun hc=>?_)|refine W.cb (fun hc=>?_) (fun hc=>?_)|refine W.bl ?_|refine W.ex ?_|refine W.rt ?_)|((with_reducible refine W.kn hK ?_);clear hK K)|(with_reducible first|refine W.bn ?_|refine W.xt ?_|refine W.xb ?_|refine W.xo ?_|refine W.tr ?_|refine W.br ?_)|refine W.rt1 rfl ?_|refine W.rt2 rfl ?_ ?_|refine W.rt3 rfl ?_ ?_ ?_)|clear hK K|clear hu|exact True.intro|exact Nat.le_trans (by clear hp;omega) hp|exact Nat.le_trans (by clear hp;omega) hp.1|exact Nat.le_trans (by clear hp;omega) hp.2|(clear hp;omega)|apply And.intro|refine GI.i fun _=>?_|with_reducible rfl|decide|(simp only [List.length_cons,List.length_nil];omega))
  all_goals first | rfl | (simp only [LIM,List.length_cons,List.length_nil];omega) | skip
instance {rg ra rb rc : FR} {τ1 : MT} [j1 : NR τ1 (PTS [(some 3,RX rg),(some 3,RX ra),(some 3,RX rb),(some 3,RX rc)])] : Con Tryz.prog 14 [τ1] (True) (BT (shortF [rg,ra,rb,rc])):=.o1 fun hok h1 hp=>w14.c1 hok (j1.h h1) hp
instance  : Con Tryz.prog 13 [] (True) (BT true):=.o0 fun hok  hp=>by
  refine St.enter (N:=67) Tryz.func13 rfl rfl rfl hok enter0 fun a=>?_
  repeat' (first|((with_reducible refine gS_ ?_);first|((with_reducible refine gL_ ?_);first|refine W.run ?_ fun a w G=>?_|refine W.mv fun a w G=>?_|refine W.asg fun a w G=>?_|refine W.bx fun b a w G=>?_|(refine W.nn hK ?_;clear hK K)|refine W.nl ?_|refine W.al fun b a w G=>?_|refine W.st fun w=>?_|refine W.stp fun w=>?_|refine W.ste ?_ fun w=>?_)|((with_reducible refine gC_ ?_);first|refine W.reg fun K hK=>?_|refine W.reg1 ?_|refine W.sq fun K hK=>?_|refine W.ds ?_ (fun β a w G hu=>W.fin ?_ hu) mixedOrders (by kernel_rfl)|refine W.sk ?_|refine W.cd (fun hc=>?_) (fun hc=>?_)|refine W.cb (fun hc=>?_) (fun hc=>?_)|refine W.bl ?_|refine W.ex ?_|refine W.rt ?_)|((with_reducible refine W.kn hK ?_);clear hK K)|(with_reducible first|refine W.bn ?_|refine W.xt ?_|refine W.xb ?_|refine W.xo ?_|refine W.tr ?_|refine W.br ?_)|refine W.rt1 rfl ?_|refine W.rt2 rfl ?_ ?_|refine W.rt3 rfl ?_ ?_ ?_)|clear hK K|clear hu|exact True.intro|exact Nat.le_trans (by clear hp;omega) hp|exact Nat.le_trans (by clear hp;omega) hp.1|exact Nat.le_trans (by clear hp;omega) hp.2|(clear hp;omega)|apply And.intro|refine GI.i fun _=>?_|with_reducible rfl|decide|(simp only [List.length_cons,List.length_nil];omega))
  all_goals first
    | (exfalso;rw [exx_full,exx_at] at hc;simp at hc;done)
    | (rw [exx_two];first | exact tok1 (by decide) | exact pw1k | (rw [exx_lea];exact pw2 (Nat.le_refl 1)) | (show sB 1 _ _ ≤ BIG;rw [sB1];omega) | (show sB 1 _ _ ≤ BIG;rw [sB1];decide))
    | (rw [exx_alsC,exx_alsC,exx_two,exx_lea,exx_sg,exx_als,exx_als];decide +kernel)
    | skip
end Go.Proofs.YtdbdnabpaadigaaGreat
set_option linter.unusedVariables false
set_option linter.unusedSimpArgs false
set_option maxHeartbeats 4000000
set_option maxRecDepth 100000
set_option synthInstance.maxSize 100000
set_option synthInstance.maxHeartbeats 400000
namespace Go.Proofs.YtdbdnabpaadigaaGreat
open Go.RowKit (Below)
attribute [local irreducible] Go.Code.wp Go.wpList Go.bodyPost
theorem short2 {s1 s2 : Bool} (h : (s1 && s2) = true) : ((!true || !s1) || !s2) = false:=by cases s1 <;> cases s2 <;> simp_all
theorem long2_0 {s1 s2 : Bool} (h : (s1 && s2) = false) : ((!true || !s1) || !s2) = true:=by cases s1 <;> cases s2 <;> simp_all
theorem gi2_0 {s1 s2 : Bool} (h : (s1 && s2) = false) (g : ((!true || !s1) || !s2) = false) : False:=by cases s1 <;> cases s2 <;> simp_all
theorem long2_1 {s1 s2 A1 : Bool} (h : (s1 && s2) = false) : (((!true || !s1) || !s2) || A1) = true:=by cases s1 <;> cases s2 <;> simp_all
attribute [local irreducible] plusF minusF joinF levI lev PW RLN tB sB timesF stepF tmF normF shoF TOK sgL surdsF surdF chkF gapC fullF nearF farF limL limJ sinA sinB sinC fulC leaL mosL alsC alsF rigF rgtF atF twoA sinL shortF
instance NR.lx9 {τs : List MT} {xs : List FR} [h : AsTL τs RX xs] : NR (LSC (some 3) τs) (LS (some 3) (xs.map RX)):=⟨fun hv=>h.ls hv.1⟩
instance AsT.fxr9 {n : Nat} {r : FR} : AsT (FX n r) RX r:=⟨fun h=>FX.toRX h⟩
instance AsT.qxr9 {n : Nat} {x : Rat} : AsT (QC n x) RX (FR.of x):=⟨fun h=>NR.h h⟩
instance {rg ra rb rc : FR} : Con Tryz.prog 48 [PTS [(some 3,RX rg),(some 3,RX ra),(some 3,RX rb),(some 3,RX rc)]] (shortF [rg,ra,rb,rc] = true) (.ex (errV 69 (chkF [rg,ra,rb,rc]))):=.o1 fun hok h1 hp=>by
  have hq:=hp
  (try simp only [shortF,List.all_cons,List.all_nil,Bool.and_true,Bool.and_eq_true] at hq)
  exact (inferInstance : Con Tryz.prog 48 [QUD 64 rg ra rb rc] _ (.ex (errV 69 (chkF [rg,ra,rb,rc])))).c1 hok (NS.h (τ':=QUD 64 rg ra rb rc) (by (try simp only [and_true,true_and]);grind) h1) (by decide)
theorem abs_c4 (x : Rat) : (!decide (cmpQ (absQ x) 1 ≤ 0)) = (decide (cmpQ x 1 > 0) || decide (cmpQ x (-1) < 0)):=by
  rw [Bool.eq_iff_iff,Bool.not_eq_true',decide_eq_false_iff_not,Bool.or_eq_true,decide_eq_true_eq,decide_eq_true_eq,cmpQ_le,cmpQ_gt0,cmpQ_lt0]
  unfold absQ
  split <;> constructor <;> grind
section
variable {g a b c k : FR}
theorem sin_1 (h : chkF [g,a,b,c] ≠ 0) : sinC g a b c k = chkF [g,a,b,c]:=by rw [sin_e1 (by rwa [gapC_0 h]),gapC_0 h]
theorem sin_2 (h : chkF [g,a,b,c] = 0) (h2 : (!k.ok) = true) : sinC g a b c k = 2:=by
  have e:=gapC_2 (g:=g) (a:=a) (b:=b) (c:=c) (k:=k) (by omega) h2
  rw [sin_e1 (by rw [e];decide),e]
theorem sin_3 (h : chkF [g,a,b,c] = 0) (h2 : (!k.ok) = false) (h3 : (!decide (cmpQ (absQ k.val) 1 ≤ 0)) = true) : sinC g a b c k = 3:=by
  have e:=gapC_3 (g:=g) (a:=a) (b:=b) (c:=c) (k:=k) (by omega) h2 (by rwa [abs_c4] at h3)
  rw [sin_e1 (by rw [e];decide),e]
theorem gap_n (h : chkF [g,a,b,c] = 0) (h2 : (!k.ok) = false) (h3 : (!decide (cmpQ (absQ k.val) 1 ≤ 0)) = false) : gapC g a b c k = 0:=gapC_n (by omega) h2 (by rwa [abs_c4] at h3)
theorem sin_4 (h : chkF [g,a,b,c] = 0) (h2 : (!k.ok) = false) (h3 : (!decide (cmpQ (absQ k.val) 1 ≤ 0)) = false) (h4 : (decide (nearF g a b c k.val < 0) || decide (farF g a b c k.val < 0)) = true) : sinC g a b c k = 16:=by
  have e:=gap_n h h2 h3
  exact sin_e2 (by omega) (by rw [if_pos e,if_pos e];exact h4)
theorem sin_5 (h : chkF [g,a,b,c] = 0) (h2 : (!k.ok) = false) (h3 : (!decide (cmpQ (absQ k.val) 1 ≤ 0)) = false) (h4 : (decide (nearF g a b c k.val < 0) || decide (farF g a b c k.val < 0)) = false) : sinC g a b c k = 0:=by
  have e:=gap_n h h2 h3
  exact sin_e3 (by omega) (by rw [if_pos e,if_pos e];exact h4)
end
theorem shl6 {s t : Bool} (h : (s && t) = true) : s = true ∧ t = true:=by simpa using h
section
variable {g a b c k : FR}
theorem sin_16 (h : gapC g a b c k = 0) (h2 : nearF g a b c k.val < 0 ∨ farF g a b c k.val < 0) : sinC g a b c k = 16:=by unfold sinC;rw [if_pos h,if_pos h2]
theorem sin_0 (h : gapC g a b c k = 0) (h2 : ¬ (nearF g a b c k.val < 0 ∨ farF g a b c k.val < 0)) : sinC g a b c k = 0:=by unfold sinC;rw [if_pos h,if_neg h2]
theorem unit_1 (h : chkF [g,a,b,c] = 0) {x : Rat} : sgL [[a.val * g.val]] (sinL g a b c x) = nearF g a b c x * farF g a b c x:=by
  unfold sinL;rw [sg1 (Rat.le_of_lt (ag_posX (chk_pos h)))];exact sin_far (chk_pos h) x
theorem unit_2 (h : chkF [g,a,b,c] = 0) {x : Rat} : sgL [[a.val * g.val]] (plusF (sinL g a b c x) (minusF [1])) ≤ 0:=by
  unfold sinL;rw [sg_dif1 (Rat.le_of_lt (ag_posX (chk_pos h)))];exact sin_le1 (chk_pos h) x
end
theorem sg_mul2 {p q : Int} (h : 0 ≤ p) (h2 : 0 ≤ q) : 0 ≤ p * q ∧ (p * q = 0 ↔ p = 0 ∨ q = 0):=⟨Int.mul_nonneg h h2,Int.mul_eq_zero⟩
section
variable {g a b c k m : FR}
theorem full_nf (h : chkF [g,a,b,c] = 0) (hf : fullF g a b c = true) {x : Rat} (h1 : -1 ≤ x) (h2 : x ≤ 1) : 0 ≤ nearF g a b c x ∧ 0 ≤ farF g a b c x:=by
  rw [full_ok (by omega),Bool.and_eq_true,decide_eq_true_eq,decide_eq_true_eq] at hf
  have:=near_anti (chk_pos h) h2;have:=far_mono (chk_pos h) h1
  omega
theorem gap_rn (h : gapC g a b c k = 0) : -1 ≤ k.val ∧ k.val ≤ 1:=by
  unfold gapC at h
  split at h
  · split at h
    · split at h
      · cases h
      · grind
    · cases h
  · contradiction
theorem gap_at (h : chkF [g,a,b,c] = 0) : gapC g a b c (FR.of ((atF g a b c : Int) : Rat)) = 0:=by
  unfold gapC
  rw [if_pos h,FR.of_ok,if_pos rfl,FR.of_val]
  rcases at_cases (g:=g) (a:=a) (b:=b) (c:=c) with ⟨e,_⟩ | ⟨e,_⟩ <;> rw [e] <;> decide +kernel
theorem sin_f (h : chkF [g,a,b,c] = 0) (hf : fullF g a b c = true) (hg : gapC g a b c k = 0) : sinC g a b c k = 0:=by
  have:=full_nf h hf (gap_rn hg).1 (gap_rn hg).2
  exact sin_0 hg (by omega)
theorem gap_23 (h : chkF [g,a,b,c] = 0) (hg : gapC g a b c k ≠ 0) : gapC g a b c k = 2 ∨ gapC g a b c k = 3:=by
  unfold gapC at *
  rw [if_pos h] at *
  split
  · split
    · exact .inr rfl
    · rename_i h1 h2;rw [if_pos h1,if_neg h2] at hg;exact absurd rfl hg
  · exact .inl rfl
theorem bet_at (h : chkF [g,a,b,c] = 0) {x : Rat} : sgL [[a.val * g.val]] (plusF (sinL g a b c x) (minusF (sinL g a b c x))) = 0:=by
  unfold sinL
  rw [sg_dif (Rat.le_of_lt (ag_posX (chk_pos h))),sin_cmp (chk_pos h)]
  generalize qR g a b c x * qR g a b c x = Z
  rw [show Z - Z = (0 : RR) by obtain ⟨f,hf,rfl⟩:=RR.rep Z;exact RR.ext fun n=>by grind]
  exact sgR_of 0
theorem le_sg {x y : RR} (h : 0 ≤ y - x) : sgR (x - y) ≤ 0:=by
  have e : x - y = -(y - x):=by obtain ⟨f,hf,rfl⟩:=RR.rep x;obtain ⟨f2,hf2,rfl⟩:=RR.rep y;exact RR.ext fun n=>by grind
  rw [e,sgR_negate]
  have:=sgR_nn.2 h
  omega
theorem bet_le (h : chkF [g,a,b,c] = 0) {x : Rat} (h1 : -1 ≤ x) (h2 : x ≤ 1) : sgL [[a.val * g.val]] (plusF (sinL g a b c ((atF g a b c : Int) : Rat)) (minusF (sinL g a b c x))) ≤ 0:=by
  unfold sinL
  rw [sg_dif (Rat.le_of_lt (ag_posX (chk_pos h))),sin_cmp (chk_pos h)]
  exact le_sg (q_at h1 h2)
theorem bet_mo (h : chkF [g,a,b,c] = 0) (hu : fulC g a b c = 0) {x : Rat} (h1 : -1 ≤ x) (h2 : x ≤ 1) : sgL [[a.val * g.val]] (plusF (sinL g a b c x) (minusF (mosL g a b c))) ≤ 0:=by
  rw [(twoA_1 (by omega)).2.2]
  by_cases hr : rgtF g a b c = true
  · rw [if_pos hr];unfold sinL
    rw [sg_dif (Rat.le_of_lt (ag_posX (chk_pos h)))]
    exact sin_le1 (chk_pos h) x
  · rw [if_neg hr];unfold sinL
    rw [sg_dif (Rat.le_of_lt (ag_posX (chk_pos h))),sin_cmp (chk_pos h)]
    exact le_sg (q_most (chk_pos h) (by simpa using hr) h1 h2)
theorem pw_mos (hu : fulC g a b c = 0) : PW 1 (mosL g a b c):=by
  rw [(twoA_1 (by omega)).2.2]
  split
  · exact pw2 (Nat.le_refl 1)
  · unfold sinL;exact pw2 (Nat.le_refl 1)
theorem als_t (h : alsF g a b c m = true) : alsC g a b c m = 0 ∧ chkF [g,a,b,c] = 0 ∧ m.ok = true ∧ fulC g a b c = 0 ∧ fullF g a b c = true:=by
  have e : alsC g a b c m = 0:=Classical.byContradiction fun e=>by rw [alsF_0 e] at h;cases h
  refine ⟨e,?_⟩
  unfold alsC at e
  split at e
  · split at e
    · exact ⟨by assumption,by assumption,e,(ful_chk e).2⟩
    · cases e
  · contradiction
theorem lea_k (h : alsF g a b c m = true) {x : Rat} (h1 : -1 ≤ x) (h2 : x ≤ 1) : 0 ≤ sgL [[a.val * g.val]] (plusF (sinL g a b c x) (minusF [m.val])):=by
  obtain ⟨_,e1,e2,e3,_⟩:=als_t h
  have hp:=chk_pos e1
  have hag:=Rat.le_of_lt (ag_posX hp)
  rw [(als_sg (by omega) (by rw [e2];rfl) (by omega)).1,decide_eq_true_eq,(twoA_1 (by omega)).1,(twoA_1 (by omega)).2.1] at h
  unfold sinL at *
  rw [sg_dif0 hag,sin_diff hp (m:=0),sgR_nn] at h
  rw [sg_dif1 hag,sin_diff hp (m:=0),← ge_iff_le,sgR_nn]
  have hq:=q_at (g:=g) (a:=a) (b:=b) (c:=c) h1 h2
  have e : RR.of (4 * (b.val * c.val)) - qR g a b c x * qR g a b c x - RR.of (4 * (b.val * c.val)) * (RR.of m.val + RR.of 0 * rt (a.val * g.val)) = (qR g a b c ((atF g a b c : Int) : Rat) * qR g a b c ((atF g a b c : Int) : Rat) - qR g a b c x * qR g a b c x) + (RR.of (4 * (b.val * c.val)) - qR g a b c ((atF g a b c : Int) : Rat) * qR g a b c ((atF g a b c : Int) : Rat) - RR.of (4 * (b.val * c.val)) * (RR.of m.val + RR.of 0 * rt (a.val * g.val))):=by
    generalize qR g a b c ((atF g a b c : Int) : Rat) * qR g a b c ((atF g a b c : Int) : Rat) = Z1
    generalize qR g a b c x * qR g a b c x = Z2
    generalize RR.of (4 * (b.val * c.val)) * (RR.of m.val + RR.of 0 * rt (a.val * g.val)) = Z3
    generalize RR.of (4 * (b.val * c.val)) = Z4
    obtain ⟨f1,hf1,rfl⟩:=RR.rep Z1;obtain ⟨f2,hf2,rfl⟩:=RR.rep Z2;obtain ⟨f3,hf3,rfl⟩:=RR.rep Z3;obtain ⟨f4,hf4,rfl⟩:=RR.rep Z4
    exact RR.ext fun n=>by grind
  rw [e]
  exact RR.add_nn hq h
end
end Go.Proofs.YtdbdnabpaadigaaGreat
