import Derived.Test.YtdbdnabpaadigaaGreatQh
set_option linter.unusedVariables false
set_option linter.unusedSimpArgs false
set_option linter.unusedVariables false
set_option linter.unusedSimpArgs false
set_option maxHeartbeats 4000000
set_option maxRecDepth 100000
set_option synthInstance.maxSize 100000
set_option synthInstance.maxHeartbeats 400000
namespace Go.Proofs.YtdbdnabpaadigaaGreat
open Go.RowKit (Below)
attribute [local irreducible] Go.Code.wp Go.wpList Go.bodyPost
private theorem gS_ {W0 : World} {G0 : Gh} {N : Nat} {L : List (Nat × MT)} {B : List BX} {a : Act} {w : World} {G : Gh} {q : Prop} (h : St W0 G0 N L B a w G → q) : St W0 G0 N L B a w G → q:=h
private theorem gL_ {p : Prop} {P : Program} {arr : Array Oper} {Q : Exit → Act → World → Prop} {l : List Oper} {a : Act} {w : World} (h : p → wpList P arr Q l a w) : p → wpList P arr Q l a w:=h
private theorem gC_ {p : Prop} {P : Program} {c : Code} {Q : Exit → Act → World → Prop} {a : Act} {w : World} (h : p → c.wp P Q a w) : p → c.wp P Q a w:=h
private theorem mixedOrders : Tryz.prog.follows .mixedOrders = true:=by kernel_rfl
theorem zv0 : (default : FR).val = 0:=rfl
abbrev TRN (n : Nat) (t : FR) (h : Bool) : MT:=PTS [(some 3,FX n t),(none,BT h)]
abbrev PLQ (n : Nat) (x y : Rat) : MT:=PTS [(some 3,QC n x),(some 3,QC n y)]
theorem w198 {n m : Nat} {x y : Rat} : Con Tryz.prog 198 [QV n x,QV m y] (y ≠ 0 ∧ n + m ≤ BIG) (QC (n + m) (x / y)):=.o2 fun hok h1 h2 hp=>by
  refine St.enter (N:=17) Tryz.func198 rfl rfl rfl hok (enter2 h1 h2) fun a=>?_
  repeat' (first|((with_reducible refine gS_ ?_);first|((with_reducible refine gL_ ?_);first|refine W.run ?_ fun a w G=>?_|refine W.mv fun a w G=>?_|refine W.asg fun a w G=>?_|refine W.bx fun b a w G=>?_|(refine W.nn hK ?_;clear hK K)|refine W.nl ?_|refine W.al fun b a w G=>?_|refine W.st fun w=>?_|refine W.stp fun w=>?_|refine W.ste ?_ fun w=>?_)|((with_reducible refine gC_ ?_);first|refine W.reg fun K hK=>?_|refine W.reg1 ?_|refine W.sq fun K hK=>?_|refine W.ds ?_ (fun β a w G hu=>W.fin ?_ hu) mixedOrders (by kernel_rfl)|refine W.sk ?_|refine W.cd (fun hc=>?_) (fun hc=>?_)|refine W.cb (fun hc=>?_) (fun hc=>?_)|refine W.bl ?_|refine W.ex ?_|refine W.rt ?_)|((with_reducible refine W.kn hK ?_);clear hK K)|(with_reducible first|refine W.bn ?_|refine W.xt ?_|refine W.xb ?_|refine W.xo ?_|refine W.tr ?_|refine W.br ?_)|refine W.rt1 rfl ?_|refine W.rt2 rfl ?_ ?_|refine W.rt3 rfl ?_ ?_ ?_)|clear hK K|clear hu|exact True.intro|exact Nat.le_trans (by clear hp;omega) hp|exact Nat.le_trans (by clear hp;omega) hp.1|exact Nat.le_trans (by clear hp;omega) hp.2|(clear hp;omega)|apply And.intro|refine GI.i fun _=>?_|with_reducible rfl|decide|(simp only [List.length_cons,List.length_nil];omega))
  all_goals (first | exact hp.1 | exact hp.2 | (exfalso;simp_all))
instance iK2_93 {n m : Nat} {x y : Rat} {τ1 : MT} [j1 : NQ τ1 (QV n x)] {τ2 : MT} [j2 : NQ τ2 (QV m y)] : Con Tryz.prog 198 [τ1,τ2] (y ≠ 0 ∧ n + m ≤ BIG) (QC (n + m) (x / y)):=.o2 fun hok h1 h2 hp=>w198.c2 hok (j1.h h1) (j2.h h2) hp
theorem w126 {m : Nat} {t : FR} {h : Bool} : Con Tryz.prog 126 [TRN m t h] (10000 * m + 100000 ≤ BIG) (.ex (errV 69 (trnC h t))):=.o1 fun hok h1 hp=>by
  refine St.enter (N:=18) Tryz.func126 rfl rfl rfl hok (enter1 h1) fun a=>?_
  repeat' (first|((with_reducible refine gS_ ?_);first|((with_reducible refine gL_ ?_);first|refine W.run ?_ fun a w G=>?_|refine W.mv fun a w G=>?_|refine W.asg fun a w G=>?_|refine W.bx fun b a w G=>?_|(refine W.nn hK ?_;clear hK K)|refine W.nl ?_|refine W.al fun b a w G=>?_|refine W.st fun w=>?_|refine W.stp fun w=>?_|refine W.ste ?_ fun w=>?_)|((with_reducible refine gC_ ?_);first|refine W.reg fun K hK=>?_|refine W.reg1 ?_|refine W.sq fun K hK=>?_|refine W.ds ?_ (fun β a w G hu=>W.fin ?_ hu) mixedOrders (by kernel_rfl)|refine W.sk ?_|refine W.cd (fun hc=>?_) (fun hc=>?_)|refine W.cb (fun hc=>?_) (fun hc=>?_)|refine W.bl ?_|refine W.ex ?_|refine W.rt ?_)|((with_reducible refine W.kn hK ?_);clear hK K)|(with_reducible first|refine W.bn ?_|refine W.xt ?_|refine W.xb ?_|refine W.xo ?_|refine W.tr ?_|refine W.br ?_)|refine W.rt1 rfl ?_|refine W.rt2 rfl ?_ ?_|refine W.rt3 rfl ?_ ?_ ?_)|clear hK K|clear hu|exact True.intro|exact Nat.le_trans (by clear hp;omega) hp|exact Nat.le_trans (by clear hp;omega) hp.1|exact Nat.le_trans (by clear hp;omega) hp.2|(clear hp;omega)|apply And.intro|refine GI.i fun _=>?_|with_reducible rfl|decide|(simp only [List.length_cons,List.length_nil];omega))
  all_goals (unfold trnC trnF;grind)
instance iK2_94 {m : Nat} {t : FR} {h : Bool} {τ1 : MT} [j1 : NF τ1 (TRN m t h)] : Con Tryz.prog 126 [τ1] (10000 * m + 100000 ≤ BIG) (.ex (errV 69 (trnC h t))):=.o1 fun hok h1 hp=>w126.c1 hok (j1.h h1) hp
theorem w179 {m : Nat} {t : FR} {h : Bool} : Con Tryz.prog 179 [TRN m t h] (10000 * m + 100000 ≤ BIG) (MT.tup2 (QC (4 * m + 130) (dirC h t.val)) (QC (4 * m + 130) (dirS h t.val))):=.o1 fun hok h1 hp=>by
  refine St.enter (N:=32) Tryz.func179 rfl rfl rfl hok (enter1 h1) fun a=>?_
  repeat' (first|((with_reducible refine gS_ ?_);first|((with_reducible refine gL_ ?_);first|refine W.run ?_ fun a w G=>?_|refine W.mv fun a w G=>?_|refine W.asg fun a w G=>?_|refine W.bx fun b a w G=>?_|(refine W.nn hK ?_;clear hK K)|refine W.nl ?_|refine W.al fun b a w G=>?_|refine W.st fun w=>?_|refine W.stp fun w=>?_|refine W.ste ?_ fun w=>?_)|((with_reducible refine gC_ ?_);first|refine W.reg fun K hK=>?_|refine W.reg1 ?_|refine W.sq fun K hK=>?_|refine W.ds ?_ (fun β a w G hu=>W.fin ?_ hu) mixedOrders (by kernel_rfl)|refine W.sk ?_|refine W.cd (fun hc=>?_) (fun hc=>?_)|refine W.cb (fun hc=>?_) (fun hc=>?_)|refine W.bl ?_|refine W.ex ?_|refine W.rt ?_)|((with_reducible refine W.kn hK ?_);clear hK K)|(with_reducible first|refine W.bn ?_|refine W.xt ?_|refine W.xb ?_|refine W.xo ?_|refine W.tr ?_|refine W.br ?_)|refine W.rt1 rfl ?_|refine W.rt2 rfl ?_ ?_|refine W.rt3 rfl ?_ ?_ ?_)|clear hK K|clear hu|exact True.intro|exact Nat.le_trans (by clear hp;omega) hp|exact Nat.le_trans (by clear hp;omega) hp.1|exact Nat.le_trans (by clear hp;omega) hp.2|(clear hp;omega)|apply And.intro|refine GI.i fun _=>?_|with_reducible rfl|decide|(simp only [List.length_cons,List.length_nil];omega))
  all_goals first | exact one_sq _ | simp_all [dirC,dirS,zv0]
instance iK2_95 {m : Nat} {t : FR} {h : Bool} {τ1 : MT} [j1 : NF τ1 (TRN m t h)] : Con Tryz.prog 179 [τ1] (10000 * m + 100000 ≤ BIG) (MT.tup2 (QC (4 * m + 130) (dirC h t.val)) (QC (4 * m + 130) (dirS h t.val))):=.o1 fun hok h1 hp=>w179.c1 hok (j1.h h1) hp
theorem w128 {m : Nat} {t : FR} {h : Bool} : Con Tryz.prog 128 [TRN m t h] (10000 * m + 100000 ≤ BIG ∧ trnF h t = true) (MT.tup2 (QC (4 * m + 130) (dirC h t.val)) (.ex (errV 69 (0)))):=.o1 fun hok h1 hp=>by
  refine St.enter (N:=19) Tryz.func128 rfl rfl rfl hok (enter1 h1) fun a=>?_
  have ht:=trn_0 hp.2
  repeat' (first|((with_reducible refine gS_ ?_);first|((with_reducible refine gL_ ?_);first|refine W.run ?_ fun a w G=>?_|refine W.mv fun a w G=>?_|refine W.asg fun a w G=>?_|refine W.bx fun b a w G=>?_|(refine W.nn hK ?_;clear hK K)|refine W.nl ?_|refine W.al fun b a w G=>?_|refine W.st fun w=>?_|refine W.stp fun w=>?_|refine W.ste ?_ fun w=>?_)|((with_reducible refine gC_ ?_);first|refine W.reg fun K hK=>?_|refine W.reg1 ?_|refine W.sq fun K hK=>?_|refine W.ds ?_ (fun β a w G hu=>W.fin ?_ hu) mixedOrders (by kernel_rfl)|refine W.sk ?_|refine W.cd (fun hc=>?_) (fun hc=>?_)|refine W.cb (fun hc=>?_) (fun hc=>?_)|refine W.bl ?_|refine W.ex ?_|refine W.rt ?_)|((with_reducible refine W.kn hK ?_);clear hK K)|(with_reducible first|refine W.bn ?_|refine W.xt ?_|refine W.xb ?_|refine W.xo ?_|refine W.tr ?_|refine W.br ?_)|refine W.rt1 rfl ?_|refine W.rt2 rfl ?_ ?_|refine W.rt3 rfl ?_ ?_ ?_)|clear hK K|clear hu|exact True.intro|exact Nat.le_trans (by clear hp;omega) hp|exact Nat.le_trans (by clear hp;omega) hp.1|exact Nat.le_trans (by clear hp;omega) hp.2|(clear hp;omega)|apply And.intro|refine GI.i fun _=>?_|with_reducible rfl|decide|(simp only [List.length_cons,List.length_nil];omega))
  all_goals first | exact hp.2 | (exfalso;omega) | assumption
instance iK2_96 {m : Nat} {t : FR} {h : Bool} {τ1 : MT} [j1 : NF τ1 (TRN m t h)] : Con Tryz.prog 128 [τ1] (10000 * m + 100000 ≤ BIG ∧ trnF h t = true) (MT.tup2 (QC (4 * m + 130) (dirC h t.val)) (.ex (errV 69 (0)))):=.o1 fun hok h1 hp=>w128.c1 hok (j1.h h1) hp
theorem w129 {m : Nat} {t : FR} {h : Bool} : Con Tryz.prog 129 [TRN m t h] (10000 * m + 100000 ≤ BIG ∧ trnF h t = true) (MT.tup2 (QC (4 * m + 130) (dirS h t.val)) (.ex (errV 69 (0)))):=.o1 fun hok h1 hp=>by
  refine St.enter (N:=19) Tryz.func129 rfl rfl rfl hok (enter1 h1) fun a=>?_
  have ht:=trn_0 hp.2
  repeat' (first|((with_reducible refine gS_ ?_);first|((with_reducible refine gL_ ?_);first|refine W.run ?_ fun a w G=>?_|refine W.mv fun a w G=>?_|refine W.asg fun a w G=>?_|refine W.bx fun b a w G=>?_|(refine W.nn hK ?_;clear hK K)|refine W.nl ?_|refine W.al fun b a w G=>?_|refine W.st fun w=>?_|refine W.stp fun w=>?_|refine W.ste ?_ fun w=>?_)|((with_reducible refine gC_ ?_);first|refine W.reg fun K hK=>?_|refine W.reg1 ?_|refine W.sq fun K hK=>?_|refine W.ds ?_ (fun β a w G hu=>W.fin ?_ hu) mixedOrders (by kernel_rfl)|refine W.sk ?_|refine W.cd (fun hc=>?_) (fun hc=>?_)|refine W.cb (fun hc=>?_) (fun hc=>?_)|refine W.bl ?_|refine W.ex ?_|refine W.rt ?_)|((with_reducible refine W.kn hK ?_);clear hK K)|(with_reducible first|refine W.bn ?_|refine W.xt ?_|refine W.xb ?_|refine W.xo ?_|refine W.tr ?_|refine W.br ?_)|refine W.rt1 rfl ?_|refine W.rt2 rfl ?_ ?_|refine W.rt3 rfl ?_ ?_ ?_)|clear hK K|clear hu|exact True.intro|exact Nat.le_trans (by clear hp;omega) hp|exact Nat.le_trans (by clear hp;omega) hp.1|exact Nat.le_trans (by clear hp;omega) hp.2|(clear hp;omega)|apply And.intro|refine GI.i fun _=>?_|with_reducible rfl|decide|(simp only [List.length_cons,List.length_nil];omega))
  all_goals first | exact hp.2 | (exfalso;omega) | assumption
instance iK2_97 {m : Nat} {t : FR} {h : Bool} {τ1 : MT} [j1 : NF τ1 (TRN m t h)] : Con Tryz.prog 129 [τ1] (10000 * m + 100000 ≤ BIG ∧ trnF h t = true) (MT.tup2 (QC (4 * m + 130) (dirS h t.val)) (.ex (errV 69 (0)))):=.o1 fun hok h1 hp=>w129.c1 hok (j1.h h1) hp
theorem w62 {m : Nat} {t : FR} {h : Bool} : Con Tryz.prog 62 [TRN m t h] (10000 * m + 100000 ≤ BIG ∧ trnF h t = true) (MT.tup3 (QC (4 * m + 130) (dirC h t.val)) (QC (4 * m + 130) (dirS h t.val)) (.ex (errV 69 (0)))):=.o1 fun hok h1 hp=>by
  refine St.enter (N:=29) Tryz.func62 rfl rfl rfl hok (enter1 h1) fun a=>?_
  have ht:=trn_0 hp.2
  repeat' (first|((with_reducible refine gS_ ?_);first|((with_reducible refine gL_ ?_);first|refine W.run ?_ fun a w G=>?_|refine W.mv fun a w G=>?_|refine W.asg fun a w G=>?_|refine W.bx fun b a w G=>?_|(refine W.nn hK ?_;clear hK K)|refine W.nl ?_|refine W.al fun b a w G=>?_|refine W.st fun w=>?_|refine W.stp fun w=>?_|refine W.ste ?_ fun w=>?_)|((with_reducible refine gC_ ?_);first|refine W.reg fun K hK=>?_|refine W.reg1 ?_|refine W.sq fun K hK=>?_|refine W.ds ?_ (fun β a w G hu=>W.fin ?_ hu) mixedOrders (by kernel_rfl)|refine W.sk ?_|refine W.cd (fun hc=>?_) (fun hc=>?_)|refine W.cb (fun hc=>?_) (fun hc=>?_)|refine W.bl ?_|refine W.ex ?_|refine W.rt ?_)|((with_reducible refine W.kn hK ?_);clear hK K)|(with_reducible first|refine W.bn ?_|refine W.xt ?_|refine W.xb ?_|refine W.xo ?_|refine W.tr ?_|refine W.br ?_)|refine W.rt1 rfl ?_|refine W.rt2 rfl ?_ ?_|refine W.rt3 rfl ?_ ?_ ?_)|clear hK K|clear hu|exact True.intro|exact Nat.le_trans (by clear hp;omega) hp|exact Nat.le_trans (by clear hp;omega) hp.1|exact Nat.le_trans (by clear hp;omega) hp.2|(clear hp;omega)|apply And.intro|refine GI.i fun _=>?_|with_reducible rfl|decide|(simp only [List.length_cons,List.length_nil];omega))
  all_goals first | exact hp.2 | (exfalso;omega) | assumption
instance iK2_98 {m : Nat} {t : FR} {h : Bool} {τ1 : MT} [j1 : NF τ1 (TRN m t h)] : Con Tryz.prog 62 [τ1] (10000 * m + 100000 ≤ BIG ∧ trnF h t = true) (MT.tup3 (QC (4 * m + 130) (dirC h t.val)) (QC (4 * m + 130) (dirS h t.val)) (.ex (errV 69 (0)))):=.o1 fun hok h1 hp=>w62.c1 hok (j1.h h1) hp
theorem w61 {n : Nat} {rg ra rb rc : FR} : Con Tryz.prog 61 [QUD n rg ra rb rc] (10000 * n + 100000 ≤ BIG) (.ex (errV 69 (barC [rg,ra,rb,rc]))):=.o1 fun hok h1 hp=>by
  refine St.enter (N:=29) Tryz.func61 rfl rfl rfl hok (enter1 h1) fun a=>?_
  repeat' (first|((with_reducible refine gS_ ?_);first|((with_reducible refine gL_ ?_);first|refine W.run ?_ fun a w G=>?_|refine W.mv fun a w G=>?_|refine W.asg fun a w G=>?_|refine W.bx fun b a w G=>?_|(refine W.nn hK ?_;clear hK K)|refine W.nl ?_|refine W.al fun b a w G=>?_|refine W.st fun w=>?_|refine W.stp fun w=>?_|refine W.ste ?_ fun w=>?_)|((with_reducible refine gC_ ?_);first|refine W.reg fun K hK=>?_|refine W.reg1 ?_|refine W.sq fun K hK=>?_|refine W.ds ?_ (fun β a w G hu=>W.fin ?_ hu) mixedOrders (by kernel_rfl)|refine W.sk ?_|refine W.cd (fun hc=>?_) (fun hc=>?_)|refine W.cb (fun hc=>?_) (fun hc=>?_)|refine W.bl ?_|refine W.ex ?_|refine W.rt ?_)|((with_reducible refine W.kn hK ?_);clear hK K)|(with_reducible first|refine W.bn ?_|refine W.xt ?_|refine W.xb ?_|refine W.xo ?_|refine W.tr ?_|refine W.br ?_)|refine W.rt1 rfl ?_|refine W.rt2 rfl ?_ ?_|refine W.rt3 rfl ?_ ?_ ?_)|refine W.lp 16 (α:=Nat) (fun j=>4 - j) (fun j=>j ≤ 4 ∧ ([rg,ra,rb,rc].take j).all posR = true) [2,4,13,14,15,16,17,18,19,20,21,22,23,24,25,26,27,28] (fun j=>[(15,NT j),(14,NT 4),(13,LS (some 3) ([rg,ra,rb,rc].map (FX n)))]) (fun j=>[]) (0) ?_ ?_ ?_ fun j hj a w G=>?_|refine W.ag (x:=j) (j+1) ?_ ?_ ?_ ?_|clear hK K|clear hu|exact True.intro|exact Nat.le_trans (by clear hp;omega) hp|exact Nat.le_trans (by clear hp;omega) hp.1|exact Nat.le_trans (by clear hp;omega) hp.2|(clear hp;omega)|apply And.intro|refine GI.i fun _=>?_|with_reducible rfl|decide|(simp only [List.length_cons,List.length_nil];omega))
  all_goals first | rfl | exact (bar_3 (all_not (show j < 4 by omega) (posR_t hc))).symm | exact all_snoc (show j < 4 by omega) hj.2 (posR_f hc) | exact bar_0 (all_end (show ¬ j < 4 by omega) hj.2)
instance iK2_99 {n : Nat} {rg ra rb rc : FR} {τ1 : MT} [j1 : NF τ1 (QUD n rg ra rb rc)] : Con Tryz.prog 61 [τ1] (10000 * n + 100000 ≤ BIG) (.ex (errV 69 (barC [rg,ra,rb,rc]))):=.o1 fun hok h1 hp=>w61.c1 hok (j1.h h1) hp
end Go.Proofs.YtdbdnabpaadigaaGreat
set_option linter.unusedVariables false
set_option linter.unusedSimpArgs false
set_option maxHeartbeats 4000000
set_option maxRecDepth 100000
set_option synthInstance.maxSize 100000
set_option synthInstance.maxHeartbeats 400000
namespace Go.Proofs.YtdbdnabpaadigaaGreat
open Go.RowKit (Below)
attribute [local irreducible] Go.Code.wp Go.wpList Go.bodyPost
attribute [local irreducible] barC trnC btC
theorem w197 {n m : Nat} {rg ra rb rc t : FR} {h : Bool} : Con Tryz.prog 197 [QUD n rg ra rb rc,TRN m t h] (10000 * n + 10000 * m + 100000 ≤ BIG) (.ex (errV 69 (btC [rg,ra,rb,rc] h t))):=.o2 fun hok h1 h2 hp=>by
  refine St.enter (N:=15) Tryz.func197 rfl rfl rfl hok (enter2 h1 h2) fun a=>?_
  repeat' (first|((with_reducible refine gS_ ?_);first|((with_reducible refine gL_ ?_);first|refine W.run ?_ fun a w G=>?_|refine W.mv fun a w G=>?_|refine W.asg fun a w G=>?_|refine W.bx fun b a w G=>?_|(refine W.nn hK ?_;clear hK K)|refine W.nl ?_|refine W.al fun b a w G=>?_|refine W.st fun w=>?_|refine W.stp fun w=>?_|refine W.ste ?_ fun w=>?_)|((with_reducible refine gC_ ?_);first|refine W.reg fun K hK=>?_|refine W.reg1 ?_|refine W.sq fun K hK=>?_|refine W.ds ?_ (fun β a w G hu=>W.fin ?_ hu) mixedOrders (by kernel_rfl)|refine W.sk ?_|refine W.cd (fun hc=>?_) (fun hc=>?_)|refine W.cb (fun hc=>?_) (fun hc=>?_)|refine W.bl ?_|refine W.ex ?_|refine W.rt ?_)|((with_reducible refine W.kn hK ?_);clear hK K)|(with_reducible first|refine W.bn ?_|refine W.xt ?_|refine W.xb ?_|refine W.xo ?_|refine W.tr ?_|refine W.br ?_)|refine W.rt1 rfl ?_|refine W.rt2 rfl ?_ ?_|refine W.rt3 rfl ?_ ?_ ?_)|clear hK K|clear hu|exact True.intro|exact Nat.le_trans (by clear hp;omega) hp|exact Nat.le_trans (by clear hp;omega) hp.1|exact Nat.le_trans (by clear hp;omega) hp.2|(clear hp;omega)|apply And.intro|refine GI.i fun _=>?_|with_reducible rfl|decide|(simp only [List.length_cons,List.length_nil];omega))
  all_goals grind [btC,bar_two,trn_two]
instance iK3_100 {n m : Nat} {rg ra rb rc t : FR} {h : Bool} {τ1 : MT} [j1 : NF τ1 (QUD n rg ra rb rc)] {τ2 : MT} [j2 : NF τ2 (TRN m t h)] : Con Tryz.prog 197 [τ1,τ2] (10000 * n + 10000 * m + 100000 ≤ BIG) (.ex (errV 69 (btC [rg,ra,rb,rc] h t))):=.o2 fun hok h1 h2 hp=>w197.c2 hok (j1.h h1) (j2.h h2) hp
theorem w124 {n : Nat} {x : Rat} : Con Tryz.prog 124 [QV n x] (n + n ≤ BIG) (QC (n + n) (x * x)):=.o1 fun hok h1 hp=>by
  refine St.enter (N:=6) Tryz.func124 rfl rfl rfl hok (enter1 h1) fun a=>?_
  repeat' (first|((with_reducible refine gS_ ?_);first|((with_reducible refine gL_ ?_);first|refine W.run ?_ fun a w G=>?_|refine W.mv fun a w G=>?_|refine W.asg fun a w G=>?_|refine W.bx fun b a w G=>?_|(refine W.nn hK ?_;clear hK K)|refine W.nl ?_|refine W.al fun b a w G=>?_|refine W.st fun w=>?_|refine W.stp fun w=>?_|refine W.ste ?_ fun w=>?_)|((with_reducible refine gC_ ?_);first|refine W.reg fun K hK=>?_|refine W.reg1 ?_|refine W.sq fun K hK=>?_|refine W.ds ?_ (fun β a w G hu=>W.fin ?_ hu) mixedOrders (by kernel_rfl)|refine W.sk ?_|refine W.cd (fun hc=>?_) (fun hc=>?_)|refine W.cb (fun hc=>?_) (fun hc=>?_)|refine W.bl ?_|refine W.ex ?_|refine W.rt ?_)|((with_reducible refine W.kn hK ?_);clear hK K)|(with_reducible first|refine W.bn ?_|refine W.xt ?_|refine W.xb ?_|refine W.xo ?_|refine W.tr ?_|refine W.br ?_)|refine W.rt1 rfl ?_|refine W.rt2 rfl ?_ ?_|refine W.rt3 rfl ?_ ?_ ?_)|clear hK K|clear hu|exact True.intro|exact Nat.le_trans (by clear hp;omega) hp|exact Nat.le_trans (by clear hp;omega) hp.1|exact Nat.le_trans (by clear hp;omega) hp.2|(clear hp;omega)|apply And.intro|refine GI.i fun _=>?_|with_reducible rfl|decide|(simp only [List.length_cons,List.length_nil];omega))
instance iK3_101 {n : Nat} {x : Rat} {τ1 : MT} [j1 : NQ τ1 (QV n x)] : Con Tryz.prog 124 [τ1] (n + n ≤ BIG) (QC (n + n) (x * x)):=.o1 fun hok h1 hp=>w124.c1 hok (j1.h h1) hp
theorem w125 {n : Nat} {x : Rat} : Con Tryz.prog 125 [QV n x] (n + 2 ≤ BIG) (QC (n + 2) x):=.o1 fun hok h1 hp=>by
  refine St.enter (N:=6) Tryz.func125 rfl rfl rfl hok (enter1 h1) fun a=>?_
  repeat' (first|((with_reducible refine gS_ ?_);first|((with_reducible refine gL_ ?_);first|refine W.run ?_ fun a w G=>?_|refine W.mv fun a w G=>?_|refine W.asg fun a w G=>?_|refine W.bx fun b a w G=>?_|(refine W.nn hK ?_;clear hK K)|refine W.nl ?_|refine W.al fun b a w G=>?_|refine W.st fun w=>?_|refine W.stp fun w=>?_|refine W.ste ?_ fun w=>?_)|((with_reducible refine gC_ ?_);first|refine W.reg fun K hK=>?_|refine W.reg1 ?_|refine W.sq fun K hK=>?_|refine W.ds ?_ (fun β a w G hu=>W.fin ?_ hu) mixedOrders (by kernel_rfl)|refine W.sk ?_|refine W.cd (fun hc=>?_) (fun hc=>?_)|refine W.cb (fun hc=>?_) (fun hc=>?_)|refine W.bl ?_|refine W.ex ?_|refine W.rt ?_)|((with_reducible refine W.kn hK ?_);clear hK K)|(with_reducible first|refine W.bn ?_|refine W.xt ?_|refine W.xb ?_|refine W.xo ?_|refine W.tr ?_|refine W.br ?_)|refine W.rt1 rfl ?_|refine W.rt2 rfl ?_ ?_|refine W.rt3 rfl ?_ ?_ ?_)|clear hK K|clear hu|exact True.intro|exact Nat.le_trans (by clear hp;omega) hp|exact Nat.le_trans (by clear hp;omega) hp.1|exact Nat.le_trans (by clear hp;omega) hp.2|(clear hp;omega)|apply And.intro|refine GI.i fun _=>?_|with_reducible rfl|decide|(simp only [List.length_cons,List.length_nil];omega))
  all_goals grind [zv0]
instance iK3_102 {n : Nat} {x : Rat} {τ1 : MT} [j1 : NQ τ1 (QV n x)] : Con Tryz.prog 125 [τ1] (n + 2 ≤ BIG) (QC (n + 2) x):=.o1 fun hok h1 hp=>w125.c1 hok (j1.h h1) hp
theorem w58 {n : Nat} {rg ra rb rc : FR} : Con Tryz.prog 58 [QUD n rg ra rb rc] (10000 * n + 100000 ≤ BIG) (MT.tup2 (PTS [(some 3,FX (2 * n + 2) (quF [rg,ra,rb,rc] 0)),(some 3,FX (2 * n + 2) (quF [rg,ra,rb,rc] 1)),(some 3,FX (2 * n + 2) (quF [rg,ra,rb,rc] 2)),(some 3,FX (2 * n + 2) (quF [rg,ra,rb,rc] 3))]) (.ex (errV 69 (barC [rg,ra,rb,rc])))):=.o1 fun hok h1 hp=>by
  refine St.enter (N:=24) Tryz.func58 rfl rfl rfl hok (enter1 h1) fun a=>?_
  repeat' (first|((with_reducible refine gS_ ?_);first|((with_reducible refine gL_ ?_);first|refine W.run ?_ fun a w G=>?_|refine W.mv fun a w G=>?_|refine W.asg fun a w G=>?_|refine W.bx fun b a w G=>?_|(refine W.nn hK ?_;clear hK K)|refine W.nl ?_|refine W.al fun b a w G=>?_|refine W.st fun w=>?_|refine W.stp fun w=>?_|refine W.ste ?_ fun w=>?_)|((with_reducible refine gC_ ?_);first|refine W.reg fun K hK=>?_|refine W.reg1 ?_|refine W.sq fun K hK=>?_|refine W.ds ?_ (fun β a w G hu=>W.fin ?_ hu) mixedOrders (by kernel_rfl)|refine W.sk ?_|refine W.cd (fun hc=>?_) (fun hc=>?_)|refine W.cb (fun hc=>?_) (fun hc=>?_)|refine W.bl ?_|refine W.ex ?_|refine W.rt ?_)|((with_reducible refine W.kn hK ?_);clear hK K)|(with_reducible first|refine W.bn ?_|refine W.xt ?_|refine W.xb ?_|refine W.xo ?_|refine W.tr ?_|refine W.br ?_)|refine W.rt1 rfl ?_|refine W.rt2 rfl ?_ ?_|refine W.rt3 rfl ?_ ?_ ?_)|clear hK K|clear hu|exact True.intro|exact Nat.le_trans (by clear hp;omega) hp|exact Nat.le_trans (by clear hp;omega) hp.1|exact Nat.le_trans (by clear hp;omega) hp.2|(clear hp;omega)|apply And.intro|refine GI.i fun _=>?_|with_reducible rfl|decide|(simp only [List.length_cons,List.length_nil];omega))
  all_goals first | exact qu_bad hc | (unfold quF;rw [if_pos (by omega)];rfl)
instance iK3_103 {n : Nat} {rg ra rb rc : FR} {τ1 : MT} [j1 : NF τ1 (QUD n rg ra rb rc)] : Con Tryz.prog 58 [τ1] (10000 * n + 100000 ≤ BIG) (MT.tup2 (PTS [(some 3,FX (2 * n + 2) (quF [rg,ra,rb,rc] 0)),(some 3,FX (2 * n + 2) (quF [rg,ra,rb,rc] 1)),(some 3,FX (2 * n + 2) (quF [rg,ra,rb,rc] 2)),(some 3,FX (2 * n + 2) (quF [rg,ra,rb,rc] 3))]) (.ex (errV 69 (barC [rg,ra,rb,rc])))):=.o1 fun hok h1 hp=>w58.c1 hok (j1.h h1) hp
theorem w178 {n m : Nat} {rg ra rb rc t : FR} {h : Bool} : Con Tryz.prog 178 [QUD n rg ra rb rc,TRN m t h] (10000 * n + 10000 * m + 100000 ≤ BIG ∧ barC [rg,ra,rb,rc] = 0 ∧ trnF h t = true) (MT.tup2 (PLQ (n + 4 * m + 130) (ra.val * dirC h t.val) (ra.val * dirS h t.val)) (.ex (errV 69 (0)))):=.o2 fun hok h1 h2 hp=>by
  refine St.enter (N:=36) Tryz.func178 rfl rfl rfl hok (enter2 h1 h2) fun a=>?_
  have hb:=hp.2.1
  have ht:=trn_0 hp.2.2
  have hbt:=bt_0 hp.2.1 hp.2.2
  repeat' (first|((with_reducible refine gS_ ?_);first|((with_reducible refine gL_ ?_);first|refine W.run ?_ fun a w G=>?_|refine W.mv fun a w G=>?_|refine W.asg fun a w G=>?_|refine W.bx fun b a w G=>?_|(refine W.nn hK ?_;clear hK K)|refine W.nl ?_|refine W.al fun b a w G=>?_|refine W.st fun w=>?_|refine W.stp fun w=>?_|refine W.ste ?_ fun w=>?_)|((with_reducible refine gC_ ?_);first|refine W.reg fun K hK=>?_|refine W.reg1 ?_|refine W.sq fun K hK=>?_|refine W.ds ?_ (fun β a w G hu=>W.fin ?_ hu) mixedOrders (by kernel_rfl)|refine W.sk ?_|refine W.cd (fun hc=>?_) (fun hc=>?_)|refine W.cb (fun hc=>?_) (fun hc=>?_)|refine W.bl ?_|refine W.ex ?_|refine W.rt ?_)|((with_reducible refine W.kn hK ?_);clear hK K)|(with_reducible first|refine W.bn ?_|refine W.xt ?_|refine W.xb ?_|refine W.xo ?_|refine W.tr ?_|refine W.br ?_)|refine W.rt1 rfl ?_|refine W.rt2 rfl ?_ ?_|refine W.rt3 rfl ?_ ?_ ?_)|clear hK K|clear hu|exact True.intro|exact Nat.le_trans (by clear hp;omega) hp|exact Nat.le_trans (by clear hp;omega) hp.1|exact Nat.le_trans (by clear hp;omega) hp.2|(clear hp;omega)|apply And.intro|refine GI.i fun _=>?_|with_reducible rfl|decide|(simp only [List.length_cons,List.length_nil];omega))
  all_goals first | (exfalso;omega) | assumption | exact hp.2.2 | exact hp.2.1 | rfl
instance iK3_104 {n m : Nat} {rg ra rb rc t : FR} {h : Bool} {τ1 : MT} [j1 : NF τ1 (QUD n rg ra rb rc)] {τ2 : MT} [j2 : NF τ2 (TRN m t h)] : Con Tryz.prog 178 [τ1,τ2] (10000 * n + 10000 * m + 100000 ≤ BIG ∧ barC [rg,ra,rb,rc] = 0 ∧ trnF h t = true) (MT.tup2 (PLQ (n + 4 * m + 130) (ra.val * dirC h t.val) (ra.val * dirS h t.val)) (.ex (errV 69 (0)))):=.o2 fun hok h1 h2 hp=>w178.c2 hok (j1.h h1) (j2.h h2) hp
theorem w130 {n m : Nat} {rg ra rb rc t : FR} {h : Bool} : Con Tryz.prog 130 [QUD n rg ra rb rc,TRN m t h] (10000 * n + 10000 * m + 100000 ≤ BIG ∧ barC [rg,ra,rb,rc] = 0 ∧ trnF h t = true) (MT.tup2 (PTS [(some 6,PLQ (n + 4 * m + 130) (ra.val * dirC h t.val) (ra.val * dirS h t.val)),(some 6,PLQ (2 * n + 4 * m + 131) (wayX rg.val ra.val h t.val) (wayY ra.val h t.val)),(some 3,QC (8 * n + 16 * m + 525) (d2F (wayX rg.val ra.val h t.val) (wayY ra.val h t.val)))]) (.ex (errV 69 (0)))):=.o2 fun hok h1 h2 hp=>by
  refine St.enter (N:=38) Tryz.func130 rfl rfl rfl hok (enter2 h1 h2) fun a=>?_
  have hb:=hp.2.1
  have ht:=trn_0 hp.2.2
  have hbt:=bt_0 hp.2.1 hp.2.2
  repeat' (first|((with_reducible refine gS_ ?_);first|((with_reducible refine gL_ ?_);first|refine W.run ?_ fun a w G=>?_|refine W.mv fun a w G=>?_|refine W.asg fun a w G=>?_|refine W.bx fun b a w G=>?_|(refine W.nn hK ?_;clear hK K)|refine W.nl ?_|refine W.al fun b a w G=>?_|refine W.st fun w=>?_|refine W.stp fun w=>?_|refine W.ste ?_ fun w=>?_)|((with_reducible refine gC_ ?_);first|refine W.reg fun K hK=>?_|refine W.reg1 ?_|refine W.sq fun K hK=>?_|refine W.ds ?_ (fun β a w G hu=>W.fin ?_ hu) mixedOrders (by kernel_rfl)|refine W.sk ?_|refine W.cd (fun hc=>?_) (fun hc=>?_)|refine W.cb (fun hc=>?_) (fun hc=>?_)|refine W.bl ?_|refine W.ex ?_|refine W.rt ?_)|((with_reducible refine W.kn hK ?_);clear hK K)|(with_reducible first|refine W.bn ?_|refine W.xt ?_|refine W.xb ?_|refine W.xo ?_|refine W.tr ?_|refine W.br ?_)|refine W.rt1 rfl ?_|refine W.rt2 rfl ?_ ?_|refine W.rt3 rfl ?_ ?_ ?_)|clear hK K|clear hu|exact True.intro|exact Nat.le_trans (by clear hp;omega) hp|exact Nat.le_trans (by clear hp;omega) hp.1|exact Nat.le_trans (by clear hp;omega) hp.2|(clear hp;omega)|apply And.intro|refine GI.i fun _=>?_|with_reducible rfl|decide|(simp only [List.length_cons,List.length_nil];omega))
  all_goals first | (exfalso;omega) | assumption | exact hp.2.2 | exact hp.2.1 | rfl
instance iK3_105 {n m : Nat} {rg ra rb rc t : FR} {h : Bool} {τ1 : MT} [j1 : NF τ1 (QUD n rg ra rb rc)] {τ2 : MT} [j2 : NF τ2 (TRN m t h)] : Con Tryz.prog 130 [τ1,τ2] (10000 * n + 10000 * m + 100000 ≤ BIG ∧ barC [rg,ra,rb,rc] = 0 ∧ trnF h t = true) (MT.tup2 (PTS [(some 6,PLQ (n + 4 * m + 130) (ra.val * dirC h t.val) (ra.val * dirS h t.val)),(some 6,PLQ (2 * n + 4 * m + 131) (wayX rg.val ra.val h t.val) (wayY ra.val h t.val)),(some 3,QC (8 * n + 16 * m + 525) (d2F (wayX rg.val ra.val h t.val) (wayY ra.val h t.val)))]) (.ex (errV 69 (0)))):=.o2 fun hok h1 h2 hp=>w130.c2 hok (j1.h h1) (j2.h h2) hp
theorem w131 {n m : Nat} {rg ra rb rc : FR} {d : Rat} : Con Tryz.prog 131 [QUD n rg ra rb rc,QV m d] (100 * n + 100 * m + 1000 ≤ BIG) (QC (6 * n + 2 * m + 69) (discF rb.val rc.val d)):=.o2 fun hok h1 h2 hp=>by
  refine St.enter (N:=23) Tryz.func131 rfl rfl rfl hok (enter2 h1 h2) fun a=>?_
  repeat' (first|((with_reducible refine gS_ ?_);first|((with_reducible refine gL_ ?_);first|refine W.run ?_ fun a w G=>?_|refine W.mv fun a w G=>?_|refine W.asg fun a w G=>?_|refine W.bx fun b a w G=>?_|(refine W.nn hK ?_;clear hK K)|refine W.nl ?_|refine W.al fun b a w G=>?_|refine W.st fun w=>?_|refine W.stp fun w=>?_|refine W.ste ?_ fun w=>?_)|((with_reducible refine gC_ ?_);first|refine W.reg fun K hK=>?_|refine W.reg1 ?_|refine W.sq fun K hK=>?_|refine W.ds ?_ (fun β a w G hu=>W.fin ?_ hu) mixedOrders (by kernel_rfl)|refine W.sk ?_|refine W.cd (fun hc=>?_) (fun hc=>?_)|refine W.cb (fun hc=>?_) (fun hc=>?_)|refine W.bl ?_|refine W.ex ?_|refine W.rt ?_)|((with_reducible refine W.kn hK ?_);clear hK K)|(with_reducible first|refine W.bn ?_|refine W.xt ?_|refine W.xb ?_|refine W.xo ?_|refine W.tr ?_|refine W.br ?_)|refine W.rt1 rfl ?_|refine W.rt2 rfl ?_ ?_|refine W.rt3 rfl ?_ ?_ ?_)|clear hK K|clear hu|exact True.intro|exact Nat.le_trans (by clear hp;omega) hp|exact Nat.le_trans (by clear hp;omega) hp.1|exact Nat.le_trans (by clear hp;omega) hp.2|(clear hp;omega)|apply And.intro|refine GI.i fun _=>?_|with_reducible rfl|decide|(simp only [List.length_cons,List.length_nil];omega))
  all_goals rfl
instance iK3_106 {n m : Nat} {rg ra rb rc : FR} {d : Rat} {τ1 : MT} [j1 : NF τ1 (QUD n rg ra rb rc)] {τ2 : MT} [j2 : NQ τ2 (QV m d)] : Con Tryz.prog 131 [τ1,τ2] (100 * n + 100 * m + 1000 ≤ BIG) (QC (6 * n + 2 * m + 69) (discF rb.val rc.val d)):=.o2 fun hok h1 h2 hp=>w131.c2 hok (j1.h h1) (j2.h h2) hp
theorem w63 {n m : Nat} {rg ra rb rc t : FR} {h : Bool} : Con Tryz.prog 63 [QUD n rg ra rb rc,TRN m t h] (10000 * n + 10000 * m + 100000 ≤ BIG ∧ barC [rg,ra,rb,rc] = 0 ∧ trnF h t = true) (MT.tup2 (QC (22 * n + 32 * m + 1119) (dsc rg ra rb rc h t.val)) (.ex (errV 69 (0)))):=.o2 fun hok h1 h2 hp=>by
  refine St.enter (N:=22) Tryz.func63 rfl rfl rfl hok (enter2 h1 h2) fun a=>?_
  have hb:=hp.2.1
  have ht:=trn_0 hp.2.2
  have hbt:=bt_0 hp.2.1 hp.2.2
  repeat' (first|((with_reducible refine gS_ ?_);first|((with_reducible refine gL_ ?_);first|refine W.run ?_ fun a w G=>?_|refine W.mv fun a w G=>?_|refine W.asg fun a w G=>?_|refine W.bx fun b a w G=>?_|(refine W.nn hK ?_;clear hK K)|refine W.nl ?_|refine W.al fun b a w G=>?_|refine W.st fun w=>?_|refine W.stp fun w=>?_|refine W.ste ?_ fun w=>?_)|((with_reducible refine gC_ ?_);first|refine W.reg fun K hK=>?_|refine W.reg1 ?_|refine W.sq fun K hK=>?_|refine W.ds ?_ (fun β a w G hu=>W.fin ?_ hu) mixedOrders (by kernel_rfl)|refine W.sk ?_|refine W.cd (fun hc=>?_) (fun hc=>?_)|refine W.cb (fun hc=>?_) (fun hc=>?_)|refine W.bl ?_|refine W.ex ?_|refine W.rt ?_)|((with_reducible refine W.kn hK ?_);clear hK K)|(with_reducible first|refine W.bn ?_|refine W.xt ?_|refine W.xb ?_|refine W.xo ?_|refine W.tr ?_|refine W.br ?_)|refine W.rt1 rfl ?_|refine W.rt2 rfl ?_ ?_|refine W.rt3 rfl ?_ ?_ ?_)|clear hK K|clear hu|exact True.intro|exact Nat.le_trans (by clear hp;omega) hp|exact Nat.le_trans (by clear hp;omega) hp.1|exact Nat.le_trans (by clear hp;omega) hp.2|(clear hp;omega)|apply And.intro|refine GI.i fun _=>?_|with_reducible rfl|decide|(simp only [List.length_cons,List.length_nil];omega))
  all_goals first | (exfalso;omega) | assumption | exact hp.2.2 | exact hp.2.1 | rfl
instance iK3_107 {n m : Nat} {rg ra rb rc t : FR} {h : Bool} {τ1 : MT} [j1 : NF τ1 (QUD n rg ra rb rc)] {τ2 : MT} [j2 : NF τ2 (TRN m t h)] : Con Tryz.prog 63 [τ1,τ2] (10000 * n + 10000 * m + 100000 ≤ BIG ∧ barC [rg,ra,rb,rc] = 0 ∧ trnF h t = true) (MT.tup2 (QC (22 * n + 32 * m + 1119) (dsc rg ra rb rc h t.val)) (.ex (errV 69 (0)))):=.o2 fun hok h1 h2 hp=>w63.c2 hok (j1.h h1) (j2.h h2) hp
end Go.Proofs.YtdbdnabpaadigaaGreat
set_option linter.unusedVariables false
set_option linter.unusedSimpArgs false
namespace Go.Proofs.YtdbdnabpaadigaaGreat
theorem four_swap {p q r x : RR} (h : x ≤ p + q + r) : x + x ≤ p + q + r + x:=RR.add_le_add_right h _
theorem le_chk {l : List FR} (hp : l.all posR = true) (h : ∀ t,t < 4 → rt ((l.map FR.val).getD t default) + rt ((l.map FR.val).getD t default) ≤ rt ((l.map FR.val).getD 0 default) + rt ((l.map FR.val).getD 1 default) + rt ((l.map FR.val).getD 2 default) + rt ((l.map FR.val).getD 3 default)) : chkF l = 0:=by
  have hn : ∀ q,0 ≤ (l.map FR.val).getD q default:=fun q=>by rw [vget];exact vals_pos hp q
  obtain ⟨i,j,k,m,e,hpm,b1,b2,b3⟩:=order_ok (l.map FR.val)
  have h3:=bef_le b3
  have hm4 : m < 4:=by have : m ∈ [0,1,2,3]:=hpm.mem_iff.1 (by simp);simp at this;omega
  have hc : closesF (lk l 3) (lk l 0) (lk l 1) (lk l 2) = true:=by
    simp only [lk_get,e]
    refine (closes_iff (hn m) (hn i) (hn j) (hn k) h3).2 ?_
    have hs:=h m hm4
    rw [← sum4 (R:=fun x=>rt ((l.map FR.val).getD x default)) hpm] at hs
    exact half4 hs rfl
  unfold chkF
  rw [if_pos hp,if_pos hc]
section
variable {g a b c : Rat}
theorem near_m1i (hg : 0 ≤ g) (ha : 0 ≤ a) (hb : 0 ≤ b) (hbc : b ≤ c) (h : nearV g a b c (-1) ≥ 0) : rt c ≤ rt g + rt a + rt b:=by
  have hc : 0 ≤ c:=by grind
  unfold nearV at h
  rw [surds_sg (Rat.mul_nonneg ha hg) (Rat.mul_nonneg hb hc),rt_mul ha hg,rt_mul hb hc,of_4 hg ha hb hc] at h
  have e : rt g * rt g + rt a * rt a - (rt b * rt b + rt c * rt c) + RR.of (-(2 * -1)) * (rt a * rt g) + RR.of 2 * (rt b * rt c) = (rt g + rt a) * (rt g + rt a) - (rt c - rt b) * (rt c - rt b):=by
    generalize rt a = A;generalize rt g = D;generalize rt b = B;generalize rt c = C
    obtain ⟨f,hf,rfl⟩:=RR.rep A;obtain ⟨f1,hf1,rfl⟩:=RR.rep D;obtain ⟨f2,hf2,rfl⟩:=RR.rep B;obtain ⟨f3,hf3,rfl⟩:=RR.rep C
    exact RR.ext fun n=>by grind
  have e2 : (rt g + rt a) - (rt c - rt b) = (rt g + rt a + rt b) - rt c:=by
    generalize rt a = A;generalize rt g = D;generalize rt b = B;generalize rt c = C
    obtain ⟨f,hf,rfl⟩:=RR.rep A;obtain ⟨f1,hf1,rfl⟩:=RR.rep D;obtain ⟨f2,hf2,rfl⟩:=RR.rep B;obtain ⟨f3,hf3,rfl⟩:=RR.rep C
    exact RR.ext fun n=>by grind
  rw [e,← sgR_sq (RR.add_nn (rt_nn _) (rt_nn _)) (RR.le_iff_sub.1 (rt_le hb hbc)),e2] at h
  exact sgR_ge.1 h
theorem far_p1i (hg : 0 ≤ g) (hga : g ≤ a) (hb : 0 ≤ b) (hc : 0 ≤ c) (h : farV g a b c 1 ≥ 0) : rt a ≤ rt b + rt c + rt g:=by
  have ha : 0 ≤ a:=by grind
  unfold farV at h
  rw [surds_sg (Rat.mul_nonneg ha hg) (Rat.mul_nonneg hb hc),rt_mul ha hg,rt_mul hb hc,of_4 hb hc hg ha] at h
  have e : rt b * rt b + rt c * rt c - (rt g * rt g + rt a * rt a) + RR.of (2 * 1) * (rt a * rt g) + RR.of 2 * (rt b * rt c) = (rt b + rt c) * (rt b + rt c) - (rt a - rt g) * (rt a - rt g):=by
    generalize rt a = A;generalize rt g = D;generalize rt b = B;generalize rt c = C
    obtain ⟨f,hf,rfl⟩:=RR.rep A;obtain ⟨f1,hf1,rfl⟩:=RR.rep D;obtain ⟨f2,hf2,rfl⟩:=RR.rep B;obtain ⟨f3,hf3,rfl⟩:=RR.rep C
    exact RR.ext fun n=>by grind
  have e2 : (rt b + rt c) - (rt a - rt g) = (rt b + rt c + rt g) - rt a:=by
    generalize rt a = A;generalize rt g = D;generalize rt b = B;generalize rt c = C
    obtain ⟨f,hf,rfl⟩:=RR.rep A;obtain ⟨f1,hf1,rfl⟩:=RR.rep D;obtain ⟨f2,hf2,rfl⟩:=RR.rep B;obtain ⟨f3,hf3,rfl⟩:=RR.rep C
    exact RR.ext fun n=>by grind
  rw [e,← sgR_sq (RR.add_nn (rt_nn _) (rt_nn _)) (RR.le_iff_sub.1 (rt_le hg hga)),e2] at h
  exact sgR_ge.1 h
theorem le_more {p q x y : RR} (hp : 0 ≤ p) (hq : 0 ≤ q) (h : x ≤ y) : x ≤ p + q + y:=by
  rw [RR.le_iff_sub] at h ⊢
  have e : p + q + y - x = (p + q) + (y - x):=by
    obtain ⟨f,hf,rfl⟩:=RR.rep p;obtain ⟨f1,hf1,rfl⟩:=RR.rep q;obtain ⟨f2,hf2,rfl⟩:=RR.rep x;obtain ⟨f3,hf3,rfl⟩:=RR.rep y
    exact RR.ext fun n=>by grind
  rw [e];exact RR.add_nn (RR.add_nn hp hq) h
end
theorem near_far_chk {g a b c : FR} (hp : [g,a,b,c].all posR = true) (h1 : nearF g a b c (-1) ≥ 0) (h2 : farF g a b c 1 ≥ 0) : chkF [g,a,b,c] = 0:=by
  have hq:=hp
  simp only [List.all_cons,List.all_nil,Bool.and_true,Bool.and_eq_true] at hq
  have p0:=Rat.le_of_lt (posR_val hq.1);have p1:=Rat.le_of_lt (posR_val hq.2.1);have p2:=Rat.le_of_lt (posR_val hq.2.2.1);have p3:=Rat.le_of_lt (posR_val hq.2.2.2)
  have n1 : nearV g.val a.val b.val c.val (-1) ≥ 0:=h1
  have n2 : farV g.val a.val b.val c.val 1 ≥ 0:=h2
  have r0:=rt_nn g.val;have r1:=rt_nn a.val;have r2:=rt_nn b.val;have r3:=rt_nn c.val
  haveI : Std.Commutative (α:=RR) (· + ·):=⟨RR.add_comm⟩
  haveI : Std.Associative (α:=RR) (· + ·):=⟨RR.add_assoc⟩
  have k1 : rt c.val ≤ rt g.val + rt a.val + rt b.val ∧ rt b.val ≤ rt g.val + rt a.val + rt c.val:=by
    rcases Rat.le_total (a:=b.val) (b:=c.val) with k | k
    · exact ⟨near_m1i p0 p1 p2 k n1,le_more r0 r1 (rt_le p2 k)⟩
    · rw [nearV_s2] at n1
      exact ⟨le_more r0 r1 (rt_le p3 k),near_m1i p0 p1 p3 k n1⟩
  have k2 : rt a.val ≤ rt b.val + rt c.val + rt g.val ∧ rt g.val ≤ rt b.val + rt c.val + rt a.val:=by
    rcases Rat.le_total (a:=g.val) (b:=a.val) with k | k
    · exact ⟨far_p1i p0 k p2 p3 n2,le_more r2 r3 (rt_le p0 k)⟩
    · rw [farV_s1] at n2
      exact ⟨le_more r2 r3 (rt_le p1 k),far_p1i p1 k p2 p3 n2⟩
  refine le_chk hp fun t ht=>?_
  match t,ht with
  | 0,_=>show rt g.val + rt g.val ≤ rt g.val + rt a.val + rt b.val + rt c.val;rw [show rt g.val + rt a.val + rt b.val + rt c.val = rt b.val + rt c.val + rt a.val + rt g.val by ac_rfl];exact four_swap k2.2
  | 1,_=>show rt a.val + rt a.val ≤ rt g.val + rt a.val + rt b.val + rt c.val;rw [show rt g.val + rt a.val + rt b.val + rt c.val = rt b.val + rt c.val + rt g.val + rt a.val by ac_rfl];exact four_swap k2.1
  | 2,_=>show rt b.val + rt b.val ≤ rt g.val + rt a.val + rt b.val + rt c.val;rw [show rt g.val + rt a.val + rt b.val + rt c.val = rt g.val + rt a.val + rt c.val + rt b.val by ac_rfl];exact four_swap k1.2
  | 3,_=>show rt c.val + rt c.val ≤ rt g.val + rt a.val + rt b.val + rt c.val;exact four_swap k1.1
theorem can_chk {g a b c : FR} (hp : [g,a,b,c].all posR = true) {k : Rat} (k1 : -1 ≤ k) (k2 : k ≤ 1) (h1 : nearF g a b c k ≥ 0) (h2 : farF g a b c k ≥ 0) : chkF [g,a,b,c] = 0:=by
  have:=near_anti hp k1;have:=far_mono hp k2
  exact near_far_chk hp (by omega) (by omega)
theorem dir_one {h : Bool} {t : Rat} : dirC h t * dirC h t + dirS h t * dirS h t = 1:=by
  unfold dirC dirS
  cases h with
  | true=>rw [if_pos rfl,if_pos rfl];decide +kernel
  | false =>
    rw [if_neg (by decide),if_neg (by decide)]
    have hd:=one_sq t
    generalize hD : 1 + t * t = D at *
    have e1 : (1 - t * t) / D * ((1 - t * t) / D) + (t + t) / D * ((t + t) / D) = ((1 - t * t) * (1 - t * t) + (t + t) * (t + t)) / (D * D):=by grind
    rw [e1,show (1 - t * t) * (1 - t * t) + (t + t) * (t + t) = D * D by rw [← hD];grind]
    rw [Rat.div_def];exact Rat.mul_inv_cancel _ (by intro e;rcases Rat.mul_eq_zero.1 e with e | e <;> exact hd e)
theorem dir_rng {h : Bool} {t : Rat} : -1 ≤ dirC h t ∧ dirC h t ≤ 1:=by
  have h1:=dir_one (h:=h) (t:=t)
  have sq : ∀ z : Rat,0 ≤ z * z:=fun z=>by
    rcases (Rat.le_total : 0 ≤ z ∨ z ≤ 0) with h | h
    · exact Rat.mul_nonneg h h
    · have:=Rat.mul_nonneg (show 0 ≤ -z by grind) (show 0 ≤ -z by grind);grind
  have h2:=sq (dirS h t)
  generalize dirC h t = x at *
  generalize dirS h t = y at *
  constructor
  · apply Classical.byContradiction;intro e
    have:=Rat.mul_pos (show 0 < -1 - x by grind) (show 0 < -1 - x by grind);grind
  · apply Classical.byContradiction;intro e
    have:=Rat.mul_pos (show 0 < x - 1 by grind) (show 0 < x - 1 by grind);grind
theorem way_cos {g a t : Rat} {h : Bool} : d2F (wayX g a h t) (wayY a h t) = g * g + a * a - 2 * dirC h t * (g * a):=by
  have h1:=dir_one (h:=h) (t:=t)
  unfold d2F wayX wayY
  generalize dirC h t = x at *
  generalize dirS h t = y at *
  have : a * a * (x * x + y * y) = a * a:=by rw [h1];grind
  grind
theorem sqF_pos {g a b c : FR} (hb : [g,a,b,c].all posR = true) : (sqF g a b c).all posR = true:=by
  simp only [List.all_cons,List.all_nil,Bool.and_true,Bool.and_eq_true] at hb
  have h1:=posR_val hb.1;have h2:=posR_val hb.2.1;have h3:=posR_val hb.2.2.1;have h4:=posR_val hb.2.2.2
  simp only [sqF,List.all_cons,List.all_nil,posR_of4,Bool.and_true,Bool.and_eq_true,decide_eq_true_eq]
  exact ⟨Rat.mul_pos h1 h1,Rat.mul_pos h2 h2,h3,h4⟩
theorem dsc_sg {g a b c : FR} (hb : [g,a,b,c].all posR = true) {h : Bool} {t : Rat} : (dsc g a b c h t).num.sign = nearF (FR.of (g.val * g.val)) (FR.of (a.val * a.val)) (FR.of b.val) (FR.of c.val) (dirC h t) * farF (FR.of (g.val * g.val)) (FR.of (a.val * a.val)) (FR.of b.val) (FR.of c.val) (dirC h t):=by
  have hs:=sqF_pos hb
  simp only [List.all_cons,List.all_nil,Bool.and_true,Bool.and_eq_true] at hb
  have h1:=Rat.le_of_lt (posR_val hb.1);have h2:=Rat.le_of_lt (posR_val hb.2.1);have h3:=Rat.le_of_lt (posR_val hb.2.2.1);have h4:=Rat.le_of_lt (posR_val hb.2.2.2)
  rw [near_R hs,far_R hs,← sgR_mul,← sgR_of]
  congr 1
  simp only [FR.of_val]
  unfold dsc discF nearR
  rw [way_cos,rt_mul (Rat.mul_nonneg h2 h2) (Rat.mul_nonneg h1 h1),rt_c h1,rt_c h2]
  have e : RR.of (4 * (b.val * c.val) - (b.val + c.val - (g.val * g.val + a.val * a.val - 2 * dirC h t * (g.val * a.val))) * (b.val + c.val - (g.val * g.val + a.val * a.val - 2 * dirC h t * (g.val * a.val)))) = RR.of 4 * (rt (b.val * c.val) * rt (b.val * c.val)) - RR.of ((b.val + c.val - (g.val * g.val + a.val * a.val - 2 * dirC h t * (g.val * a.val))) * (b.val + c.val - (g.val * g.val + a.val * a.val - 2 * dirC h t * (g.val * a.val)))):=by
    rw [rt_sq (Rat.mul_nonneg h3 h4),← RR.of_mul,← RR.of_sub]
  rw [e]
  generalize rt (b.val * c.val) = X
  generalize dirC h t = k
  obtain ⟨f,hf,rfl⟩:=RR.rep X
  exact RR.ext fun n=>by grind
end Go.Proofs.YtdbdnabpaadigaaGreat
