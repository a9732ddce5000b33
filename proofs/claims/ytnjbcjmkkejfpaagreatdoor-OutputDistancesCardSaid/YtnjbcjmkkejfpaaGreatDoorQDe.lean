import Derived.Test.YtnjbcjmkkejfpaaGreatDoorQDd
set_option linter.unusedVariables false
set_option linter.unusedSimpArgs false
set_option linter.unusedVariables false
set_option linter.unusedSimpArgs false
set_option maxHeartbeats 4000000
set_option maxRecDepth 100000
set_option synthInstance.maxSize 100000
set_option synthInstance.maxHeartbeats 400000
namespace Go.Proofs.YtnjbcjmkkejfpaaGreatDoor
open Go.RowKit (Below)
attribute [local irreducible] Go.Code.wp Go.wpList Go.bodyPost
private theorem gS_ {W0 : World} {G0 : Gh} {N : Nat} {L : List (Nat × MT)} {B : List BX} {a : Act} {w : World} {G : Gh} {q : Prop} (h : St W0 G0 N L B a w G → q) : St W0 G0 N L B a w G → q:=h
private theorem gL_ {p : Prop} {P : Program} {arr : Array Oper} {Q : Exit → Act → World → Prop} {l : List Oper} {a : Act} {w : World} (h : p → wpList P arr Q l a w) : p → wpList P arr Q l a w:=h
private theorem gC_ {p : Prop} {P : Program} {c : Code} {Q : Exit → Act → World → Prop} {a : Act} {w : World} (h : p → c.wp P Q a w) : p → c.wp P Q a w:=h
private theorem mixedOrders : Tryz.prog.follows .mixedOrders = true:=by kernel_rfl
attribute [local irreducible] barC trnC btC
theorem w70 {n m : Nat} {rg ra rb rc t : FR} {h : Bool} : Con Tryz.prog 70 [QUD n rg ra rb rc,TRN m t h] (10000 * n + 10000 * m + 100000 ≤ BIG) (.ex (errV 67 (btC [rg,ra,rb,rc] h t))):=.o2 fun hok h1 h2 hp=>by
  refine St.enter (N:=15) Tryz.func70 rfl rfl rfl hok (enter2 h1 h2) fun a=>?_
  repeat' (first|((with_reducible refine gS_ ?_);first|((with_reducible refine gL_ ?_);first|refine W.run ?_ fun a w G=>?_|refine W.mv fun a w G=>?_|refine W.asg fun a w G=>?_|refine W.bx fun b a w G=>?_|(refine W.nn hK ?_;clear hK K)|refine W.nl ?_|refine W.al fun b a w G=>?_|refine W.st fun w=>?_|refine W.stp fun w=>?_|refine W.ste ?_ fun w=>?_)|((with_reducible refine gC_ ?_);first|refine W.reg fun K hK=>?_|refine W.reg1 ?_|refine W.sq fun K hK=>?_|refine W.ds ?_ (fun β a w G hu=>W.fin ?_ hu) mixedOrders (by kernel_rfl)|refine W.sk ?_|refine W.cd (fun hc=>?_) (fun hc=>?_)|refine W.cb (fun hc=>?_) (fun hc=>?_)|refine W.bl ?_|refine W.ex ?_|refine W.rt ?_)|((with_reducible refine W.kn hK ?_);clear hK K)|(with_reducible first|refine W.bn ?_|refine W.xt ?_|refine W.xb ?_|refine W.xo ?_|refine W.tr ?_|refine W.br ?_)|refine W.rt1 rfl ?_|refine W.rt2 rfl ?_ ?_|refine W.rt3 rfl ?_ ?_ ?_)|clear hK K|clear hu|exact True.intro|exact Nat.le_trans (by clear hp;omega) hp|exact Nat.le_trans (by clear hp;omega) hp.1|exact Nat.le_trans (by clear hp;omega) hp.2|(clear hp;omega)|apply And.intro|refine GI.i fun _=>?_|with_reducible rfl|decide|(simp only [List.length_cons,List.length_nil];omega))
  all_goals grind [btC,bar_two,trn_two]
instance iK3_91 {n m : Nat} {rg ra rb rc t : FR} {h : Bool} {τ1 : MT} [j1 : NF τ1 (QUD n rg ra rb rc)] {τ2 : MT} [j2 : NF τ2 (TRN m t h)] : Con Tryz.prog 70 [τ1,τ2] (10000 * n + 10000 * m + 100000 ≤ BIG) (.ex (errV 67 (btC [rg,ra,rb,rc] h t))):=.o2 fun hok h1 h2 hp=>w70.c2 hok (j1.h h1) (j2.h h2) hp
theorem w69 {n : Nat} {x : Rat} : Con Tryz.prog 69 [QV n x] (n + n ≤ BIG) (QC (n + n) (x * x)):=.o1 fun hok h1 hp=>by
  refine St.enter (N:=6) Tryz.func69 rfl rfl rfl hok (enter1 h1) fun a=>?_
  repeat' (first|((with_reducible refine gS_ ?_);first|((with_reducible refine gL_ ?_);first|refine W.run ?_ fun a w G=>?_|refine W.mv fun a w G=>?_|refine W.asg fun a w G=>?_|refine W.bx fun b a w G=>?_|(refine W.nn hK ?_;clear hK K)|refine W.nl ?_|refine W.al fun b a w G=>?_|refine W.st fun w=>?_|refine W.stp fun w=>?_|refine W.ste ?_ fun w=>?_)|((with_reducible refine gC_ ?_);first|refine W.reg fun K hK=>?_|refine W.reg1 ?_|refine W.sq fun K hK=>?_|refine W.ds ?_ (fun β a w G hu=>W.fin ?_ hu) mixedOrders (by kernel_rfl)|refine W.sk ?_|refine W.cd (fun hc=>?_) (fun hc=>?_)|refine W.cb (fun hc=>?_) (fun hc=>?_)|refine W.bl ?_|refine W.ex ?_|refine W.rt ?_)|((with_reducible refine W.kn hK ?_);clear hK K)|(with_reducible first|refine W.bn ?_|refine W.xt ?_|refine W.xb ?_|refine W.xo ?_|refine W.tr ?_|refine W.br ?_)|refine W.rt1 rfl ?_|refine W.rt2 rfl ?_ ?_|refine W.rt3 rfl ?_ ?_ ?_)|clear hK K|clear hu|exact True.intro|exact Nat.le_trans (by clear hp;omega) hp|exact Nat.le_trans (by clear hp;omega) hp.1|exact Nat.le_trans (by clear hp;omega) hp.2|(clear hp;omega)|apply And.intro|refine GI.i fun _=>?_|with_reducible rfl|decide|(simp only [List.length_cons,List.length_nil];omega))
instance iK3_92 {n : Nat} {x : Rat} {τ1 : MT} [j1 : NQ τ1 (QV n x)] : Con Tryz.prog 69 [τ1] (n + n ≤ BIG) (QC (n + n) (x * x)):=.o1 fun hok h1 hp=>w69.c1 hok (j1.h h1) hp
theorem w60 {n : Nat} {x : Rat} : Con Tryz.prog 60 [QV n x] (n + 2 ≤ BIG) (QC (n + 2) x):=.o1 fun hok h1 hp=>by
  refine St.enter (N:=6) Tryz.func60 rfl rfl rfl hok (enter1 h1) fun a=>?_
  repeat' (first|((with_reducible refine gS_ ?_);first|((with_reducible refine gL_ ?_);first|refine W.run ?_ fun a w G=>?_|refine W.mv fun a w G=>?_|refine W.asg fun a w G=>?_|refine W.bx fun b a w G=>?_|(refine W.nn hK ?_;clear hK K)|refine W.nl ?_|refine W.al fun b a w G=>?_|refine W.st fun w=>?_|refine W.stp fun w=>?_|refine W.ste ?_ fun w=>?_)|((with_reducible refine gC_ ?_);first|refine W.reg fun K hK=>?_|refine W.reg1 ?_|refine W.sq fun K hK=>?_|refine W.ds ?_ (fun β a w G hu=>W.fin ?_ hu) mixedOrders (by kernel_rfl)|refine W.sk ?_|refine W.cd (fun hc=>?_) (fun hc=>?_)|refine W.cb (fun hc=>?_) (fun hc=>?_)|refine W.bl ?_|refine W.ex ?_|refine W.rt ?_)|((with_reducible refine W.kn hK ?_);clear hK K)|(with_reducible first|refine W.bn ?_|refine W.xt ?_|refine W.xb ?_|refine W.xo ?_|refine W.tr ?_|refine W.br ?_)|refine W.rt1 rfl ?_|refine W.rt2 rfl ?_ ?_|refine W.rt3 rfl ?_ ?_ ?_)|clear hK K|clear hu|exact True.intro|exact Nat.le_trans (by clear hp;omega) hp|exact Nat.le_trans (by clear hp;omega) hp.1|exact Nat.le_trans (by clear hp;omega) hp.2|(clear hp;omega)|apply And.intro|refine GI.i fun _=>?_|with_reducible rfl|decide|(simp only [List.length_cons,List.length_nil];omega))
  all_goals grind [zv0]
instance iK3_93 {n : Nat} {x : Rat} {τ1 : MT} [j1 : NQ τ1 (QV n x)] : Con Tryz.prog 60 [τ1] (n + 2 ≤ BIG) (QC (n + 2) x):=.o1 fun hok h1 hp=>w60.c1 hok (j1.h h1) hp
theorem w21 {n m : Nat} {rg ra rb rc t : FR} {h : Bool} : Con Tryz.prog 21 [QUD n rg ra rb rc,TRN m t h] (10000 * n + 10000 * m + 100000 ≤ BIG ∧ barC [rg,ra,rb,rc] = 0 ∧ trnF h t = true) (MT.tup2 (PLQ (n + 4 * m + 130) (ra.val * dirC h t.val) (ra.val * dirS h t.val)) (.ex (errV 67 (0)))):=.o2 fun hok h1 h2 hp=>by
  refine St.enter (N:=36) Tryz.func21 rfl rfl rfl hok (enter2 h1 h2) fun a=>?_
  have hb:=hp.2.1
  have ht:=trn_0 hp.2.2
  have hbt:=bt_0 hp.2.1 hp.2.2
  repeat' (first|((with_reducible refine gS_ ?_);first|((with_reducible refine gL_ ?_);first|refine W.run ?_ fun a w G=>?_|refine W.mv fun a w G=>?_|refine W.asg fun a w G=>?_|refine W.bx fun b a w G=>?_|(refine W.nn hK ?_;clear hK K)|refine W.nl ?_|refine W.al fun b a w G=>?_|refine W.st fun w=>?_|refine W.stp fun w=>?_|refine W.ste ?_ fun w=>?_)|((with_reducible refine gC_ ?_);first|refine W.reg fun K hK=>?_|refine W.reg1 ?_|refine W.sq fun K hK=>?_|refine W.ds ?_ (fun β a w G hu=>W.fin ?_ hu) mixedOrders (by kernel_rfl)|refine W.sk ?_|refine W.cd (fun hc=>?_) (fun hc=>?_)|refine W.cb (fun hc=>?_) (fun hc=>?_)|refine W.bl ?_|refine W.ex ?_|refine W.rt ?_)|((with_reducible refine W.kn hK ?_);clear hK K)|(with_reducible first|refine W.bn ?_|refine W.xt ?_|refine W.xb ?_|refine W.xo ?_|refine W.tr ?_|refine W.br ?_)|refine W.rt1 rfl ?_|refine W.rt2 rfl ?_ ?_|refine W.rt3 rfl ?_ ?_ ?_)|clear hK K|clear hu|exact True.intro|exact Nat.le_trans (by clear hp;omega) hp|exact Nat.le_trans (by clear hp;omega) hp.1|exact Nat.le_trans (by clear hp;omega) hp.2|(clear hp;omega)|apply And.intro|refine GI.i fun _=>?_|with_reducible rfl|decide|(simp only [List.length_cons,List.length_nil];omega))
  all_goals first | (exfalso;omega) | assumption | exact hp.2.2 | exact hp.2.1 | rfl
instance iK3_95 {n m : Nat} {rg ra rb rc t : FR} {h : Bool} {τ1 : MT} [j1 : NF τ1 (QUD n rg ra rb rc)] {τ2 : MT} [j2 : NF τ2 (TRN m t h)] : Con Tryz.prog 21 [τ1,τ2] (10000 * n + 10000 * m + 100000 ≤ BIG ∧ barC [rg,ra,rb,rc] = 0 ∧ trnF h t = true) (MT.tup2 (PLQ (n + 4 * m + 130) (ra.val * dirC h t.val) (ra.val * dirS h t.val)) (.ex (errV 67 (0)))):=.o2 fun hok h1 h2 hp=>w21.c2 hok (j1.h h1) (j2.h h2) hp
theorem w56 {n m : Nat} {rg ra rb rc t : FR} {h : Bool} : Con Tryz.prog 56 [QUD n rg ra rb rc,TRN m t h] (10000 * n + 10000 * m + 100000 ≤ BIG ∧ barC [rg,ra,rb,rc] = 0 ∧ trnF h t = true) (MT.tup2 (PTS [(some 6,PLQ (n + 4 * m + 130) (ra.val * dirC h t.val) (ra.val * dirS h t.val)),(some 6,PLQ (2 * n + 4 * m + 131) (wayX rg.val ra.val h t.val) (wayY ra.val h t.val)),(some 3,QC (8 * n + 16 * m + 525) (d2F (wayX rg.val ra.val h t.val) (wayY ra.val h t.val)))]) (.ex (errV 67 (0)))):=.o2 fun hok h1 h2 hp=>by
  refine St.enter (N:=38) Tryz.func56 rfl rfl rfl hok (enter2 h1 h2) fun a=>?_
  have hb:=hp.2.1
  have ht:=trn_0 hp.2.2
  have hbt:=bt_0 hp.2.1 hp.2.2
  repeat' (first|((with_reducible refine gS_ ?_);first|((with_reducible refine gL_ ?_);first|refine W.run ?_ fun a w G=>?_|refine W.mv fun a w G=>?_|refine W.asg fun a w G=>?_|refine W.bx fun b a w G=>?_|(refine W.nn hK ?_;clear hK K)|refine W.nl ?_|refine W.al fun b a w G=>?_|refine W.st fun w=>?_|refine W.stp fun w=>?_|refine W.ste ?_ fun w=>?_)|((with_reducible refine gC_ ?_);first|refine W.reg fun K hK=>?_|refine W.reg1 ?_|refine W.sq fun K hK=>?_|refine W.ds ?_ (fun β a w G hu=>W.fin ?_ hu) mixedOrders (by kernel_rfl)|refine W.sk ?_|refine W.cd (fun hc=>?_) (fun hc=>?_)|refine W.cb (fun hc=>?_) (fun hc=>?_)|refine W.bl ?_|refine W.ex ?_|refine W.rt ?_)|((with_reducible refine W.kn hK ?_);clear hK K)|(with_reducible first|refine W.bn ?_|refine W.xt ?_|refine W.xb ?_|refine W.xo ?_|refine W.tr ?_|refine W.br ?_)|refine W.rt1 rfl ?_|refine W.rt2 rfl ?_ ?_|refine W.rt3 rfl ?_ ?_ ?_)|clear hK K|clear hu|exact True.intro|exact Nat.le_trans (by clear hp;omega) hp|exact Nat.le_trans (by clear hp;omega) hp.1|exact Nat.le_trans (by clear hp;omega) hp.2|(clear hp;omega)|apply And.intro|refine GI.i fun _=>?_|with_reducible rfl|decide|(simp only [List.length_cons,List.length_nil];omega))
  all_goals first | (exfalso;omega) | assumption | exact hp.2.2 | exact hp.2.1 | rfl
instance iK3_96 {n m : Nat} {rg ra rb rc t : FR} {h : Bool} {τ1 : MT} [j1 : NF τ1 (QUD n rg ra rb rc)] {τ2 : MT} [j2 : NF τ2 (TRN m t h)] : Con Tryz.prog 56 [τ1,τ2] (10000 * n + 10000 * m + 100000 ≤ BIG ∧ barC [rg,ra,rb,rc] = 0 ∧ trnF h t = true) (MT.tup2 (PTS [(some 6,PLQ (n + 4 * m + 130) (ra.val * dirC h t.val) (ra.val * dirS h t.val)),(some 6,PLQ (2 * n + 4 * m + 131) (wayX rg.val ra.val h t.val) (wayY ra.val h t.val)),(some 3,QC (8 * n + 16 * m + 525) (d2F (wayX rg.val ra.val h t.val) (wayY ra.val h t.val)))]) (.ex (errV 67 (0)))):=.o2 fun hok h1 h2 hp=>w56.c2 hok (j1.h h1) (j2.h h2) hp
theorem w57 {n m : Nat} {rg ra rb rc : FR} {d : Rat} : Con Tryz.prog 57 [QUD n rg ra rb rc,QV m d] (100 * n + 100 * m + 1000 ≤ BIG) (QC (6 * n + 2 * m + 69) (discF rb.val rc.val d)):=.o2 fun hok h1 h2 hp=>by
  refine St.enter (N:=23) Tryz.func57 rfl rfl rfl hok (enter2 h1 h2) fun a=>?_
  repeat' (first|((with_reducible refine gS_ ?_);first|((with_reducible refine gL_ ?_);first|refine W.run ?_ fun a w G=>?_|refine W.mv fun a w G=>?_|refine W.asg fun a w G=>?_|refine W.bx fun b a w G=>?_|(refine W.nn hK ?_;clear hK K)|refine W.nl ?_|refine W.al fun b a w G=>?_|refine W.st fun w=>?_|refine W.stp fun w=>?_|refine W.ste ?_ fun w=>?_)|((with_reducible refine gC_ ?_);first|refine W.reg fun K hK=>?_|refine W.reg1 ?_|refine W.sq fun K hK=>?_|refine W.ds ?_ (fun β a w G hu=>W.fin ?_ hu) mixedOrders (by kernel_rfl)|refine W.sk ?_|refine W.cd (fun hc=>?_) (fun hc=>?_)|refine W.cb (fun hc=>?_) (fun hc=>?_)|refine W.bl ?_|refine W.ex ?_|refine W.rt ?_)|((with_reducible refine W.kn hK ?_);clear hK K)|(with_reducible first|refine W.bn ?_|refine W.xt ?_|refine W.xb ?_|refine W.xo ?_|refine W.tr ?_|refine W.br ?_)|refine W.rt1 rfl ?_|refine W.rt2 rfl ?_ ?_|refine W.rt3 rfl ?_ ?_ ?_)|clear hK K|clear hu|exact True.intro|exact Nat.le_trans (by clear hp;omega) hp|exact Nat.le_trans (by clear hp;omega) hp.1|exact Nat.le_trans (by clear hp;omega) hp.2|(clear hp;omega)|apply And.intro|refine GI.i fun _=>?_|with_reducible rfl|decide|(simp only [List.length_cons,List.length_nil];omega))
  all_goals rfl
instance iK3_97 {n m : Nat} {rg ra rb rc : FR} {d : Rat} {τ1 : MT} [j1 : NF τ1 (QUD n rg ra rb rc)] {τ2 : MT} [j2 : NQ τ2 (QV m d)] : Con Tryz.prog 57 [τ1,τ2] (100 * n + 100 * m + 1000 ≤ BIG) (QC (6 * n + 2 * m + 69) (discF rb.val rc.val d)):=.o2 fun hok h1 h2 hp=>w57.c2 hok (j1.h h1) (j2.h h2) hp
theorem w22 {n m : Nat} {rg ra rb rc t : FR} {h : Bool} : Con Tryz.prog 22 [QUD n rg ra rb rc,TRN m t h] (10000 * n + 10000 * m + 100000 ≤ BIG ∧ barC [rg,ra,rb,rc] = 0 ∧ trnF h t = true) (MT.tup2 (QC (22 * n + 32 * m + 1119) (dsc rg ra rb rc h t.val)) (.ex (errV 67 (0)))):=.o2 fun hok h1 h2 hp=>by
  refine St.enter (N:=22) Tryz.func22 rfl rfl rfl hok (enter2 h1 h2) fun a=>?_
  have hb:=hp.2.1
  have ht:=trn_0 hp.2.2
  have hbt:=bt_0 hp.2.1 hp.2.2
  repeat' (first|((with_reducible refine gS_ ?_);first|((with_reducible refine gL_ ?_);first|refine W.run ?_ fun a w G=>?_|refine W.mv fun a w G=>?_|refine W.asg fun a w G=>?_|refine W.bx fun b a w G=>?_|(refine W.nn hK ?_;clear hK K)|refine W.nl ?_|refine W.al fun b a w G=>?_|refine W.st fun w=>?_|refine W.stp fun w=>?_|refine W.ste ?_ fun w=>?_)|((with_reducible refine gC_ ?_);first|refine W.reg fun K hK=>?_|refine W.reg1 ?_|refine W.sq fun K hK=>?_|refine W.ds ?_ (fun β a w G hu=>W.fin ?_ hu) mixedOrders (by kernel_rfl)|refine W.sk ?_|refine W.cd (fun hc=>?_) (fun hc=>?_)|refine W.cb (fun hc=>?_) (fun hc=>?_)|refine W.bl ?_|refine W.ex ?_|refine W.rt ?_)|((with_reducible refine W.kn hK ?_);clear hK K)|(with_reducible first|refine W.bn ?_|refine W.xt ?_|refine W.xb ?_|refine W.xo ?_|refine W.tr ?_|refine W.br ?_)|refine W.rt1 rfl ?_|refine W.rt2 rfl ?_ ?_|refine W.rt3 rfl ?_ ?_ ?_)|clear hK K|clear hu|exact True.intro|exact Nat.le_trans (by clear hp;omega) hp|exact Nat.le_trans (by clear hp;omega) hp.1|exact Nat.le_trans (by clear hp;omega) hp.2|(clear hp;omega)|apply And.intro|refine GI.i fun _=>?_|with_reducible rfl|decide|(simp only [List.length_cons,List.length_nil];omega))
  all_goals first | (exfalso;omega) | assumption | exact hp.2.2 | exact hp.2.1 | rfl
instance iK3_98 {n m : Nat} {rg ra rb rc t : FR} {h : Bool} {τ1 : MT} [j1 : NF τ1 (QUD n rg ra rb rc)] {τ2 : MT} [j2 : NF τ2 (TRN m t h)] : Con Tryz.prog 22 [τ1,τ2] (10000 * n + 10000 * m + 100000 ≤ BIG ∧ barC [rg,ra,rb,rc] = 0 ∧ trnF h t = true) (MT.tup2 (QC (22 * n + 32 * m + 1119) (dsc rg ra rb rc h t.val)) (.ex (errV 67 (0)))):=.o2 fun hok h1 h2 hp=>w22.c2 hok (j1.h h1) (j2.h h2) hp
end Go.Proofs.YtnjbcjmkkejfpaaGreatDoor
set_option linter.unusedVariables false
set_option linter.unusedSimpArgs false
set_option maxHeartbeats 4000000
set_option maxRecDepth 100000
set_option synthInstance.maxSize 100000
set_option synthInstance.maxHeartbeats 400000
namespace Go.Proofs.YtnjbcjmkkejfpaaGreatDoor
open Go.RowKit (Below)
attribute [local irreducible] Go.Code.wp Go.wpList Go.bodyPost
attribute [local irreducible] barC trnC btC ciF dsc enR enL cirs exC ofC ofI
def boC (g a b c : FR) (h : Bool) (t : FR) (m : Int) (h2 : Bool) (t2 : FR) (m2 : Int) : Int:=if ofC g a b c h t m = 0 then ofC g a b c h2 t2 m2 else ofC g a b c h t m
def boI (g a b c : FR) (h : Bool) (t : FR) (m : Int) (h2 : Bool) (t2 : FR) (m2 : Int) : Int:=if boC g a b c h t m h2 t2 m2 = 0 then ofI g a b c h t m else 0
def boK (g a b c : FR) (h : Bool) (t : FR) (m : Int) (h2 : Bool) (t2 : FR) (m2 : Int) : Int:=if boC g a b c h t m h2 t2 m2 = 0 then ofI g a b c h2 t2 m2 else 0
end Go.Proofs.YtnjbcjmkkejfpaaGreatDoor
set_option linter.unusedVariables false
set_option linter.unusedSimpArgs false
set_option maxHeartbeats 4000000
set_option maxRecDepth 100000
set_option synthInstance.maxSize 100000
set_option synthInstance.maxHeartbeats 400000
namespace Go.Proofs.YtnjbcjmkkejfpaaGreatDoor
open Go.RowKit (Below)
attribute [local irreducible] Go.Code.wp Go.wpList Go.bodyPost
attribute [local irreducible] barC trnC btC ciF dsc enR enL cirs exC ofC ofI dirC dirS
theorem shortR_t {r : FR} (h : (decide (((r.p.length : Nat) : Int) > 2) || decide (((r.q.length : Nat) : Int) > 2)) = true) : shortR r = false:=by
  simp only [Bool.or_eq_true,decide_eq_true_eq] at h
  exact shortR_not (by omega)
theorem shortR_f {r : FR} (h : (decide (((r.p.length : Nat) : Int) > 2) || decide (((r.q.length : Nat) : Int) > 2)) = false) : shortR r = true:=by
  simp only [Bool.or_eq_false_iff,decide_eq_false_iff_not] at h
  exact shortR_of (by omega) (by omega)
theorem w63 {n : Nat} {x : Rat} : Con Tryz.prog 63 [QV n x] (n ≤ BIG) (BT (decide (x.num.sign = 0))):=.o1 fun hok h1 hp=>by
  refine St.enter (N:=6) Tryz.func63 rfl rfl rfl hok (enter1 h1) fun a=>?_
  repeat' (first|((with_reducible refine gS_ ?_);first|((with_reducible refine gL_ ?_);first|refine W.run ?_ fun a w G=>?_|refine W.mv fun a w G=>?_|refine W.asg fun a w G=>?_|refine W.bx fun b a w G=>?_|(refine W.nn hK ?_;clear hK K)|refine W.nl ?_|refine W.al fun b a w G=>?_|refine W.st fun w=>?_|refine W.stp fun w=>?_|refine W.ste ?_ fun w=>?_)|((with_reducible refine gC_ ?_);first|refine W.reg fun K hK=>?_|refine W.reg1 ?_|refine W.sq fun K hK=>?_|refine W.ds ?_ (fun β a w G hu=>W.fin ?_ hu) mixedOrders (by kernel_rfl)|refine W.sk ?_|refine W.cd (fun hc=>?_) (fun hc=>?_)|refine W.cb (fun hc=>?_) (fun hc=>?_)|refine W.bl ?_|refine W.ex ?_|refine W.rt ?_)|((with_reducible refine W.kn hK ?_);clear hK K)|(with_reducible first|refine W.bn ?_|refine W.xt ?_|refine W.xb ?_|refine W.xo ?_|refine W.tr ?_|refine W.br ?_)|refine W.rt1 rfl ?_|refine W.rt2 rfl ?_ ?_|refine W.rt3 rfl ?_ ?_ ?_)|clear hK K|clear hu|exact True.intro|exact Nat.le_trans (by clear hp;omega) hp|exact Nat.le_trans (by clear hp;omega) hp.1|exact Nat.le_trans (by clear hp;omega) hp.2|(clear hp;omega)|apply And.intro|refine GI.i fun _=>?_|with_reducible rfl|decide|(simp only [List.length_cons,List.length_nil];omega))
instance iK5_99 {n : Nat} {x : Rat} {τ1 : MT} [j1 : NQ τ1 (QV n x)] : Con Tryz.prog 63 [τ1] (n ≤ BIG) (BT (decide (x.num.sign = 0))):=.o1 fun hok h1 hp=>w63.c1 hok (j1.h h1) hp
theorem w15 {m : Nat} {t : FR} {h : Bool} : Con Tryz.prog 15 [TRN m t h] (10000 * m + 100000 ≤ BIG) (BT (trnF h t)):=.o1 fun hok h1 hp=>by
  refine St.enter (N:=16) Tryz.func15 rfl rfl rfl hok (enter1 h1) fun a=>?_
  repeat' (first|((with_reducible refine gS_ ?_);first|((with_reducible refine gL_ ?_);first|refine W.run ?_ fun a w G=>?_|refine W.mv fun a w G=>?_|refine W.asg fun a w G=>?_|refine W.bx fun b a w G=>?_|(refine W.nn hK ?_;clear hK K)|refine W.nl ?_|refine W.al fun b a w G=>?_|refine W.st fun w=>?_|refine W.stp fun w=>?_|refine W.ste ?_ fun w=>?_)|((with_reducible refine gC_ ?_);first|refine W.reg fun K hK=>?_|refine W.reg1 ?_|refine W.sq fun K hK=>?_|refine W.ds ?_ (fun β a w G hu=>W.fin ?_ hu) mixedOrders (by kernel_rfl)|refine W.sk ?_|refine W.cd (fun hc=>?_) (fun hc=>?_)|refine W.cb (fun hc=>?_) (fun hc=>?_)|refine W.bl ?_|refine W.ex ?_|refine W.rt ?_)|((with_reducible refine W.kn hK ?_);clear hK K)|(with_reducible first|refine W.bn ?_|refine W.xt ?_|refine W.xb ?_|refine W.xo ?_|refine W.tr ?_|refine W.br ?_)|refine W.rt1 rfl ?_|refine W.rt2 rfl ?_ ?_|refine W.rt3 rfl ?_ ?_ ?_)|clear hK K|clear hu|exact True.intro|exact Nat.le_trans (by clear hp;omega) hp|exact Nat.le_trans (by clear hp;omega) hp.1|exact Nat.le_trans (by clear hp;omega) hp.2|(clear hp;omega)|apply And.intro|refine GI.i fun _=>?_|with_reducible rfl|decide|(simp only [List.length_cons,List.length_nil];omega))
  all_goals (unfold trnF;grind)
instance iK5_100 {m : Nat} {t : FR} {h : Bool} {τ1 : MT} [j1 : NF τ1 (TRN m t h)] : Con Tryz.prog 15 [τ1] (10000 * m + 100000 ≤ BIG) (BT (trnF h t)):=.o1 fun hok h1 hp=>w15.c1 hok (j1.h h1) hp
theorem w11 {rg ra rb rc : FR} : Con Tryz.prog 11 [PTS [(some 3,RX rg),(some 3,RX ra),(some 3,RX rb),(some 3,RX rc)]] (True) (BT ([rg,ra,rb,rc].all shortR)):=.o1 fun hok h1 hp=>by
  refine St.enter (N:=30) Tryz.func11 rfl rfl rfl hok (enter1 h1) fun a=>?_
  repeat' (first|((with_reducible refine gS_ ?_);first|((with_reducible refine gL_ ?_);first|refine W.run ?_ fun a w G=>?_|refine W.mv fun a w G=>?_|refine W.asg fun a w G=>?_|refine W.bx fun b a w G=>?_|(refine W.nn hK ?_;clear hK K)|refine W.nl ?_|refine W.al fun b a w G=>?_|refine W.st fun w=>?_|refine W.stp fun w=>?_|refine W.ste ?_ fun w=>?_)|((with_reducible refine gC_ ?_);first|refine W.reg fun K hK=>?_|refine W.reg1 ?_|refine W.sq fun K hK=>?_|refine W.ds ?_ (fun β a w G hu=>W.fin ?_ hu) mixedOrders (by kernel_rfl)|refine W.sk ?_|refine W.cd (fun hc=>?_) (fun hc=>?_)|refine W.cb (fun hc=>?_) (fun hc=>?_)|refine W.bl ?_|refine W.ex ?_|refine W.rt ?_)|((with_reducible refine W.kn hK ?_);clear hK K)|(with_reducible first|refine W.bn ?_|refine W.xt ?_|refine W.xb ?_|refine W.xo ?_|refine W.tr ?_|refine W.br ?_)|refine W.rt1 rfl ?_|refine W.rt2 rfl ?_ ?_|refine W.rt3 rfl ?_ ?_ ?_)|refine W.lp 16 (α:=Nat) (fun j=>4 - j) (fun j=>j ≤ 4 ∧ ([rg,ra,rb,rc].take j).all shortR = true) [2,4,13,14,15,16,17,18,19,20,21,22,23,24,25,26,27,28,29] (fun j=>[(15,NT j),(14,NT 4),(13,LS (some 3) ([rg,ra,rb,rc].map RX))]) (fun j=>[]) (0) ?_ ?_ ?_ fun j hj a w G=>?_|refine W.ag (x:=j) (j+1) ?_ ?_ ?_ ?_|clear hK K|clear hu|exact True.intro|exact Nat.le_trans (by clear hp;omega) hp|exact Nat.le_trans (by clear hp;omega) hp.1|exact Nat.le_trans (by clear hp;omega) hp.2|(clear hp;omega)|apply And.intro|refine GI.i fun _=>?_|with_reducible rfl|decide|(simp only [List.length_cons,List.length_nil];omega))
  all_goals first | rfl | exact (all_not (show j < 4 by omega) (shortR_t hc)).symm | exact all_snoc (show j < 4 by omega) hj.2 (shortR_f hc) | exact (all_end (show ¬ j < 4 by omega) hj.2).symm
instance iK5_104 {rg ra rb rc : FR} {τ1 : MT} [j1 : NR τ1 (PTS [(some 3,RX rg),(some 3,RX ra),(some 3,RX rb),(some 3,RX rc)])] : Con Tryz.prog 11 [τ1] (True) (BT ([rg,ra,rb,rc].all shortR)):=.o1 fun hok h1 hp=>w11.c1 hok (j1.h h1) hp
end Go.Proofs.YtnjbcjmkkejfpaaGreatDoor
set_option linter.unusedVariables false
set_option linter.unusedSimpArgs false
namespace Go.Proofs.YtnjbcjmkkejfpaaGreatDoor
open Go.RowKit (Below)
class Gnd (ρ : MT) : Prop where
  h : ∀ {v : Value} {G G' : Gh},ρ.t v G → ρ.t v G'
instance Gnd.e {x : Value} : Gnd (.ex x):=⟨fun h=>h⟩
instance Gnd.t2 {τ σ : MT} [h : Gnd τ] [k : Gnd σ] : Gnd (.tup2 τ σ):=⟨fun ⟨x,y,e,h1,h2⟩=>⟨x,y,e,h.h h1,k.h h2⟩⟩
instance Gnd.t3 {τ σ ρ : MT} [h : Gnd τ] [k : Gnd σ] [l : Gnd ρ] : Gnd (.tup3 τ σ ρ):=⟨fun ⟨x,y,z,e,h1,h2,h3⟩=>⟨x,y,z,e,h.h h1,k.h h2,l.h h3⟩⟩
section
variable {P : Program} {W0 : World} {a : Act} {w : World} {G : Gh} {o : Oper} {ρ : MT}
theorem OpR.lendG {f b : Nat} {ty : TypeId} {k : Option Nat} {τ : MT} {args : Array Operand} {ats : Array TypeId} (hok : Gok w G) (ho : o.op = .call { callee := .value (.func f), args := args, argTypes := ats }) (hc : callable P f = true) (hg : Gnd ρ)
    (hb : BX.ok ⟨b,ty,k,τ⟩ W0 w G) (h : ∀ G1 v,Gle G G1 → Gok w G1 → Shaped k v → τ.t v G → G1 b = some (.cells v.cells ty (0,0)) → Calls P f (args.map a.eval) w (Ret w G1 ρ)) : OpR P o a w G ρ:=by
  obtain ⟨h1,h2,v,hv,hs,hvt⟩:=hb
  simp only at h1 h2 hv hs hvt
  have hle : Gle G (Gput G b (.cells v.cells ty (0,0))):=fun c x hc=>by
    unfold Gput;split
    · rename_i e;subst e;rw [h2] at hc;cases hc
    · exact hc
  have hok1 : Gok w (Gput G b (.cells v.cells ty (0,0))):=fun c x hc=>by
    unfold Gput at hc;split at hc
    · rename_i e;subst e;cases hc;exact hv
    · exact hok c x hc
  have hcall:=h _ v hle hok1 hs hvt (by simp [Gput])
  intro Q K hK
  have hr : (execOp a.eval o).run P w = .ok (.enter f (args.map a.eval)) w:=by
    simp [execOp,ho,resolve,Act.eval,Deferred.ofValue,invoke,run_callFunc hc]
  unfold Oper.wp
  rw [hr]
  refine Calls.mono hcall fun e w' he=>?_
  obtain ⟨u,G',rfl,hu,hN⟩:=he
  refine hK u w' (fun c=>if c = b then none else G' c) (hg.h hu) ⟨hN.below,fun c hc=>?_,fun c x hc=>?_,fun c x hc=>?_⟩
  · by_cases e : c = b
    · subst e;simp [h2]
    · simp only [if_neg e];rw [hN.agree c hc];unfold Gput;rw [if_neg e]
  · have e : c ≠ b:=fun e=>by rw [e,h2] at hc;cases hc
    simp only [if_neg e]
    exact hN.le c x (hle c x hc)
  · by_cases e : c = b
    · subst e;simp at hc
    · simp only [if_neg e] at hc;exact hN.ok c x hc
end
theorem Args.mono {G G' : Gh} (hle : Gle G G') : ∀ {vs : List Value} {τs : List MT},Args vs τs G → Args vs τs G'
  | [],[],_=>trivial
  | _ :: _,τ :: _,h=>⟨τ.mono hle h.1,Args.mono hle h.2⟩
  | [],_ :: _,h=>h.elim
  | _ :: _,[],h=>h.elim
class OpdX (L : List (Nat × MT)) (B : List BX) (xs : List Operand) (τs : outParam (List MT)) (u : outParam (List Nat)) (i : outParam Nat) (pre : outParam Prop) : Prop where
  h : ∃ xb,B[i]? = some xb ∧ ∀ {a : Act} {G G1 : Gh} {v : Value},pre → Env L u a G → Gle G G1 → Shaped xb.k v → xb.τ.t v G → G1 xb.b = some (.cells v.cells xb.ty (0,0)) → Args (xs.map a.eval) τs G1
section
variable {P : Program} {L : List (Nat × MT)} {B : List BX} {x : Operand} {ys : List Operand} {u v : List Nat} {t ty : TypeId} {τ τb ρ : MT} {τs : List MT} {n nn c b i f : Nat} {k : Option Nat} {α : Type} {T : α → MT} {xs : List α} {pre p2 : Prop} {ats : Array TypeId}
instance OpdX.hd [h : Opd L x (OSL b n c) u] [hb : Bx B b i ty (some nn) τb] [r : AsR τb k α T xs] [l : OpdL L ys τs v] : OpdX L B (x :: ys) (LS k (xs.map T) :: τs) (u ++ v) i (n = xs.length ∧ n ≤ c ∧ n ≤ LIM):=⟨_,hb.m,fun hp e hle hs ht hG =>
  ⟨ROWS.sl (r.h (MT.mono _ hle ht)) hG (by rw [List.length_map];exact hp.1) hp.2.1 hp.2.2 (h.h e.l),Args.mono hle (l.h e.r)⟩⟩
instance OpdX.tl [h : Opd L x τ u] [l : OpdX L B ys τs v i pre] : OpdX L B (x :: ys) (τ :: τs) (u ++ v) i pre:=by
  obtain ⟨xb,h1,h2⟩:=l.h
  exact ⟨xb,h1,fun hp e hle hs ht hG=>⟨τ.mono hle (h.h e.l),h2 hp e.r hle hs ht hG⟩⟩
instance (priority:=400) Op1.lend [h : OpdX L B ys τs u i p2] [c : Con P f τs pre ρ] [g : Gnd ρ] [kb : Cb P f] : Op1 P L B (.call { callee:=.value (.func f),args:=ys.toArray,argTypes:=ats }) (p2 ∧ pre) ρ (u ++ [1000000 + i]):=⟨fun ho hok e hB hp=>by
  obtain ⟨xb,h1,h2⟩:=h.h
  exact .lendG hok ho kb.h g (hB i xb (by simp) h1) fun G1 v hle hok1 hs ht hG=>by
    rw [List.map_toArray]
    exact c.h hok1 (h2 hp.1 e.l hle hs ht hG) hp.2⟩
instance Op1.sla [e : ArE P t n k] [h : Opd L x (PB b) u] : Op1 P L B (.slice t x none none none) (0 < n) (OSL b n n) u:=⟨fun ho hok e' _ hp=>by
  obtain ⟨e0,h3,h4⟩:=e.h
  exact .slAr hok ho h3 h4 (h.h e') (decide_eq_true hp) rfl⟩
instance LitN.add {z z' : Int} {m m' : Nat} [h : LitN z m] [h' : LitN z' m'] : LitN (z + z') (m + m'):=⟨by rw [h.h,h'.h];omega⟩
instance LitN.mul {z z' : Int} {m m' : Nat} [h : LitN z m] [h' : LitN z' m'] : LitN (z * z') (m * m'):=⟨by rw [h.h,h'.h];exact (Int.natCast_mul _ _).symm⟩
variable {y : Operand} {t' : TypeId} {z z' : Int} {m m' j : Nat}
instance Op1.quoN [h : Opd L x (IT z) u] [h2 : Opd L y (IT z') v] [l : LitN z m] [l' : LitN z' m'] : Op1 P L B (.binOp .quo t x y t') (m' ≠ 0 ∧ m ≤ 9223372036854775807) (NT (m / m')) (u ++ v):=⟨fun ho hok e _ hp=>by
  obtain rfl:=l.h;obtain rfl:=l'.h
  exact .nquo hok ho (h.h e.l) (h2.h e.r) hp.1 (i64_w ⟨Int.le_trans (by decide) (Int.natCast_nonneg _),Int.ofNat_le.2 (Nat.le_trans (Nat.div_le_self m m') hp.2)⟩) rfl⟩
instance Op1.remN [h : Opd L x (IT z) u] [h2 : Opd L y (IT z') v] [l : LitN z m] [l' : LitN z' m'] : Op1 P L B (.binOp .rem t x y t') (m' ≠ 0) (NT (m % m')) (u ++ v):=⟨fun ho hok e _ hp=>by
  obtain rfl:=l.h;obtain rfl:=l'.h
  exact .nrem hok ho (h.h e.l) (h2.h e.r) hp rfl⟩
instance Op1.shlN [h : Opd L x (IT z) u] [h2 : Opd L y (IT z') v] [l : LitN z m] [l' : LitN z' m'] : Op1 P L B (.binOp .shl t x y t') (m' < 64 ∧ m * 2 ^ m' ≤ 9223372036854775807) (NT (m * 2 ^ m')) (u ++ v):=⟨fun ho hok e _ hp=>by
  obtain rfl:=l.h;obtain rfl:=l'.h
  refine .shl hok ho (h.h e.l) (h2.h e.r) (by omega) ?_
  have e1 : (min ((m' : Int).toNat) IntKind.i64.bits) = m':=by simp only [Int.toNat_natCast,IntKind.bits];omega
  have e2 : ((m : Int) * 2 ^ m') = ((m * 2 ^ m' : Nat) : Int):=by simp
  rw [e1,e2,i64_w ⟨by omega,by omega⟩];rfl⟩
instance Op1.maxN [h : Opd L x (IT z) u] [h2 : Opd L y (IT z') v] [l : LitN z m] [l' : LitN z' m'] : Op1 P L B (.call { callee:=.builtin .max,args:=#[x,y],argTypes:=ats }) True (NT (max m m')) (u ++ v):=⟨fun ho hok e _ hp=>by
  obtain rfl:=l.h;obtain rfl:=l'.h
  exact .nmax hok ho (h.h e.l) (h2.h e.r) rfl⟩
class LsOf (τ : MT) (k : Option Nat) (α : outParam Type) (T : outParam (α → MT)) (xs : outParam (List α)) : Prop where
  h : ∀ {v : Value} {G : Gh},τ.t v G → (LS k (xs.map T)).t v G
instance LsOf.ll : LsOf (LS k (xs.map T)) k α T xs:=⟨fun h=>h⟩
instance LsOf.lc : LsOf (LSC k (xs.map T)) k α T xs:=⟨fun h=>h.1⟩
instance Op1.cutHiM [s : SlE P t k] [h : Opd L x τ u] [l : LsOf τ k α T xs] [h2 : Opd L y (IT z) v] [lz : LitN z j] : Op1 P L B (.slice t x none (some y) none) (j ≤ xs.length) (LS k ((xs.take j).map T)) (u ++ v):=⟨fun ho hok e _ hp=>by
  obtain ⟨e',h3,h4⟩:=s.h
  exact .cutHiM hok ho h3 h4 (l.h (h.h e.l)) (h2.h e.r) lz.h hp⟩
instance Op1.cutLoM [s : SlE P t k] [h : Opd L x τ u] [l : LsOf τ k α T xs] [h2 : Opd L y (IT z) v] [lz : LitN z j] : Op1 P L B (.slice t x (some y) none none) (j ≤ xs.length) (LS k ((xs.drop j).map T)) (u ++ v):=⟨fun ho hok e _ hp=>by
  obtain ⟨e',h3,h4⟩:=s.h
  exact .cutLoM hok ho h3 h4 (l.h (h.h e.l)) (h2.h e.r) lz.h hp⟩
instance Op1.cutLHM {y2 : Operand} {z2 : Int} {j2 : Nat} {v2 : List Nat} [s : SlE P t k] [h : Opd L x τ u] [l : LsOf τ k α T xs] [h2 : Opd L y (IT z) v] [lz : LitN z j] [h3 : Opd L y2 (IT z2) v2] [lz2 : LitN z2 j2] : Op1 P L B (.slice t x (some y) (some y2) none) (j ≤ j2 ∧ j2 ≤ xs.length) (LS k (((xs.take j2).drop j).map T)) (u ++ (v ++ v2)):=⟨fun ho hok e _ hp=>by
  obtain ⟨e',h4,h5⟩:=s.h
  exact .cutLHM hok ho h4 h5 (l.h (h.h e.l)) (h2.h e.r.l) lz.h (h3.h e.r.r) lz2.h hp.1 hp.2⟩
instance (priority:=1100) Op1.lenC [s : SlE P t k] [h : Opd L x (LSC k (xs.map T)) u] : Op1 P L B (.call { callee:=.builtin .len,args:=#[x],argTypes:=#[t] }) True (NT xs.length) u:=⟨fun ho hok e _ _=>by obtain ⟨e',h1,h2⟩:=s.h;exact .lenM hok ho h1 (h.h e).1 rfl⟩
instance Op1.ixMC [Inhabited α] [s : SlE P t k] [h : Opd L x (LSC k (xs.map T)) u] [h2 : Opd L y (IT z) v] : Op1 P L B (.indexAddr t x y) (0 ≤ z ∧ z < xs.length) (PE k (T (xs.getD z.toNat default))) (u ++ v):=⟨fun ho hok e _ hp=>by
  obtain ⟨e',h3,h4⟩:=s.h
  exact .ixM hok ho h3 h4 (h.h e.l).1 (h2.h e.r) (i:=z.toNat) (by omega) (by omega)⟩
instance (priority:=1100) Op1.ixMCN [Inhabited α] [s : SlE P t k] [h : Opd L x (LSC k (xs.map T)) u] [h2 : Opd L y (NT j) v] : Op1 P L B (.indexAddr t x y) (j < xs.length) (PE k (T (xs.getD j default))) (u ++ v):=⟨fun ho hok e _ hp=>by
  obtain ⟨e',h3,h4⟩:=s.h
  exact .ixM hok ho h3 h4 (h.h e.l).1 (h2.h e.r) rfl hp⟩
end
section
variable {fs : List (Option Nat × MT)} {n i : Nat} {τ τ' : MT} {k kt : Option Nat}
instance (priority:=500) PrtL.s5 [h : PrtL fs i kt τ] : PrtL ((some 5,τ') :: fs) (i + 5) kt τ:=h.skip rfl
instance (priority:=500) UpdL.s5 {fs' : List (Option Nat × MT)} [h : UpdL fs i kt τ fs'] : UpdL ((some 5,τ') :: fs) (i + 5) kt τ ((some 5,τ') :: fs'):=h.skip rfl
instance ShN.s7 [h : ShN fs n] : ShN ((some 7,τ) :: fs) (n + 7):=⟨by rw [offs_cons,h.h];simp;omega⟩
instance (priority:=500) PrtL.s7 [h : PrtL fs i kt τ] : PrtL ((some 7,τ') :: fs) (i + 7) kt τ:=h.skip rfl
instance (priority:=500) UpdL.s7 {fs' : List (Option Nat × MT)} [h : UpdL fs i kt τ fs'] : UpdL ((some 7,τ') :: fs) (i + 7) kt τ ((some 7,τ') :: fs'):=h.skip rfl
instance ShN.s8 [h : ShN fs n] : ShN ((some 8,τ) :: fs) (n + 8):=⟨by rw [offs_cons,h.h];simp;omega⟩
instance (priority:=500) PrtL.s8 [h : PrtL fs i kt τ] : PrtL ((some 8,τ') :: fs) (i + 8) kt τ:=h.skip rfl
instance (priority:=500) UpdL.s8 {fs' : List (Option Nat × MT)} [h : UpdL fs i kt τ fs'] : UpdL ((some 8,τ') :: fs) (i + 8) kt τ ((some 8,τ') :: fs'):=h.skip rfl
instance ShN.s9 [h : ShN fs n] : ShN ((some 9,τ) :: fs) (n + 9):=⟨by rw [offs_cons,h.h];simp;omega⟩
instance (priority:=500) PrtL.s9 [h : PrtL fs i kt τ] : PrtL ((some 9,τ') :: fs) (i + 9) kt τ:=h.skip rfl
instance (priority:=500) UpdL.s9 {fs' : List (Option Nat × MT)} [h : UpdL fs i kt τ fs'] : UpdL ((some 9,τ') :: fs) (i + 9) kt τ ((some 9,τ') :: fs'):=h.skip rfl
instance ShN.s10 [h : ShN fs n] : ShN ((some 10,τ) :: fs) (n + 10):=⟨by rw [offs_cons,h.h];simp;omega⟩
instance (priority:=500) PrtL.s10 [h : PrtL fs i kt τ] : PrtL ((some 10,τ') :: fs) (i + 10) kt τ:=h.skip rfl
instance (priority:=500) UpdL.s10 {fs' : List (Option Nat × MT)} [h : UpdL fs i kt τ fs'] : UpdL ((some 10,τ') :: fs) (i + 10) kt τ ((some 10,τ') :: fs'):=h.skip rfl
instance ShN.s12 [h : ShN fs n] : ShN ((some 12,τ) :: fs) (n + 12):=⟨by rw [offs_cons,h.h];simp;omega⟩
instance (priority:=500) PrtL.s12 [h : PrtL fs i kt τ] : PrtL ((some 12,τ') :: fs) (i + 12) kt τ:=h.skip rfl
instance (priority:=500) UpdL.s12 {fs' : List (Option Nat × MT)} [h : UpdL fs i kt τ fs'] : UpdL ((some 12,τ') :: fs) (i + 12) kt τ ((some 12,τ') :: fs'):=h.skip rfl
instance ShN.s13 [h : ShN fs n] : ShN ((some 13,τ) :: fs) (n + 13):=⟨by rw [offs_cons,h.h];simp;omega⟩
instance (priority:=500) PrtL.s13 [h : PrtL fs i kt τ] : PrtL ((some 13,τ') :: fs) (i + 13) kt τ:=h.skip rfl
instance (priority:=500) UpdL.s13 {fs' : List (Option Nat × MT)} [h : UpdL fs i kt τ fs'] : UpdL ((some 13,τ') :: fs) (i + 13) kt τ ((some 13,τ') :: fs'):=h.skip rfl
instance ShN.s14 [h : ShN fs n] : ShN ((some 14,τ) :: fs) (n + 14):=⟨by rw [offs_cons,h.h];simp;omega⟩
instance (priority:=500) PrtL.s14 [h : PrtL fs i kt τ] : PrtL ((some 14,τ') :: fs) (i + 14) kt τ:=h.skip rfl
instance (priority:=500) UpdL.s14 {fs' : List (Option Nat × MT)} [h : UpdL fs i kt τ fs'] : UpdL ((some 14,τ') :: fs) (i + 14) kt τ ((some 14,τ') :: fs'):=h.skip rfl
instance ShN.s15 [h : ShN fs n] : ShN ((some 15,τ) :: fs) (n + 15):=⟨by rw [offs_cons,h.h];simp;omega⟩
instance (priority:=500) PrtL.s15 [h : PrtL fs i kt τ] : PrtL ((some 15,τ') :: fs) (i + 15) kt τ:=h.skip rfl
instance (priority:=500) UpdL.s15 {fs' : List (Option Nat × MT)} [h : UpdL fs i kt τ fs'] : UpdL ((some 15,τ') :: fs) (i + 15) kt τ ((some 15,τ') :: fs'):=h.skip rfl
instance ShN.s16 [h : ShN fs n] : ShN ((some 16,τ) :: fs) (n + 16):=⟨by rw [offs_cons,h.h];simp;omega⟩
instance (priority:=500) PrtL.s16 [h : PrtL fs i kt τ] : PrtL ((some 16,τ') :: fs) (i + 16) kt τ:=h.skip rfl
instance (priority:=500) UpdL.s16 {fs' : List (Option Nat × MT)} [h : UpdL fs i kt τ fs'] : UpdL ((some 16,τ') :: fs) (i + 16) kt τ ((some 16,τ') :: fs'):=h.skip rfl
instance ShN.s18 [h : ShN fs n] : ShN ((some 18,τ) :: fs) (n + 18):=⟨by rw [offs_cons,h.h];simp;omega⟩
instance (priority:=500) PrtL.s18 [h : PrtL fs i kt τ] : PrtL ((some 18,τ') :: fs) (i + 18) kt τ:=h.skip rfl
instance (priority:=500) UpdL.s18 {fs' : List (Option Nat × MT)} [h : UpdL fs i kt τ fs'] : UpdL ((some 18,τ') :: fs) (i + 18) kt τ ((some 18,τ') :: fs'):=h.skip rfl
instance ShN.s20 [h : ShN fs n] : ShN ((some 20,τ) :: fs) (n + 20):=⟨by rw [offs_cons,h.h];simp;omega⟩
instance (priority:=500) PrtL.s20 [h : PrtL fs i kt τ] : PrtL ((some 20,τ') :: fs) (i + 20) kt τ:=h.skip rfl
instance (priority:=500) UpdL.s20 {fs' : List (Option Nat × MT)} [h : UpdL fs i kt τ fs'] : UpdL ((some 20,τ') :: fs) (i + 20) kt τ ((some 20,τ') :: fs'):=h.skip rfl
end
end Go.Proofs.YtnjbcjmkkejfpaaGreatDoor
set_option linter.unusedVariables false
set_option linter.unusedSimpArgs false
namespace Go.Proofs.YtnjbcjmkkejfpaaGreatDoor
open Go.RowKit (Below)
abbrev NM (n : Nat) (l : List Rat) : MT:=LS (some 3) (l.map (QC n))
abbrev TWR (n : Nat) (rs : List (List Rat)) : MT:=PTS [(none,LS none (rs.map (NM n)))]
abbrev BPT (n : Nat) (x : Int × List Rat × List Rat) : MT:=PTS [(none,IT x.1),(some 2,PTS [(none,NM n x.2.1),(none,NM n x.2.2)])]
theorem LS.shn {k : Option Nat} {τs : List MT} {v : Value} {G : Gh} (h : (LS k τs).t v G) : Shaped none v:=by obtain ⟨A,c,rfl,_⟩:=h;exact ⟨rfl,rfl⟩
instance {k : Option Nat} {τs : List MT} : ShK (LS k τs) none:=⟨LS.shn⟩
instance {k : Option Nat} {τs : List MT} : ShK (LSC k τs) none:=⟨fun h=>LS.shn h.1⟩
class Fit {α : Type} (τ : MT) (T : α → MT) (x : outParam α) (p : outParam Prop) : Prop where
  h : p → ∀ {v : Value} {G : Gh},τ.t v G → (T x).t v G
class FitL {α : Type} (τs : List MT) (T : α → MT) (xs : outParam (List α)) (p : outParam Prop) : Prop where
  h : p → τs.length = xs.length ∧ ∀ (i : Nat) (τ : MT),τs[i]? = some τ → ∃ x,xs[i]? = some x ∧ ∀ {v : Value} {G : Gh},τ.t v G → (T x).t v G
section
variable {α : Type} {T : α → MT} {τ τ' : MT} {τs : List MT} {x : α} {xs ys : List α} {p p' : Prop} {b c : Nat} {k : Option Nat}
instance (priority:=500) Fit.of [h : AsT τ T x] : Fit τ T x True:=⟨fun _ _ _ hv=>h.h hv⟩
instance Fit.q {z : Rat} : Fit (QC c z) (QC b) z (c ≤ b):=⟨fun e _ _ h=>QC.up h e⟩
instance FitL.nil : FitL [] T [] True:=⟨fun _=>⟨rfl,fun i τ h=>by simp at h⟩⟩
instance FitL.cons [h : Fit τ T x p] [l : FitL τs T xs p'] : FitL (τ :: τs) T (x :: xs) (p ∧ p'):=⟨fun e=>⟨by simp [(l.h e.2).1],fun i σ hi=>by
  cases i with
  | zero=>cases hi;exact ⟨x,rfl,h.h e.1⟩
  | succ i=>exact (l.h e.2).2 i σ (by simpa using hi)⟩⟩
class FitM {β : Type} (U : β → MT) (T : α → MT) (f : outParam (β → α)) (p : outParam Prop) : Prop where
  h : p → ∀ {y : β} {v : Value} {G : Gh},(U y).t v G → (T (f y)).t v G
instance (priority:=600) FitL.m {β : Type} {U : β → MT} {f : β → α} {zs : List β} [h : FitM U T f p] : FitL (zs.map U) T (zs.map f) p:=⟨fun e=>⟨by simp,fun i τ hi=>by
  rw [List.getElem?_map] at hi
  cases hz : zs[i]? with
  | none=>rw [hz] at hi;cases hi
  | some z=>rw [hz] at hi;cases hi;exact ⟨f z,by simp [hz],fun hv=>h.h e hv⟩⟩⟩
instance FitL.q {zs : List Rat} : FitL (zs.map (QC c)) (QC b) zs (c ≤ b):=⟨fun e=>⟨by simp,fun i τ hi=>by
  rw [List.getElem?_map] at hi
  cases hz : zs[i]? with
  | none=>rw [hz] at hi;cases hi
  | some z=>rw [hz] at hi;cases hi;exact ⟨z,rfl,fun hv=>QC.up hv e⟩⟩⟩
theorem FitL.ls (l : FitL τs T xs p) (e : p) {v : Value} {G : Gh} (h : (LS k τs).t v G) : (LS k (xs.map T)).t v G:=AsTL.ls ⟨(l.h e).1,fun i τ hi=>(l.h e).2 i τ hi⟩ h
class LsQ (τ : MT) (τs : outParam (List MT)) : Prop where
  h : ∀ {v : Value} {G : Gh},τ.t v G → (LS (some 3) τs).t v G
instance LsQ.l : LsQ (LS (some 3) τs) τs:=⟨fun h=>h⟩
instance LsQ.lc : LsQ (LSC (some 3) τs) τs:=⟨fun h=>h.1⟩
instance LsQ.n : LsQ (.ex (.slice none 0 0)) []:=⟨fun h=>by cases h;exact LS.nil⟩
instance Fit.nm {l : List Rat} [a : LsQ τ τs] [h : FitL τs (QC b) l p] : Fit τ (NM b) l p:=⟨fun e _ _ hv=>h.ls e (a.h hv)⟩
instance Fit.bp {z : Int} {τ1 τ2 : MT} {l1 l2 : List Rat} {p1 p2 : Prop} [h1 : Fit τ1 (NM b) l1 p1] [h2 : Fit τ2 (NM b) l2 p2] : Fit (PTS [(none,IT z),(some 2,PTS [(none,τ1),(none,τ2)])]) (BPT b) (z,l1,l2) (p1 ∧ p2):=⟨fun e v G hv=>by
  obtain ⟨us,e1,a1,a2⟩:=hv
  refine ⟨us,e1,a1,fun i f u hf hu=>?_⟩
  match i,hf with
  | 0,hf=>exact a2 0 _ u (by cases hf;rfl) hu
  | 1,hf =>
    cases hf
    obtain ⟨b1,us2,e2,c1,c2⟩:=a2 1 _ u rfl hu
    refine ⟨b1,us2,e2,c1,fun j g y hg hy=>?_⟩
    match j,hg with
    | 0,hg=>cases hg;obtain ⟨d1,d2⟩:=c2 0 _ y rfl hy;exact ⟨d1,h1.h e.1 d2⟩
    | 1,hg=>cases hg;obtain ⟨d1,d2⟩:=c2 1 _ y rfl hy;exact ⟨d1,h2.h e.2 d2⟩⟩
instance (priority:=900) Cv.fit {xs ys : List α} [h : FitL τs T xs p] : Cv (LSC k τs) (LS k (ys.map T)) (p ∧ xs = ys):=⟨fun e v G hv=>by
  obtain ⟨e1,rfl⟩:=e;exact h.ls e1 hv.1⟩
instance (priority:=900) Cv.fitl {xs ys : List α} [h : FitL τs T xs p] : Cv (LS k τs) (LS k (ys.map T)) (p ∧ xs = ys):=⟨fun e v G hv=>by
  obtain ⟨e1,rfl⟩:=e;exact h.ls e1 hv⟩
class NU (τ : MT) (τ' : outParam MT) : Prop where
  h : ∀ {v : Value} {G : Gh},τ.t v G → τ'.t v G
theorem LS.els {v : Value} {G : Gh} (h : (LS k τs).t v G) {σs : List MT} (hl : τs.length = σs.length) (f : ∀ (i : Nat) (τ σ : MT),τs[i]? = some τ → σs[i]? = some σ → ∀ {v : Value},τ.t v G → σ.t v G) : (LS k σs).t v G:=by
  obtain ⟨A,c',h1,h2,h3,h4⟩:=h
  refine ⟨A,c',by rw [h1,hl],by rw [← hl];exact h2,by rw [← hl];exact h3,fun i σ hi=>?_⟩
  have hlt : i < τs.length:=by rw [hl];exact (List.getElem?_eq_some_iff.1 hi).1
  obtain ⟨b,off,e3,e4⟩:=h4 i τs[i] (List.getElem?_eq_getElem hlt)
  exact ⟨b,off,e3,e4.cv (f i _ σ (List.getElem?_eq_getElem hlt) hi)⟩
class Grow {α : Type} (T : Nat → α → MT) : Prop where
  h : ∀ {n m : Nat} {x : α} {v : Value} {G : Gh},(T n x).t v G → n ≤ m → (T m x).t v G
instance : Grow QC:=⟨QC.up⟩
class Rdn {α : Type} (τ : MT) (T : Nat → α → MT) (n : outParam Nat) (x : outParam α) : Prop where
  h : ∀ {v : Value} {G : Gh},τ.t v G → (T n x).t v G
class RdnL {α : Type} (τs : List MT) (T : Nat → α → MT) (n : outParam Nat) (xs : outParam (List α)) : Prop where
  h : τs.length = xs.length ∧ ∀ (i : Nat) (τ σ : MT),τs[i]? = some τ → (xs.map (T n))[i]? = some σ → ∀ {v : Value} {G : Gh},τ.t v G → σ.t v G
instance Rdn.q {z : Rat} : Rdn (QC b z) QC b z:=⟨fun h=>h⟩
instance RdnL.nil {T : Nat → α → MT} : RdnL [] T 0 []:=⟨rfl,fun i τ σ h=>by simp at h⟩
instance RdnL.m {T : Nat → α → MT} : RdnL (xs.map (T b)) T b xs:=⟨by simp,fun i τ σ h1 h2 {v G} h=>by rw [h1] at h2;cases h2;exact h⟩
instance (priority:=800) RdnL.cons {T : Nat → α → MT} [g : Grow T] [h : Rdn τ T b x] [l : RdnL τs T c xs] : RdnL (τ :: τs) T (max b c) (x :: xs):=⟨by simp [l.h.1],fun i σ ρ h1 h2 {v G} hv=>by
  cases i with
  | zero=>cases h1;cases h2;exact g.h (h.h hv) (Nat.le_max_left _ _)
  | succ i =>
    simp only [List.map_cons,List.getElem?_cons_succ,List.getElem?_map] at h1 h2
    cases hx : xs[i]? with
    | none=>rw [hx] at h2;cases h2
    | some y=>rw [hx] at h2;cases h2;exact g.h (l.h.2 i σ _ h1 (by rw [List.getElem?_map,hx];rfl) hv) (Nat.le_max_right _ _)⟩
theorem RdnL.ls {T : Nat → α → MT} (l : RdnL τs T b xs) {v : Value} {G : Gh} (h : (LS k τs).t v G) : (LS k (xs.map (T b))).t v G:=LS.els h (by rw [l.h.1,List.length_map]) fun i τ σ h1 h2 _ hv=>l.h.2 i τ σ h1 h2 hv
theorem NM.up {l : List Rat} {v : Value} {G : Gh} (h : (NM b l).t v G) (e : b ≤ c) : (NM c l).t v G:=LS.convM (T:=QC b) (U:=QC c) (f:=fun r=>r) h (by simp) fun _ _ _ _ hv=>QC.up hv e
instance : Grow NM:=⟨NM.up⟩
instance Rdn.nm {l : List Rat} [a : LsQ τ τs] [h : RdnL τs QC b l] : Rdn τ NM b l:=⟨fun hv=>h.ls (a.h hv)⟩
instance NU.of {l : List Rat} [h : Rdn τ NM b l] : NU τ (NM b l):=⟨fun hv=>h.h hv⟩
class LsN (τ : MT) (τs : outParam (List MT)) : Prop where
  h : ∀ {v : Value} {G : Gh},τ.t v G → (LS none τs).t v G
instance LsN.l : LsN (LS none τs) τs:=⟨fun h=>h⟩
instance LsN.lc : LsN (LSC none τs) τs:=⟨fun h=>h.1⟩
instance LsN.n : LsN (.ex (.slice none 0 0)) []:=⟨fun h=>by cases h;exact LS.nil⟩
abbrev RTS (n : Nat) (rs : List (List Rat)) : MT:=LS none (rs.map (NM n))
instance Rdn.rts {rs : List (List Rat)} [a : LsN τ τs] [h : RdnL τs NM b rs] : Rdn τ RTS b rs:=⟨fun hv=>h.ls (a.h hv)⟩
instance NU.rts {rs : List (List Rat)} [h : Rdn τ RTS b rs] : NU τ (RTS b rs):=⟨fun hv=>h.h hv⟩
theorem pts1 (f : ∀ {v : Value} {G : Gh},τ.t v G → τ'.t v G) {v : Value} {G : Gh} (h : (PTS [(k,τ)]).t v G) : (PTS [(k,τ')]).t v G:=by
  obtain ⟨us,e,a1,a2⟩:=h
  refine ⟨us,e,a1,fun i p u hp hu=>?_⟩
  match i,hp with
  | 0,hp=>cases hp;obtain ⟨d1,d2⟩:=a2 0 _ u rfl hu;exact ⟨d1,f d2⟩
instance NU.tw {rs : List (List Rat)} [h : Rdn τ RTS b rs] : NU (PTS [(none,τ)]) (TWR b rs):=⟨fun hv=>pts1 (τ':=RTS b rs) h.h hv⟩
instance Fit.rts {rs : List (List Rat)} [a : LsN τ τs] [h : FitL τs (NM b) rs p] : Fit τ (RTS b) rs p:=⟨fun e _ _ hv=>h.ls e (a.h hv)⟩
instance (priority:=900) Cv.tw {rs rs' : List (List Rat)} [h : Fit τ (RTS b) rs p] : Cv (PTS [(none,τ)]) (TWR b rs') (p ∧ rs = rs'):=⟨fun e _ _ hv=>by
  obtain ⟨e1,rfl⟩:=e;exact pts1 (τ':=RTS b rs) (h.h e1) hv⟩
end
end Go.Proofs.YtnjbcjmkkejfpaaGreatDoor
set_option linter.unusedVariables false
set_option linter.unusedSimpArgs false
namespace Go.Proofs.YtnjbcjmkkejfpaaGreatDoor
open Go.RowKit (Below)
def RetW {α : Type} (w : World) (G : Gh) (k : Option Nat) (e : TypeId) (T : α → MT) (xs : List α) : Ending → World → Prop:=fun en w' =>
  ∃ b c G',en = .returned (.slice (some ⟨b,0,none⟩) xs.length c) ∧ Nxt w G w' G' ∧ BX.ok ⟨b,e,some (c * k.getD 1),ROWS k (xs.map T)⟩ w w' G' ∧ xs.length ≤ c
class ConO {α : outParam Type} (P : Program) (f : Nat) (τs : List MT) (pre : outParam Prop) (k : outParam (Option Nat)) (e : outParam TypeId) (T : outParam (α → MT)) (xs : outParam (List α)) : Prop where
  h : ∀ {vs : List Value} {w : World} {G : Gh},Gok w G → Args vs τs G → pre → Calls P f vs.toArray w (RetW w G k e T xs)
section
variable {P : Program} {f : Nat} {τ1 τ2 τ3 : MT} {pre : Prop} {k : Option Nat} {e : TypeId} {α : Type} {T : α → MT} {xs : List α}
theorem ConO.o1 (h : ∀ {v1 : Value} {w : World} {G : Gh},Gok w G → τ1.t v1 G → pre → Calls P f #[v1] w (RetW w G k e T xs)) : ConO P f [τ1] pre k e T xs:=⟨fun {vs _ _} hok ha hp=>match vs,ha with | [_],ha=>h hok ha.1 hp⟩
theorem ConO.o2 (h : ∀ {v1 v2 : Value} {w : World} {G : Gh},Gok w G → τ1.t v1 G → τ2.t v2 G → pre → Calls P f #[v1,v2] w (RetW w G k e T xs)) : ConO P f [τ1,τ2] pre k e T xs:=⟨fun {vs _ _} hok ha hp=>match vs,ha with | [_,_],ha=>h hok ha.1 ha.2.1 hp⟩
theorem ConO.o3 (h : ∀ {v1 v2 v3 : Value} {w : World} {G : Gh},Gok w G → τ1.t v1 G → τ2.t v2 G → τ3.t v3 G → pre → Calls P f #[v1,v2,v3] w (RetW w G k e T xs)) : ConO P f [τ1,τ2,τ3] pre k e T xs:=⟨fun {vs _ _} hok ha hp=>match vs,ha with | [_,_,_],ha=>h hok ha.1 ha.2.1 ha.2.2.1 hp⟩
section
variable {w : World} {G : Gh} {v1 v2 v3 : Value}
theorem ConO.c1 (c : ConO P f [τ1] pre k e T xs) (hok : Gok w G) (h1 : τ1.t v1 G) (hp : pre) : Calls P f #[v1] w (RetW w G k e T xs):=c.h (vs:=[v1]) hok ⟨h1,trivial⟩ hp
theorem ConO.c2 (c : ConO P f [τ1,τ2] pre k e T xs) (hok : Gok w G) (h1 : τ1.t v1 G) (h2 : τ2.t v2 G) (hp : pre) : Calls P f #[v1,v2] w (RetW w G k e T xs):=c.h (vs:=[v1,v2]) hok ⟨h1,h2,trivial⟩ hp
theorem ConO.c3 (c : ConO P f [τ1,τ2,τ3] pre k e T xs) (hok : Gok w G) (h1 : τ1.t v1 G) (h2 : τ2.t v2 G) (h3 : τ3.t v3 G) (hp : pre) : Calls P f #[v1,v2,v3] w (RetW w G k e T xs):=c.h (vs:=[v1,v2,v3]) hok ⟨h1,h2,h3,trivial⟩ hp
end
end
section
variable {P : Program} {L L' : List (Nat × MT)} {B B' Bh : List BX} {ys : List Operand} {u v : List Nat} {t ty e : TypeId} {τ τ' τb : MT} {τs : List MT} {n c b i j f d : Nat} {k : Option Nat} {α : Type} {T : α → MT} {xs : List α}
variable {W0 : World} {G0 : Gh} {N : Nat} {a : Act} {w : World} {G : Gh} {Q : Exit → Act → World → Prop} {pre : Prop} {rest ops : List Oper} {arr : Array Oper} {pos : String} {aft : Array Edge} {ats : Array TypeId} {fn : Func} {σs : List MT}
theorem W.co [h : OpdL L ys τs u] [cn : ConO P f τs pre k e T xs] [kb : Cb P f] (hp : pre) (K : ∀ b c a w G, xs.length ≤ c → St W0 G0 N ((d, OSL b xs.length c) :: L) (⟨b, e, some (c * k.getD 1), ROWS k (xs.map T)⟩ :: B) a w G → wpList P arr Q rest a w) (hdN : (decide (d < N)) = true := by rfl) (hf : fresh d L = true := by rfl) :
    St W0 G0 N L B a w G → wpList P arr Q (⟨some d,.call { callee:=.value (.func f),args:=ys.toArray,argTypes:=ats },ty,pos,aft,none⟩ :: rest) a w:=fun S =>
  wpList_plain rfl fun K' hK=>by
    have hr : (execOp a.eval ⟨some d,.call { callee:=.value (.func f),args:=ys.toArray,argTypes:=ats },ty,pos,aft,none⟩).run P w = .ok (.enter f (ys.toArray.map a.eval)) w:=by
      simp [execOp,resolve,Act.eval,Deferred.ofValue,invoke,run_callFunc kb.h]
    unfold Oper.wp
    rw [hr]
    have hc : Calls P f (ys.toArray.map a.eval) w (RetW w G k e T xs):=by rw [List.map_toArray];exact cn.h S.ok (h.h (S.env u)) hp
    refine Calls.mono hc fun en w' he=>?_
    obtain ⟨b,c,G',rfl,hn,hb,hle⟩:=he
    have S1 : St W0 G0 N L (⟨b,e,some (c * k.getD 1),ROWS k (xs.map T)⟩ :: B) a w' G':={
      nxt:=S.nxt.trans hn
      size:=S.size
      dfr:=S.dfr
      ty:=fun i p h=>p.2.mono hn.le (S.ty i p h)
      bx:=fun i y h=>by
        cases i with
        | zero=>cases h;exact ⟨Nat.le_trans S.nxt.below.size hb.1,hb.2⟩
        | succ i=>exact (S.bx i y h).nxt hn
      nd:=fun i j y z hy hz hij=>by
        have h1:=hb.1
        cases i with
        | zero =>
          cases hy
          cases j with
          | zero=>exact absurd rfl hij
          | succ j=>have:=(S.bx j z hz).lt;show b ≠ z.b;simp only at h1;omega
        | succ i =>
          cases j with
          | zero=>cases hz;have:=(S.bx i y hy).lt;show y.b ≠ b;simp only at h1;omega
          | succ j=>exact S.nd i j y z hy hz (by omega) }
    exact hK _ _ (K b c _ _ G' hle (S1.put (of_decide_eq_true hdN) hf rfl (Nxt.refl S1.ok)))
theorem W.rto {xs' : List α} (t : Nat) [hl : Lk L t (OSL b n c)] [hb : Bx B b i e (some j) τb] [r : AsR τb k α T xs] (hr : fn.results = #[.tmp t]) (hp : xs = xs' ∧ n = xs.length ∧ j = c * k.getD 1 ∧ n ≤ c) : St W0 G0 N L B a w G → bodyPost P fn (RetW W0 G0 k e T xs') .ret a w:=fun S=>by
  obtain ⟨rfl,rfl,rfl,hle⟩:=hp
  obtain ⟨h1,h2,v,hv,hs,ht⟩:=S.bx i _ hb.m
  have hm : tm a t = .slice (some ⟨b,0,none⟩) xs.length c:=S.mem hl.m
  exact bodyPost_ret (v:=.slice (some ⟨b,0,none⟩) xs.length c) (by have:=results_tmp hr a.tmps P w;rw [this];exact congrArg (fun v=>Result.ok v w) hm) S.dfr ⟨b,c,G,rfl,S.nxt,⟨h1,h2,v,hv,hs,r.h ht⟩,hle⟩
theorem OWNS.ofb {b c : Nat} (h : xs.length ≤ c) : OWNS k e (.slice (some ⟨b,0,none⟩) xs.length c) [⟨b,e,some (c * k.getD 1),ROWS k (xs.map T)⟩] (xs.map T):=.inr ⟨b,c,by rw [List.length_map],rfl,by rw [List.length_map];exact h⟩
theorem W.casth {x : BX} {q : Prop} (f : ∀ {v : Value} {G : Gh},x.τ.t v G → τ'.t v G) (K : St W0 G0 N L (⟨x.b,x.ty,x.k,τ'⟩ :: B) a w G → q) : St W0 G0 N L (x :: B) a w G → q:=fun S=>K (S.castBox 0 rfl fun v hv _=>f hv)
theorem ROWS.upq {n m : Nat} {l : List Rat} {v : Value} {G : Gh} (h : (ROWS k (l.map (QC n))).t v G) (e : n ≤ m) : (ROWS k (l.map (QC m))).t v G:=by
  obtain ⟨us,r,e1,h1,h2⟩:=h
  refine ⟨us,r,e1,by rw [h1];simp,fun i σ u hi hu=>?_⟩
  rw [List.getElem?_map] at hi
  cases hx : l[i]? with
  | none=>rw [hx] at hi;cases hi
  | some x =>
    rw [hx] at hi;cases hi
    obtain ⟨h3,h4⟩:=h2 i (QC n x) u (by rw [List.getElem?_map,hx];rfl) hu
    exact ⟨h3,QC.up h4 e⟩
class Rot (B : List BX) (x : BX) (B' : outParam (List BX)) : Prop where
  h : B' = B ++ [x]
instance Rot.nil {x : BX} : Rot [] x [x]:=⟨rfl⟩
instance Rot.cons {x y : BX} {B B' : List BX} [h : Rot B x B'] : Rot (y :: B) x (y :: B'):=⟨by rw [h.h];rfl⟩
instance (priority:=1200) RunS.own {all ops : List Oper} {i : Nat} {als : List (Nat × Nat × Option Nat)} {sd : List Nat} {op : Op} [OwnAt d] : RunS P B all i L als sd (⟨some d,op,ty,pos,aft,none⟩ :: ops) True [] (⟨some d,op,ty,pos,aft,none⟩ :: ops):=⟨.stop⟩
abbrev QP (p : Nat × Rat) : MT:=QC p.1 p.2
instance AsT.qp {n : Nat} {z : Rat} : AsT (QC n z) QP (n,z):=⟨fun h=>h⟩
instance (priority:=900) Cv.qpr {l : List Rat} {ys : List (Nat × Rat)} {n : Nat} {k : Option Nat} : Cv (ROWS k (l.map (QC n))) (ROWS k (ys.map QP)) (ys = l.map fun x=>(n,x)):=⟨fun e v G h=>by subst e;rw [List.map_map];exact h⟩
instance FitL.qp {ps : List (Nat × Rat)} {n : Nat} : FitL (ps.map QP) (QC n) (ps.map Prod.snd) (∀ p ∈ ps,p.1 ≤ n):=⟨fun e=>⟨by simp,fun i τ hi=>by
  rw [List.getElem?_map] at hi
  cases hz : ps[i]? with
  | none=>rw [hz] at hi;cases hi
  | some z=>rw [hz] at hi;cases hi;exact ⟨z.2,by simp [hz],fun hv=>QC.up hv (e z (List.mem_of_getElem? hz))⟩⟩⟩
instance {n : Nat} : AsT (FX 1 default) (QC (n + 1)) 0:=⟨fun h=>(Cv.fq (n:=1) (k:=n + 1)).h ⟨by omega,rfl,rfl⟩ h⟩
instance {n : Nat} : Rdn (FX n default) QC n 0:=⟨fun h=>(Cv.fq (n:=n) (k:=n)).h ⟨Nat.le_refl _,rfl,rfl⟩ h⟩
instance {n m : Nat} : Fit (FX n default) (QC m) 0 (n ≤ m):=⟨fun e _ _ h=>(Cv.fq (n:=n) (k:=m)).h ⟨e,rfl,rfl⟩ h⟩
def SBq (n : Nat) (l : List Nat) : MT:=⟨fun v G=>1 ≤ n ∧ (SB n l).t v G,fun hle h=>⟨h.1,(SB n l).mono hle h.2⟩⟩
instance {n : Nat} {l : List Nat} : ShK (SBq n l) none:=⟨fun h=>SL.shp h.2.2⟩
instance AsW.sbq {n : Nat} {l : List Nat} : AsW (SBq n l) l:=⟨fun h=>h.2.2⟩
theorem QC.one {n : Nat} {z : Rat} {v : Value} {G : Gh} (h : (QC n z).t v G) : 1 ≤ n:=one_le_of_lt z.den_nz h.1.2
instance (priority:=800) Prt.qc0 {n : Nat} {z : Rat} : Prt (QC n z) 0 none (BT (FR.of z).s):=⟨fun h' hs=>(Prt.fx0 (nn:=n) (r:=FR.of z)).h (QC.toFX h' (QC.one h')) hs⟩
instance (priority:=800) Prt.qc1 {n : Nat} {z : Rat} : Prt (QC n z) 1 none (SBq n (FR.of z).p):=⟨fun h' hs=>by obtain ⟨u,h1,h2,h3⟩:=(Prt.fx1 (nn:=n) (r:=FR.of z)).h (QC.toFX h' (QC.one h')) hs;exact ⟨u,h1,⟨QC.one h',h2⟩,h3⟩⟩
instance (priority:=800) Prt.qc2 {n : Nat} {z : Rat} : Prt (QC n z) 2 none (SBq n (FR.of z).q):=⟨fun h' hs=>by obtain ⟨u,h1,h2,h3⟩:=(Prt.fx2 (nn:=n) (r:=FR.of z)).h (QC.toFX h' (QC.one h')) hs;exact ⟨u,h1,⟨QC.one h',h2⟩,h3⟩⟩
instance Op1.apq {x y : Operand} {n : Nat} {l : List Nat} [e : ElW P t] [h : Opd L x EMP u] [k : Opd L y (SBq n l) v] : Op1 P L B (.call { callee:=.builtin .append,args:=#[x,y],argTypes:=#[t,t] }) True (SBq n l) (u ++ v):=⟨fun {W0 w a G o} ho hok e' _ _=>by
  obtain ⟨e0,h1,h2⟩:=e.h
  have hy:=k.h e'.r
  exact fun Q K hK=>OpR.appNew hok ho h1 h2 (h.h e'.l) hy.2.2 Q K fun v w' G' hv hn=>hK v w' G' ⟨hy.1,hy.2.1,hv⟩ hn⟩
instance AsT.qcp {n : Nat} {z : Rat} : AsT (PTS [(none,BT (FR.of z).s),(none,SBq n (FR.of z).p),(none,SBq n (FR.of z).q)]) (QC n) z:=⟨fun {v G} h=>by
  obtain ⟨us,e0,hl,hE⟩:=h
  have h' : (PTS [(none,BT (FR.of z).s),(none,SBq n (FR.of z).p),(none,SBq n (FR.of z).q)]).t v G:=⟨us,e0,hl,hE⟩
  have hcd : ∃ c d,(SBq n (FR.of z).p).t c G ∧ (SBq n (FR.of z).q).t d G:=by
    match us,hl,hE with
    | [a,c,d],_,hE=>exact ⟨c,d,(hE 1 _ c rfl rfl).2,(hE 2 _ d rfl rfl).2⟩
  obtain ⟨c,d,⟨h1,h2,_⟩,_,h5,_⟩:=hcd
  refine ⟨⟨by have : Go.Proofs.YtnjbcjmkkejfpaaGreatDoor.val (words z.num.natAbs) < 2 ^ n := h2
              rwa [val_words] at this,?_⟩,qr_pts h' (fun v hv=>hv.2.2) fun v hv=>hv.2.2⟩
  have hq : Go.Proofs.YtnjbcjmkkejfpaaGreatDoor.val (dwords z) < 2 ^ n:=h5
  unfold dwords at hq
  split at hq
  · rename_i e0
    have : z.den = 1:=by
      have h0 : z = 0:=by first | exact e0 | exact Rat.num_eq_zero.1 e0
      rw [h0];rfl
    rw [this];exact Nat.lt_of_lt_of_le (show (1 : Nat) < 2 ^ 1 by decide) (Nat.pow_le_pow_right (by decide) h1)
  · rwa [val_words] at hq⟩
class AllG (es : List SE) : Prop where
  h : ∀ e ∈ es,∃ d τ u,e = SE.g d τ u
instance AllG.nil : AllG []:=⟨fun e h=>by simp at h⟩
instance AllG.cons {d : Nat} {τ : MT} {u : List Nat} {es : List SE} [h : AllG es] : AllG (.g d τ u :: es):=⟨fun e he=>by
  rcases List.mem_cons.1 he with e1 | e1
  · exact ⟨d,τ,u,e1⟩
  · exact h.h e e1⟩
theorem AllG.sto {nB v : Nat} {all : List SE} : ∀ {es : List SE} {o : Nat},(∀ e ∈ es,∃ d τ u,e = SE.g d τ u) → storeOf (es.map (poS nB all)) o v = none
  | [],_,_=>rfl
  | x :: es,o,h=>by
    obtain ⟨d,τ,u,rfl⟩:=h x (.head _)
    exact AllG.sto (es:=es) fun e he=>h e (.tail _ he)
theorem BZ3_id {PL : List PO3} (h : ∀ v,storeOf PL 0 v = none) : ∀ {u : Nat} {B : List BX},BZ3 PL u B = B
  | _,[]=>rfl
  | u,x :: r=>by
    unfold BZ3 finT
    rw [h u,BZ3_id h]
theorem BF3_id {PL : List PO3} {β : Nat → Nat} (h : ∀ v,storeOf PL 0 v = none) (hg : ∀ (m : Nat) (po : PO3),PL[m]? = some po → ∃ τ,po.τ = .g τ) : ∀ {m : Nat},BF3 PL β B m = B
  | 0=>BZ3_id h
  | m + 1=>by
    unfold BF3
    cases hm : PL[m]? with
    | none=>exact BF3_id h hg
    | some po =>
      obtain ⟨τ,e⟩:=hg m po hm
      simp only [e];exact BF3_id h hg
theorem W.fing {β : Nat → Nat} {ss : List SE} {q : Prop} [ag : AllG ss] [hl : FinL β 0 ss L L'] (K : St W0 G0 N L' B a w G → q) : St W0 G0 N (fL β 0 ss L) (BF3 (plS B.length ss) β B ss.length) a w G → q:=fun S=>K (by
  have e:=BF3_id (PL:=plS B.length ss) (β:=β) (B:=B) (fun v=>AllG.sto ag.h) (fun m po hm=>by
    unfold plS at hm
    rw [List.getElem?_map] at hm
    cases he : ss[m]? with
    | none=>rw [he] at hm;cases hm
    | some e =>
      rw [he] at hm;cases hm
      obtain ⟨d,τ,u,rfl⟩:=ag.h e (List.mem_of_getElem? he)
      exact ⟨τ,rfl⟩) (m:=ss.length)
  rw [e] at S
  rw [hl.h]
  exact S)
end
end Go.Proofs.YtnjbcjmkkejfpaaGreatDoor
namespace Go.Proofs.YtnjbcjmkkejfpaaGreatDoor
def El : Nat → Type
  | 0=>Rat
  | k + 1=>El k × El k
namespace El
def zero : (k : Nat) → El k
  | 0=>(0 : Rat)
  | k + 1=>(zero k,zero k)
def add : {k : Nat} → El k → El k → El k
  | 0,x,y=>Rat.add x y
  | _ + 1,x,y=>(add x.1 y.1,add x.2 y.2)
def neg : {k : Nat} → El k → El k
  | 0,x=>Rat.neg x
  | _ + 1,x=>(neg x.1,neg x.2)
def Rts : Type:=(k : Nat) → El k
def mul (d : Rts) : {k : Nat} → El k → El k → El k
  | 0,x,y=>Rat.mul x y
  | k + 1,x,y=>(add (mul d x.1 y.1) (mul d (mul d x.2 y.2) (d k)),add (mul d x.1 y.2) (mul d x.2 y.1))
variable {d : Rts} {k : Nat}
theorem add_comm : ∀ {k : Nat} (x y : El k),add x y = add y x
  | 0,x,y=>Rat.add_comm x y
  | _ + 1,x,y=>Prod.ext (add_comm x.1 y.1) (add_comm x.2 y.2)
theorem add_assoc : ∀ {k : Nat} (x y z : El k),add (add x y) z = add x (add y z)
  | 0,x,y,z=>Rat.add_assoc x y z
  | _ + 1,x,y,z=>Prod.ext (add_assoc x.1 y.1 z.1) (add_assoc x.2 y.2 z.2)
theorem add_zero : ∀ {k : Nat} (x : El k),add x (zero k) = x
  | 0,x=>Rat.add_zero x
  | _ + 1,x=>Prod.ext (add_zero x.1) (add_zero x.2)
theorem zero_add (x : El k) : add (zero k) x = x:=by rw [add_comm,add_zero]
theorem add_neg : ∀ {k : Nat} (x : El k),add x (neg x) = zero k
  | 0,x=>Rat.add_neg_cancel x
  | _ + 1,x=>Prod.ext (add_neg x.1) (add_neg x.2)
theorem add_left_comm (x y z : El k) : add x (add y z) = add y (add x z):=by rw [← add_assoc,add_comm x y,add_assoc]
theorem swap4 (x y z u : El k) : add (add x y) (add z u) = add (add x z) (add y u):=by rw [add_assoc,add_assoc,add_left_comm y z u]
theorem zero_mul : ∀ {k : Nat} (x : El k),mul d (zero k) x = zero k
  | 0,x=>Rat.zero_mul x
  | k + 1,x=>by
    have h1:=zero_mul x.1;have h2:=zero_mul x.2
    have h3 : mul d (zero k) (d k) = zero k:=zero_mul (d k)
    exact Prod.ext (by show add (mul d (zero k) x.1) (mul d (mul d (zero k) x.2) (d k)) = zero k;rw [h1,h2,h3,add_zero]) (by show add (mul d (zero k) x.2) (mul d (zero k) x.1) = zero k;rw [h1,h2,add_zero])
theorem mul_comm : ∀ {k : Nat} (x y : El k),mul d x y = mul d y x
  | 0,x,y=>Rat.mul_comm x y
  | k + 1,x,y=>Prod.ext (by show add _ _ = add _ _;rw [mul_comm x.1 y.1,mul_comm x.2 y.2]) (by show add _ _ = add _ _;rw [mul_comm x.1 y.2,mul_comm x.2 y.1,add_comm])
theorem mul_zero (x : El k) : mul d x (zero k) = zero k:=by rw [mul_comm,zero_mul]
theorem mul_add : ∀ {k : Nat} (x y z : El k),mul d x (add y z) = add (mul d x y) (mul d x z)
  | 0,x,y,z=>Rat.mul_add x y z
  | k + 1,x,y,z=>by
    refine Prod.ext ?_ ?_
    · show add (mul d x.1 (add y.1 z.1)) (mul d (mul d x.2 (add y.2 z.2)) (d k)) = add (add _ _) (add _ _)
      rw [mul_add,mul_add,mul_comm (add _ _) (d k),mul_add,mul_comm (d k),mul_comm (d k)]
      exact swap4 _ _ _ _
    · show add (mul d x.1 (add y.2 z.2)) (mul d x.2 (add y.1 z.1)) = add (add _ _) (add _ _)
      rw [mul_add,mul_add]
      exact swap4 _ _ _ _
theorem add_mul (x y z : El k) : mul d (add x y) z = add (mul d x z) (mul d y z):=by rw [mul_comm,mul_add,mul_comm z,mul_comm z]
theorem mul_assoc : ∀ {k : Nat} (x y z : El k),mul d (mul d x y) z = mul d x (mul d y z)
  | 0,x,y,z=>Rat.mul_assoc x y z
  | k + 1,x,y,z=>by
    have as_:=fun x y z : El k=>mul_assoc x y z
    have e : ∀ x y : El (k + 1),mul d x y = (add (mul d x.1 y.1) (mul d (mul d x.2 y.2) (d k)),add (mul d x.1 y.2) (mul d x.2 y.1)):=fun _ _=>rfl
    have cm:=fun x y : El k=>mul_comm (d:=d) x y
    let i1 : Std.Associative (mul d (k:=k)):=⟨as_⟩
    let i2 : Std.Commutative (mul d (k:=k)):=⟨cm⟩
    let i3 : Std.Associative (add (k:=k)):=⟨add_assoc⟩
    let i4 : Std.Commutative (add (k:=k)):=⟨add_comm⟩
    rw [e (mul d x y) z,e x (mul d y z),e x y,e y z]
    simp only [mul_add,add_mul]
    refine Prod.ext ?_ ?_ <;> simp only <;> ac_rfl
theorem neg_add : ∀ {k : Nat} (x y : El k),neg (add x y) = add (neg x) (neg y)
  | 0,x,y=>Rat.neg_add
  | _ + 1,x,y=>Prod.ext (neg_add x.1 y.1) (neg_add x.2 y.2)
theorem neg_neg : ∀ {k : Nat} (x : El k),neg (neg x) = x
  | 0,x=>Rat.neg_neg x
  | _ + 1,x=>Prod.ext (neg_neg x.1) (neg_neg x.2)
theorem neg_zero : ∀ {k : Nat},neg (zero k) = zero k
  | 0=>Rat.neg_zero
  | _ + 1=>Prod.ext neg_zero neg_zero
theorem add_cancel {x y z : El k} (h : add x y = add x z) : y = z:=by
  have:=congrArg (add (neg x)) h
  rwa [← add_assoc,← add_assoc,add_comm (neg x),add_neg,zero_add,zero_add] at this
theorem mul_neg (x y : El k) : mul d x (neg y) = neg (mul d x y):=add_cancel (x:=mul d x y) (by rw [← mul_add,add_neg,mul_zero,add_neg])
theorem neg_mul (x y : El k) : mul d (neg x) y = neg (mul d x y):=by rw [mul_comm,mul_neg,mul_comm]
def ofQ (q : Rat) : (k : Nat) → El k
  | 0=>q
  | k + 1=>(ofQ q k,zero k)
theorem one_mul : ∀ {k : Nat} (x : El k),mul d (ofQ 1 k) x = x
  | 0,x=>Rat.one_mul x
  | k + 1,x=>by
    have h1:=one_mul x.1;have h2:=one_mul x.2
    exact Prod.ext (by show add (mul d (ofQ 1 k) x.1) (mul d (mul d (zero k) x.2) (d k)) = x.1;rw [h1,zero_mul,zero_mul,add_zero]) (by show add (mul d (ofQ 1 k) x.2) (mul d (zero k) x.1) = x.2;rw [h2,zero_mul,add_zero])
def norm (d : Rts) (x : El (k + 1)) : El k:=add (mul d x.1 x.1) (neg (mul d (mul d x.2 x.2) (d k)))
noncomputable def vl (d : Rts) : {k : Nat} → El k → RR
  | 0,x=>RR.of x
  | k + 1,x=>vl d x.1 + vl d x.2 * (vl d (d k)).sq
def ok (d : Rts) (k : Nat) : Prop:=∀ j,j < k → 0 ≤ vl d (d j)
theorem ok.mono {j : Nat} (h : ok d k) (hj : j ≤ k) : ok d j:=fun i hi=>h i (by omega)
theorem vl_zero : ∀ {k : Nat},vl d (zero k) = 0
  | 0=>rfl
  | k + 1=>by show vl d (zero k) + vl d (zero k) * _ = 0;rw [vl_zero,RR.zero_mul,RR.add_zero]
theorem vl_add : ∀ {k : Nat} (x y : El k),vl d (add x y) = vl d x + vl d y
  | 0,x,y=>RR.of_add x y
  | k + 1,x,y=>by
    show vl d (add x.1 y.1) + vl d (add x.2 y.2) * _ = (vl d x.1 + vl d x.2 * _) + (vl d y.1 + vl d y.2 * _)
    rw [vl_add,vl_add]
    generalize vl d x.1 = a;generalize vl d x.2 = b;generalize vl d y.1 = c;generalize vl d y.2 = e;generalize (vl d (d k)).sq = f
    obtain ⟨a,ha,rfl⟩:=RR.rep a;obtain ⟨b,hb,rfl⟩:=RR.rep b;obtain ⟨c,hc,rfl⟩:=RR.rep c;obtain ⟨e,he,rfl⟩:=RR.rep e;obtain ⟨f,hf,rfl⟩:=RR.rep f
    exact RR.ext fun n=>by grind
theorem vl_neg : ∀ {k : Nat} (x : El k),vl d (neg x) = -vl d x
  | 0,x=>RR.of_neg x
  | k + 1,x=>by
    show vl d (neg x.1) + vl d (neg x.2) * _ = -(vl d x.1 + vl d x.2 * _)
    rw [vl_neg,vl_neg,RR.neg_mul,RR.neg_add]
theorem vl_mul : ∀ {k : Nat} (_ : ok d k) (x y : El k),vl d (mul d x y) = vl d x * vl d y
  | 0,_,x,y=>RR.of_mul x y
  | k + 1,h,x,y=>by
    have hk:=h.mono (Nat.le_succ k)
    have hs : (vl d (d k)).sq * (vl d (d k)).sq = vl d (d k):=RR.sq_sq (h k (Nat.lt_succ_self k))
    show vl d (add (mul d x.1 y.1) (mul d (mul d x.2 y.2) (d k))) + vl d (add (mul d x.1 y.2) (mul d x.2 y.1)) * _ = (vl d x.1 + vl d x.2 * _) * (vl d y.1 + vl d y.2 * _)
    rw [vl_add,vl_add,vl_mul hk,vl_mul hk,vl_mul hk,vl_mul hk,vl_mul hk]
    generalize (vl d (d k)).sq = f at hs ⊢
    rw [← hs]
    generalize vl d x.1 = a;generalize vl d x.2 = b;generalize vl d y.1 = c;generalize vl d y.2 = e
    obtain ⟨a,ha,rfl⟩:=RR.rep a;obtain ⟨b,hb,rfl⟩:=RR.rep b;obtain ⟨c,hc,rfl⟩:=RR.rep c;obtain ⟨e,he,rfl⟩:=RR.rep e;obtain ⟨f,hf,rfl⟩:=RR.rep f
    exact RR.ext fun n=>by grind
theorem vl_norm (h : ok d (k + 1)) (x : El (k + 1)) : vl d (norm d x) = vl d x.1 * vl d x.1 - vl d x.2 * (vl d (d k)).sq * (vl d x.2 * (vl d (d k)).sq):=by
  have hk:=h.mono (Nat.le_succ k)
  have hs : (vl d (d k)).sq * (vl d (d k)).sq = vl d (d k):=RR.sq_sq (h k (Nat.lt_succ_self k))
  unfold norm
  rw [vl_add,vl_neg,vl_mul hk,vl_mul hk,vl_mul hk]
  generalize (vl d (d k)).sq = f at hs ⊢
  rw [← hs]
  generalize vl d x.1 = a;generalize vl d x.2 = b
  obtain ⟨a,ha,rfl⟩:=RR.rep a;obtain ⟨b,hb,rfl⟩:=RR.rep b;obtain ⟨f,hf,rfl⟩:=RR.rep f
  exact RR.ext fun n=>by grind
noncomputable def sg (d : Rts) (x : El k) : Int:=sgR (vl d x)
theorem sgR_root {x : RR} (h : 0 ≤ x) : sgR x.sq = sgR x:=by
  have h1:=RR.sq_sq h;have h2:=RR.sq_nonneg x
  have:=sgR_mul x.sq x.sq
  rw [h1] at this
  rcases sgR_cases x.sq with ⟨h3,h4⟩ | ⟨h3,h4⟩ | ⟨h3,h4⟩
  · exact absurd h3 (RR.not_lt.2 h2)
  · rw [this,h4];rfl
  · rw [this,h4];rfl
theorem sg_step (h : ok d (k + 1)) (x : El (k + 1)) : sg d x = if sg d (d k) = 0 then sg d x.1 else if sg d x.1 = sg d x.2 ∨ sg d x.2 = 0 then sg d x.1 else if sg d x.1 = 0 then sg d x.2 else sg d x.1 * sg d (norm d x):=by
  have e:=sgR_add (u:=vl d x.1) (v:=vl d x.2 * (vl d (d k)).sq)
  have hr:=sgR_root (h k (Nat.lt_succ_self k))
  have hm:=sgR_mul (vl d x.2) (vl d (d k)).sq
  rw [hr] at hm
  have hn:=vl_norm h x
  show sgR (vl d x.1 + vl d x.2 * (vl d (d k)).sq) = _
  rw [e,← hn,hm]
  unfold sg
  have hd : 0 ≤ sgR (vl d (d k)):=by
    rcases sgR_cases (vl d (d k)) with ⟨h3,h4⟩ | ⟨h3,h4⟩ | ⟨h3,h4⟩
    · exact absurd h3 (RR.not_lt.2 (h k (Nat.lt_succ_self k)))
    · omega
    · omega
  have h1:=sgR_cases (vl d (d k));have h2:=sgR_cases (vl d x.1);have h3:=sgR_cases (vl d x.2)
  generalize sgR (vl d (d k)) = r at *;generalize sgR (vl d x.1) = s at *;generalize sgR (vl d x.2) = t at *
  clear hm e hn hr h
  generalize sgR (vl d (norm d x)) = n
  rcases (show r = 0 ∨ r = 1 by omega) with rfl | rfl
  · rw [Int.mul_zero];grind
  · rw [Int.mul_one];grind
end El
end Go.Proofs.YtnjbcjmkkejfpaaGreatDoor
