import Derived.ChangeArms
import Derived.SizedLaws
import Derived.WideShapes
import Derived.Test.YtnjbcjmkkejfpaaGreatDoorQTi
set_option linter.unusedVariables false
set_option linter.unusedSimpArgs false
set_option linter.unusedVariables false
set_option linter.unusedSimpArgs false
set_option maxHeartbeats 4000000
set_option maxRecDepth 100000
set_option synthInstance.maxSize 100000
set_option synthInstance.maxHeartbeats 400000
namespace Go.Proofs.YtnjbcjmkkejfpaaGreatDoor
open Go.RowKit (Below)
attribute [local irreducible] Go.Code.wp Go.wpList Go.bodyPost
private theorem gS_ {W0 : World} {G0 : Gh} {N : Nat} {L : List (Nat × MT)} {B : List BX} {a : Act} {w : World} {G : Gh} {q : Prop} (h : St W0 G0 N L B a w G → q) : St W0 G0 N L B a w G → q:=h
private theorem gL_ {p : Prop} {P : Program} {arr : Array Oper} {Q : Exit → Act → World → Prop} {l : List Oper} {a : Act} {w : World} (h : p → wpList P arr Q l a w) : p → wpList P arr Q l a w:=h
private theorem gC_ {p : Prop} {P : Program} {c : Code} {Q : Exit → Act → World → Prop} {a : Act} {w : World} (h : p → c.wp P Q a w) : p → c.wp P Q a w:=h
private theorem mixedOrders : Tryz.prog.follows .mixedOrders = true:=by kernel_rfl
attribute [local irreducible] plusF minusF joinF levI lev PW RLN tB sB timesF stepF tmF normF shoF TOK sgL barC trnC btC dirC dirS dsc ouE ouR ouL ouX ouY ouMX ouMY oaE oaR oaL okV quF poL poP hoB hoC dotF croF lesF PWp rbX rcX fndR
instance gTO10_7_2 : GcT 7 2 false 3 [4,5,6,19,20,21,22,23,24,25,26,27,28,29,30,31,32,33,34,35,36,37,38,39,40,41,42,43,44,45,46,47,48,49,50,51]:=⟨⟩
instance gTO10_7_3 : GcT 7 3 false 6 [19,20,21,22,23,24,25,26,27,28,29,30,31,32,33,34,35,36,37,38,39,40,41,42,43,44,45,46,47,48,49,50,51]:=⟨⟩
instance gTO10_7_4 : GcT 7 4 false 53 [54,55,56,57,58]:=⟨⟩
instance gTO10_7_5 : GcT 7 5 false 3 [4,5,7,8,59,60]:=⟨⟩
instance gTO10_7_7 : GcT 7 7 false 7 [8,59,60,61,62,63,64,65]:=⟨⟩
instance gTO10_7_8 : GcT 7 8 false 66 [67,68,69,70,71,72]:=⟨⟩
instance gTO10_7_9 : GcT 7 9 false 3 [4,5,73,74,75]:=⟨⟩
instance gTO10_7_11 : GcT 7 11 false 73 [74,75,76,77,78,79,80,81,82]:=⟨⟩
instance gTO10_7_12 : GcT 7 12 false 3 [4,83,84,85,86,87,88,89]:=⟨⟩
instance gTO10_7_13 : GcT 7 13 false 5 [9,10,11,12,13,90,91,92,93,94,95]:=⟨⟩
instance gTO10_7_14 : GcT 7 14 false 9 [10,90,91,92,93,94,95]:=⟨⟩
instance gTO10_7_21 : GcT 7 21 false 103 [104,105,106,107,108,109,110,111,112,113,114,115,116,117]:=⟨⟩
instance gTO10_7_25 : GcT 7 25 false 5 [11,12,13,96,97,100,101]:=⟨⟩
theorem shortOutputRationalB {rg ra rb rc t rx ry : FR} {h : Bool} : ConT Tryz.prog 7 [QUD 64 rg ra rb rc,TRN 64 t h,PTS [(some 3,FX 64 rx),(some 3,FX 64 ry)]] ((([rg,ra,rb,rc].all shortR && shortR t) && [(rx,ry)].all shP) = true ∧ (¬ barC [rg,ra,rb,rc] = 0)) (BT true):=.o3 fun hok ht h1 h2 h3 hp=>by
  refine St.enter (N:=126) Tryz.func7 rfl rfl rfl hok (enter3 h1 h2 h3) fun a=>?_
  refine W.tab ht ?_
  have e0:=hp.1
  have e1:=hp.2
  repeat' (first|((with_reducible refine gS_ ?_);first|((with_reducible refine gL_ ?_);first|refine W.run ?_ fun a w G=>?_|refine W.mv fun a w G=>?_|refine W.asg fun a w G=>?_|refine W.bx fun b a w G=>?_|(refine W.nn hK ?_;clear hK K)|refine W.nl ?_|refine W.al fun b a w G=>?_|refine W.st fun w=>?_|refine W.stp fun w=>?_|refine W.ste ?_ fun w=>?_)|((with_reducible refine gC_ ?_);first|with_reducible refine W.cbt (by first|assumption|(simp [e0,e1];done)|fail) ?_|with_reducible refine W.cbf (by first|assumption|(simp [e0,e1];done)|fail) ?_|with_reducible refine W.gcc 7 ?_|with_reducible refine W.gcd 7 ?_|refine W.reg fun K hK=>?_|refine W.reg1 ?_|refine W.sq fun K hK=>?_|refine W.ds ?_ (fun β a w G hu=>W.fin ?_ hu) mixedOrders (by kernel_rfl)|refine W.sk ?_|refine W.cd (fun hc=>?_) (fun hc=>?_)|refine W.cb (fun hc=>?_) (fun hc=>?_)|refine W.bl ?_|refine W.ex ?_|refine W.rt ?_)|((with_reducible refine W.kn hK ?_);clear hK K)|(with_reducible first|refine W.bn ?_|refine W.xt ?_|refine W.xb ?_|refine W.xo ?_|refine W.tr ?_|refine W.br ?_)|refine W.rt1 rfl ?_|refine W.rt2 rfl ?_ ?_|refine W.rt3 rfl ?_ ?_ ?_)|clear hK K|clear hu|exact True.intro|exact Nat.le_trans (by clear hp;omega) hp|exact Nat.le_trans (by clear hp;omega) hp.1|exact Nat.le_trans (by clear hp;omega) hp.2|(clear hp;omega)|apply And.intro|refine GI.i fun _=>?_|with_reducible rfl|decide|(simp only [List.length_cons,List.length_nil];omega))
  all_goals first
    | omega
    | (simp [e0,e1];done)
    | exact e1
    | exact e5
    | rfl
    | skip
theorem shortOutputRationalC {rg ra rb rc t rx ry : FR} {h : Bool} : ConT Tryz.prog 7 [QUD 64 rg ra rb rc,TRN 64 t h,PTS [(some 3,FX 64 rx),(some 3,FX 64 ry)]] ((([rg,ra,rb,rc].all shortR && shortR t) && [(rx,ry)].all shP) = true ∧ (barC [rg,ra,rb,rc] = 0 ∧ trnF h t = false)) (BT true):=.o3 fun hok ht h1 h2 h3 hp=>by
  refine St.enter (N:=126) Tryz.func7 rfl rfl rfl hok (enter3 h1 h2 h3) fun a=>?_
  refine W.tab ht ?_
  have e0:=hp.1
  have e1:=hp.2.1
  have e5:=hp.2.2
  repeat' (first|((with_reducible refine gS_ ?_);first|((with_reducible refine gL_ ?_);first|refine W.run ?_ fun a w G=>?_|refine W.mv fun a w G=>?_|refine W.asg fun a w G=>?_|refine W.bx fun b a w G=>?_|(refine W.nn hK ?_;clear hK K)|refine W.nl ?_|refine W.al fun b a w G=>?_|refine W.st fun w=>?_|refine W.stp fun w=>?_|refine W.ste ?_ fun w=>?_)|((with_reducible refine gC_ ?_);first|with_reducible refine W.cbt (by first|assumption|(simp [e0,e1,e5];done)|fail) ?_|with_reducible refine W.cbf (by first|assumption|(simp [e0,e1,e5];done)|fail) ?_|with_reducible refine W.gcc 7 ?_|with_reducible refine W.gcd 7 ?_|refine W.reg fun K hK=>?_|refine W.reg1 ?_|refine W.sq fun K hK=>?_|refine W.ds ?_ (fun β a w G hu=>W.fin ?_ hu) mixedOrders (by kernel_rfl)|refine W.sk ?_|refine W.cd (fun hc=>?_) (fun hc=>?_)|refine W.cb (fun hc=>?_) (fun hc=>?_)|refine W.bl ?_|refine W.ex ?_|refine W.rt ?_)|((with_reducible refine W.kn hK ?_);clear hK K)|(with_reducible first|refine W.bn ?_|refine W.xt ?_|refine W.xb ?_|refine W.xo ?_|refine W.tr ?_|refine W.br ?_)|refine W.rt1 rfl ?_|refine W.rt2 rfl ?_ ?_|refine W.rt3 rfl ?_ ?_ ?_)|clear hK K|clear hu|exact True.intro|exact Nat.le_trans (by clear hp;omega) hp|exact Nat.le_trans (by clear hp;omega) hp.1|exact Nat.le_trans (by clear hp;omega) hp.2|(clear hp;omega)|apply And.intro|refine GI.i fun _=>?_|with_reducible rfl|decide|(simp only [List.length_cons,List.length_nil];omega))
  all_goals first
    | omega
    | (simp [e0,e1,e5];done)
    | exact e1
    | exact e5
    | rfl
    | skip
theorem shortOutputRationalP {rg ra rb rc t rx ry : FR} {h : Bool} : ConT Tryz.prog 7 [QUD 64 rg ra rb rc,TRN 64 t h,PTS [(some 3,FX 64 rx),(some 3,FX 64 ry)]] ((([rg,ra,rb,rc].all shortR && shortR t) && [(rx,ry)].all shP) = true ∧ (barC [rg,ra,rb,rc] = 0 ∧ trnF h t = true ∧ (rx.ok && ry.ok) = false)) (BT true):=.o3 fun hok ht h1 h2 h3 hp=>by
  refine St.enter (N:=126) Tryz.func7 rfl rfl rfl hok (enter3 h1 h2 h3) fun a=>?_
  refine W.tab ht ?_
  have e0:=hp.1
  have e0:=Bool.and_eq_true_iff.1 hp.1
  have e9:=Bool.and_eq_true_iff.1 e0.1
  have e8:=e0.2
  have e1:=hp.2.1
  have e5:=hp.2.2.1
  have e7:=hp.2.2.2
  repeat' (first|((with_reducible refine gS_ ?_);first|((with_reducible refine gL_ ?_);first|refine W.run ?_ fun a w G=>?_|refine W.mv fun a w G=>?_|refine W.asg fun a w G=>?_|refine W.bx fun b a w G=>?_|(refine W.nn hK ?_;clear hK K)|refine W.nl ?_|refine W.al fun b a w G=>?_|refine W.st fun w=>?_|refine W.stp fun w=>?_|refine W.ste ?_ fun w=>?_)|((with_reducible refine gC_ ?_);first|with_reducible refine W.cbt (by first|assumption|(simp [e9.1,e9.2,e8,e1,e5,e7];done)|fail) ?_|with_reducible refine W.cbf (by first|assumption|(simp [e9.1,e9.2,e8,e1,e5,e7];done)|fail) ?_|with_reducible refine W.gcc 7 ?_|with_reducible refine W.gcd 7 ?_|refine W.reg fun K hK=>?_|refine W.reg1 ?_|refine W.sq fun K hK=>?_|refine W.ds ?_ (fun β a w G hu=>W.fin ?_ hu) mixedOrders (by kernel_rfl)|refine W.sk ?_|refine W.cd (fun hc=>?_) (fun hc=>?_)|refine W.cb (fun hc=>?_) (fun hc=>?_)|refine W.bl ?_|refine W.ex ?_|refine W.rt ?_)|((with_reducible refine W.kn hK ?_);clear hK K)|(with_reducible first|refine W.bn ?_|refine W.xt ?_|refine W.xb ?_|refine W.xo ?_|refine W.tr ?_|refine W.br ?_)|refine W.rt1 rfl ?_|refine W.rt2 rfl ?_ ?_|refine W.rt3 rfl ?_ ?_ ?_)|clear hK K|clear hu|exact True.intro|exact Nat.le_trans (by clear hp;omega) hp|exact Nat.le_trans (by clear hp;omega) hp.1|exact Nat.le_trans (by clear hp;omega) hp.2|(clear hp;omega)|apply And.intro|refine GI.i fun _=>?_|with_reducible rfl|decide|(simp only [List.length_cons,List.length_nil];omega))
  all_goals first
    | omega
    | (simp [e9.1,e9.2,e8,e1,e5,e7];done)
    | exact e1
    | exact e5
    | rfl
    | skip
instance (priority:=3000) {n m : Nat} {rg ra rb rc t : FR} {h : Bool} {τ1 τ2 : MT} [j1 : NF τ1 (QUD n rg ra rb rc)] [j2 : NF τ2 (TRN m t h)] : Con Tryz.prog 21 [τ1,τ2] (10000 * n + 10000 * m + 100000 ≤ BIG ∧ barC [rg,ra,rb,rc] = 0 ∧ trnF h t = true) (MT.tup2 (PLQ (n + 4 * m + 130) (ra.val * dirC h t.val) (ra.val * dirS h t.val)) (.ex (errV 67 (0)))):=.o2 fun hok h1 h2 hp=>w21.c2 hok (j1.h h1) (j2.h h2) hp
instance (priority:=3000) {n m : Nat} {rg ra rb rc t : FR} {h : Bool} {τ1 τ2 : MT} [j1 : NF τ1 (QUD n rg ra rb rc)] [j2 : NF τ2 (TRN m t h)] : Con Tryz.prog 22 [τ1,τ2] (10000 * n + 10000 * m + 100000 ≤ BIG ∧ barC [rg,ra,rb,rc] = 0 ∧ trnF h t = true) (MT.tup2 (QC (22 * n + 32 * m + 1119) (dsc rg ra rb rc h t.val)) (.ex (errV 67 (0)))):=.o2 fun hok h1 h2 hp=>w22.c2 hok (j1.h h1) (j2.h h2) hp
instance (priority:=3000) {n m : Nat} {rg ra rb rc t : FR} {h : Bool} {τ1 τ2 : MT} [j1 : NF τ1 (QUD n rg ra rb rc)] [j2 : NF τ2 (TRN m t h)] : Con Tryz.prog 13 [τ1,τ2] (10000 * n + 10000 * m + 100000 ≤ BIG ∧ barC [rg,ra,rb,rc] = 0 ∧ trnF h t = true) (MT.tup3 (TWR (100 * n + 200 * m + 10000) (ouR rg ra rb rc h t.val)) (LS (some 3) ((ouL rg ra rb rc h t.val).map (BPT (100 * n + 200 * m + 10000)))) (.ex (errV 67 (ouE rg ra rb rc h t.val)))):=.o2 fun hok h1 h2 hp=>atPM.c2 hok (j1.h h1) (j2.h h2) hp
theorem shortOutputRationalQ {rg ra rb rc t rx ry : FR} {h : Bool} : ConT Tryz.prog 7 [QUD 64 rg ra rb rc,TRN 64 t h,PTS [(some 3,FX 64 rx),(some 3,FX 64 ry)]] ((([rg,ra,rb,rc].all shortR && shortR t) && [(rx,ry)].all shP) = true ∧ (barC [rg,ra,rb,rc] = 0 ∧ trnF h t = true ∧ (rx.ok && ry.ok) = true ∧ ¬ barC [rg,ra,FR.of (rbX ra h t.val rx.val ry.val),FR.of (rcX rg rx.val ry.val)] = 0)) (BT true):=.o3 fun hok ht h1 h2 h3 hp=>by
  refine St.enter (N:=126) Tryz.func7 rfl rfl rfl hok (enter3 h1 h2 h3) fun a=>?_
  refine W.tab ht ?_
  have e0:=hp.1
  have e0:=Bool.and_eq_true_iff.1 hp.1
  have e9:=Bool.and_eq_true_iff.1 e0.1
  have e8:=e0.2
  have e1:=hp.2.1
  have e5:=hp.2.2.1
  have e7:=hp.2.2.2.1
  have e2:=hp.2.2.2.2
  repeat' (first|with_reducible refine W.cast (t:=73) (τ:=PTS [(some 3,FX 64 rg),(some 3,FX 64 ra),(some 3,QC _ _),(some 3,QC _ _)]) (τ':=QUD 3000 rg ra (FR.of (rbX ra h t.val rx.val ry.val)) (FR.of (rcX rg rx.val ry.val))) (fun h=>qud_mk h (by decide) (by unfold rbX;rfl) (by unfold rcX;congr 1;grind [zv0])) ?_|with_reducible refine W.cast (t:=77) (τ:=PTS [(some 3,FX 64 rg),(some 3,FX 64 ra),(some 3,QC _ _),(some 3,QC _ _)]) (τ':=QUD 3000 rg ra (FR.of (rbX ra h t.val rx.val ry.val)) (FR.of (rcX rg rx.val ry.val))) (fun h=>qud_mk h (by decide) (by unfold rbX;rfl) (by unfold rcX;congr 1;grind [zv0])) ?_|with_reducible refine W.cast (t:=84) (τ:=PTS [(some 3,FX 64 rg),(some 3,FX 64 ra),(some 3,QC _ _),(some 3,QC _ _)]) (τ':=QUD 3000 rg ra (FR.of (rbX ra h t.val rx.val ry.val)) (FR.of (rcX rg rx.val ry.val))) (fun h=>qud_mk h (by decide) (by unfold rbX;rfl) (by unfold rcX;congr 1;grind [zv0])) ?_|((with_reducible refine gS_ ?_);first|((with_reducible refine gL_ ?_);first|refine W.run ?_ fun a w G=>?_|refine W.mv fun a w G=>?_|refine W.asg fun a w G=>?_|refine W.bx fun b a w G=>?_|(refine W.nn hK ?_;clear hK K)|refine W.nl ?_|refine W.al fun b a w G=>?_|refine W.st fun w=>?_|refine W.stp fun w=>?_|refine W.ste ?_ fun w=>?_)|((with_reducible refine gC_ ?_);first|with_reducible refine W.cbt (by first|assumption|(simp [e9.1,e9.2,e8,e1,e5,e7,e2];done)|fail) ?_|with_reducible refine W.cbf (by first|assumption|(simp [e9.1,e9.2,e8,e1,e5,e7,e2];done)|fail) ?_|with_reducible refine W.gcc 7 ?_|with_reducible refine W.gcd 7 ?_|refine W.reg fun K hK=>?_|refine W.reg1 ?_|refine W.sq fun K hK=>?_|refine W.ds ?_ (fun β a w G hu=>W.fin ?_ hu) mixedOrders (by kernel_rfl)|refine W.sk ?_|refine W.cd (fun hc=>?_) (fun hc=>?_)|refine W.cb (fun hc=>?_) (fun hc=>?_)|refine W.bl ?_|refine W.ex ?_|refine W.rt ?_)|((with_reducible refine W.kn hK ?_);clear hK K)|(with_reducible first|refine W.bn ?_|refine W.xt ?_|refine W.xb ?_|refine W.xo ?_|refine W.tr ?_|refine W.br ?_)|refine W.rt1 rfl ?_|refine W.rt2 rfl ?_ ?_|refine W.rt3 rfl ?_ ?_ ?_)|clear hK K|clear hu|exact True.intro|exact Nat.le_trans (by clear hp;omega) hp|exact Nat.le_trans (by clear hp;omega) hp.1|exact Nat.le_trans (by clear hp;omega) hp.2|(clear hp;omega)|apply And.intro|refine GI.i fun _=>?_|with_reducible rfl|decide|(simp only [List.length_cons,List.length_nil];omega))
  all_goals first
    | omega
    | (simp [e9.1,e9.2,e8,e1,e5,e7,e2];done)
    | exact e1
    | exact e5
    | rfl
    | skip
theorem shortOutputRationalE {rg ra rb rc t rx ry : FR} {h : Bool} : ConT Tryz.prog 7 [QUD 64 rg ra rb rc,TRN 64 t h,PTS [(some 3,FX 64 rx),(some 3,FX 64 ry)]] ((([rg,ra,rb,rc].all shortR && shortR t) && [(rx,ry)].all shP) = true ∧ (barC [rg,ra,rb,rc] = 0 ∧ trnF h t = true ∧ (rx.ok && ry.ok) = true ∧ barC [rg,ra,FR.of (rbX ra h t.val rx.val ry.val),FR.of (rcX rg rx.val ry.val)] = 0 ∧ ¬ ouE rg ra (FR.of (rbX ra h t.val rx.val ry.val)) (FR.of (rcX rg rx.val ry.val)) h t.val = 0)) (BT true):=.o3 fun hok ht h1 h2 h3 hp=>by
  refine St.enter (N:=126) Tryz.func7 rfl rfl rfl hok (enter3 h1 h2 h3) fun a=>?_
  refine W.tab ht ?_
  have e0:=hp.1
  have e0:=Bool.and_eq_true_iff.1 hp.1
  have e9:=Bool.and_eq_true_iff.1 e0.1
  have e8:=e0.2
  have e1:=hp.2.1
  have e5:=hp.2.2.1
  have e7:=hp.2.2.2.1
  have e2:=hp.2.2.2.2.1
  have e3:=hp.2.2.2.2.2
  have e6:=ho_0 (bt_0 e2 e5) e7
  have e10:=@ra_hold rg ra h t.val rx.val ry.val
  have e11:=ra_15 e3
  repeat' (first|with_reducible refine W.cast (t:=73) (τ:=PTS [(some 3,FX 64 rg),(some 3,FX 64 ra),(some 3,QC _ _),(some 3,QC _ _)]) (τ':=QUD 3000 rg ra (FR.of (rbX ra h t.val rx.val ry.val)) (FR.of (rcX rg rx.val ry.val))) (fun h=>qud_mk h (by decide) (by unfold rbX;rfl) (by unfold rcX;congr 1;grind [zv0])) ?_|with_reducible refine W.cast (t:=77) (τ:=PTS [(some 3,FX 64 rg),(some 3,FX 64 ra),(some 3,QC _ _),(some 3,QC _ _)]) (τ':=QUD 3000 rg ra (FR.of (rbX ra h t.val rx.val ry.val)) (FR.of (rcX rg rx.val ry.val))) (fun h=>qud_mk h (by decide) (by unfold rbX;rfl) (by unfold rcX;congr 1;grind [zv0])) ?_|with_reducible refine W.cast (t:=84) (τ:=PTS [(some 3,FX 64 rg),(some 3,FX 64 ra),(some 3,QC _ _),(some 3,QC _ _)]) (τ':=QUD 3000 rg ra (FR.of (rbX ra h t.val rx.val ry.val)) (FR.of (rcX rg rx.val ry.val))) (fun h=>qud_mk h (by decide) (by unfold rbX;rfl) (by unfold rcX;congr 1;grind [zv0])) ?_|((with_reducible refine gS_ ?_);first|((with_reducible refine gL_ ?_);first|refine W.run ?_ fun a w G=>?_|refine W.mv fun a w G=>?_|refine W.asg fun a w G=>?_|refine W.bx fun b a w G=>?_|(refine W.nn hK ?_;clear hK K)|refine W.nl ?_|refine W.al fun b a w G=>?_|refine W.st fun w=>?_|refine W.stp fun w=>?_|refine W.ste ?_ fun w=>?_)|((with_reducible refine gC_ ?_);first|with_reducible refine W.cbt (by first|assumption|(simp [e9.1,e9.2,e8,e1,e5,e7,e2,e3,e6,e10,e11];done)|fail) ?_|with_reducible refine W.cbf (by first|assumption|(simp [e9.1,e9.2,e8,e1,e5,e7,e2,e3,e6,e10,e11];done)|fail) ?_|with_reducible refine W.gcc 7 ?_|with_reducible refine W.gcd 7 ?_|refine W.reg fun K hK=>?_|refine W.reg1 ?_|refine W.sq fun K hK=>?_|refine W.ds ?_ (fun β a w G hu=>W.fin ?_ hu) mixedOrders (by kernel_rfl)|refine W.sk ?_|refine W.cd (fun hc=>?_) (fun hc=>?_)|refine W.cb (fun hc=>?_) (fun hc=>?_)|refine W.bl ?_|refine W.ex ?_|refine W.rt ?_)|((with_reducible refine W.kn hK ?_);clear hK K)|(with_reducible first|refine W.bn ?_|refine W.xt ?_|refine W.xb ?_|refine W.xo ?_|refine W.tr ?_|refine W.br ?_)|refine W.rt1 rfl ?_|refine W.rt2 rfl ?_ ?_|refine W.rt3 rfl ?_ ?_ ?_)|clear hK K|clear hu|exact True.intro|exact Nat.le_trans (by clear hp;omega) hp|exact Nat.le_trans (by clear hp;omega) hp.1|exact Nat.le_trans (by clear hp;omega) hp.2|(clear hp;omega)|apply And.intro|refine GI.i fun _=>?_|with_reducible rfl|decide|(simp only [List.length_cons,List.length_nil];omega))
  all_goals first
    | omega
    | (simp [e9.1,e9.2,e8,e1,e5,e7,e2,e3,e6,e10,e11];done)
    | exact e1
    | exact e5
    | rfl
    | exact e2
    | skip
theorem shortOutputRationalF {rg ra rb rc t rx ry : FR} {h : Bool} : ConT Tryz.prog 7 [QUD 64 rg ra rb rc,TRN 64 t h,PTS [(some 3,FX 64 rx),(some 3,FX 64 ry)]] ((([rg,ra,rb,rc].all shortR && shortR t) && [(rx,ry)].all shP) = true ∧ (barC [rg,ra,rb,rc] = 0 ∧ trnF h t = true ∧ (rx.ok && ry.ok) = true ∧ barC [rg,ra,FR.of (rbX ra h t.val rx.val ry.val),FR.of (rcX rg rx.val ry.val)] = 0 ∧ ouE rg ra (FR.of (rbX ra h t.val rx.val ry.val)) (FR.of (rcX rg rx.val ry.val)) h t.val = 0)) (BT true):=.o3 fun hok ht h1 h2 h3 hp=>by
  refine St.enter (N:=126) Tryz.func7 rfl rfl rfl hok (enter3 h1 h2 h3) fun a=>?_
  refine W.tab ht ?_
  have e0:=hp.1
  have e0:=Bool.and_eq_true_iff.1 hp.1
  have e9:=Bool.and_eq_true_iff.1 e0.1
  have e8:=e0.2
  have e1:=hp.2.1
  have e5:=hp.2.2.1
  have e7:=hp.2.2.2.1
  have e2:=hp.2.2.2.2.1
  have e3:=hp.2.2.2.2.2
  have e6:=ho_0 (bt_0 e2 e5) e7
  have e10:=@ra_hold rg ra h t.val rx.val ry.val
  have hk:=ou_tok rg ra (FR.of (rbX ra h t.val rx.val ry.val)) (FR.of (rcX rg rx.val ry.val)) h t.val
  have hr1:=ou_len rg ra (FR.of (rbX ra h t.val rx.val ry.val)) (FR.of (rcX rg rx.val ry.val)) h t.val
  have hl2:=ouL_t rg ra (FR.of (rbX ra h t.val rx.val ry.val)) (FR.of (rcX rg rx.val ry.val)) h t.val
  repeat' (first|with_reducible refine W.cast (t:=73) (τ:=PTS [(some 3,FX 64 rg),(some 3,FX 64 ra),(some 3,QC _ _),(some 3,QC _ _)]) (τ':=QUD 3000 rg ra (FR.of (rbX ra h t.val rx.val ry.val)) (FR.of (rcX rg rx.val ry.val))) (fun h=>qud_mk h (by decide) (by unfold rbX;rfl) (by unfold rcX;congr 1;grind [zv0])) ?_|with_reducible refine W.cast (t:=77) (τ:=PTS [(some 3,FX 64 rg),(some 3,FX 64 ra),(some 3,QC _ _),(some 3,QC _ _)]) (τ':=QUD 3000 rg ra (FR.of (rbX ra h t.val rx.val ry.val)) (FR.of (rcX rg rx.val ry.val))) (fun h=>qud_mk h (by decide) (by unfold rbX;rfl) (by unfold rcX;congr 1;grind [zv0])) ?_|with_reducible refine W.cast (t:=84) (τ:=PTS [(some 3,FX 64 rg),(some 3,FX 64 ra),(some 3,QC _ _),(some 3,QC _ _)]) (τ':=QUD 3000 rg ra (FR.of (rbX ra h t.val rx.val ry.val)) (FR.of (rcX rg rx.val ry.val))) (fun h=>qud_mk h (by decide) (by unfold rbX;rfl) (by unfold rcX;congr 1;grind [zv0])) ?_|((with_reducible refine gS_ ?_);first|((with_reducible refine gL_ ?_);first|refine W.run ?_ fun a w G=>?_|refine W.mv fun a w G=>?_|refine W.asg fun a w G=>?_|refine W.bx fun b a w G=>?_|(refine W.nn hK ?_;clear hK K)|refine W.nl ?_|refine W.al fun b a w G=>?_|refine W.st fun w=>?_|refine W.stp fun w=>?_|refine W.ste ?_ fun w=>?_)|((with_reducible refine gC_ ?_);first|with_reducible refine W.cbt (by first|assumption|(simp [e9.1,e9.2,e8,e1,e5,e7,e2,e3,e6,e10];done)|fail) ?_|with_reducible refine W.cbf (by first|assumption|(simp [e9.1,e9.2,e8,e1,e5,e7,e2,e3,e6,e10];done)|fail) ?_|with_reducible refine W.gcc 7 ?_|with_reducible refine W.gcd 7 ?_|refine W.reg fun K hK=>?_|refine W.reg1 ?_|refine W.sq fun K hK=>?_|refine W.ds ?_ (fun β a w G hu=>W.fin ?_ hu) mixedOrders (by kernel_rfl)|refine W.sk ?_|refine W.cd (fun hc=>?_) (fun hc=>?_)|refine W.cb (fun hc=>?_) (fun hc=>?_)|refine W.bl ?_|refine W.ex ?_|refine W.rt ?_)|((with_reducible refine W.kn hK ?_);clear hK K)|(with_reducible first|refine W.bn ?_|refine W.xt ?_|refine W.xb ?_|refine W.xo ?_|refine W.tr ?_|refine W.br ?_)|refine W.rt1 rfl ?_|refine W.rt2 rfl ?_ ?_|refine W.rt3 rfl ?_ ?_ ?_)|refine W.lp 103 (α:=Nat) (fun j=>(ouL rg ra (FR.of (rbX ra h t.val rx.val ry.val)) (FR.of (rcX rg rx.val ry.val)) h t.val).length - j) (fun j=>j ≤ (ouL rg ra (FR.of (rbX ra h t.val rx.val ry.val)) (FR.of (rcX rg rx.val ry.val)) h t.val).length) [6,14,16,17,18,102,103,104,105,106,107,108,109,110,111,112,113,114,115,116,117,118,119,120,121,122,123,124] (fun j=>[(102,NT j),(14,BT (fndR rg ra (FR.of (rbX ra h t.val rx.val ry.val)) (FR.of (rcX rg rx.val ry.val)) h t.val rx.val ry.val j))]) (fun j=>[]) (0) ?_ ?_ ?_ fun j hj a w G=>?_|refine W.ag (x:=j) (j+1) ?_ ?_ ?_ ?_|clear hK K|clear hu|exact True.intro|exact Nat.le_trans (by clear hp;omega) hp|exact Nat.le_trans (by clear hp;omega) hp.1|exact Nat.le_trans (by clear hp;omega) hp.2|(clear hp;omega)|apply And.intro|refine GI.i fun _=>?_|with_reducible rfl|decide|(simp only [List.length_cons,List.length_nil];omega))
  all_goals first
    | omega
    | (simp [e9.1,e9.2,e8,e1,e5,e7,e2,e3,e6,e10];done)
    | exact e1
    | exact e5
    | rfl
    | exact e2
    | exact hk
    | exact end_pw (by omega)
    | exact pt_pw hk.rl.2
    | exact Nat.le_trans (sB1u hr1) (by decide)
    | exact fnd_go (by omega)
    | exact (fnd_go (by omega)).symm
    | exact fnd_end e3 (by omega)
    | exact (fnd_end e3 (by omega)).symm
    | (unfold fndR;rfl)
    | skip
instance {rg ra rb rc : FR} : Con Tryz.prog 23 [PTS [(some 3,RX rg),(some 3,RX ra),(some 3,RX rb),(some 3,RX rc)]] ([rg,ra,rb,rc].all shortR = true) (.ex (errV 67 (barC [rg,ra,rb,rc]))):=.o1 fun hok h1 hp=>by
  have hq:=hp
  (try simp only [shortF,List.all_cons,List.all_nil,Bool.and_true,Bool.and_eq_true] at hq)
  exact (inferInstance : Con Tryz.prog 23 [QUD 64 rg ra rb rc] _ (.ex (errV 67 (barC [rg,ra,rb,rc])))).c1 hok (NS.h (τ':=QUD 64 rg ra rb rc) (by (try simp only [and_true,true_and]);grind) h1) (by decide)
instance {t : FR} {h : Bool} : Con Tryz.prog 15 [PTS [(some 3,RX t),(none,BT h)]] (shortR t = true) (BT (trnF h t)):=.o1 fun hok h1 hp=>w15.c1 hok (NS.h (τ':=TRN 64 t h) ⟨hp,trivial,trivial⟩ h1) (by decide)
instance {rx ry : FR} : Con Tryz.prog 36 [PTS [(some 3,RX rx),(some 3,RX ry)]] ([(rx,ry)].all shP = true) (BT (rx.ok && ry.ok)):=.o1 fun hok h1 hp=>by
  have hq:=hp
  simp only [shP,List.all_cons,List.all_nil,Bool.and_true,Bool.and_eq_true] at hq
  exact w36.c1 hok (NS.h (τ':=PTS [(some 3,FX 64 rx),(some 3,FX 64 ry)]) (by (try simp only [and_true,true_and]);grind) h1) (by decide)
theorem longOutputRational {rg ra rb rc t rx ry : FR} {h : Bool} : ConT Tryz.prog 7 [PTS [(some 3,RX rg),(some 3,RX ra),(some 3,RX rb),(some 3,RX rc)],PTS [(some 3,RX t),(none,BT h)],PTS [(some 3,RX rx),(some 3,RX ry)]] ((([rg,ra,rb,rc].all shortR && shortR t) && [(rx,ry)].all shP) = false) (BT true):=.o3 fun hok ht h1 h2 h3 hp=>by
  refine St.enter (N:=126) Tryz.func7 rfl rfl rfl hok (enter3 h1 h2 h3) fun a=>?_
  refine W.tab ht ?_
  repeat' (first|refine W.cbt (long3_3 hp) ?_|((with_reducible refine gS_ ?_);first|((with_reducible refine gL_ ?_);first|refine W.run ?_ fun a w G=>?_|refine W.mv fun a w G=>?_|refine W.asg fun a w G=>?_|refine W.bx fun b a w G=>?_|(refine W.nn hK ?_;clear hK K)|refine W.nl ?_|refine W.al fun b a w G=>?_|refine W.st fun w=>?_|refine W.stp fun w=>?_|refine W.ste ?_ fun w=>?_)|((with_reducible refine gC_ ?_);first|refine W.reg fun K hK=>?_|refine W.reg1 ?_|refine W.sq fun K hK=>?_|refine W.ds ?_ (fun β a w G hu=>W.fin ?_ hu) mixedOrders (by kernel_rfl)|refine W.sk ?_|refine W.cd (fun hc=>?_) (fun hc=>?_)|refine W.cb (fun hc=>?_) (fun hc=>?_)|refine W.bl ?_|refine W.ex ?_|refine W.rt ?_)|((with_reducible refine W.kn hK ?_);clear hK K)|(with_reducible first|refine W.bn ?_|refine W.xt ?_|refine W.xb ?_|refine W.xo ?_|refine W.tr ?_|refine W.br ?_)|refine W.rt1 rfl ?_|refine W.rt2 rfl ?_ ?_|refine W.rt3 rfl ?_ ?_ ?_)|clear hK K|clear hu|exact True.intro|exact Nat.le_trans (by clear hp;omega) hp|exact Nat.le_trans (by clear hp;omega) hp.1|exact Nat.le_trans (by clear hp;omega) hp.2|(clear hp;omega)|apply And.intro|refine GI.i fun _=>?_|with_reducible rfl|decide|(simp only [List.length_cons,List.length_nil];omega))
  all_goals first | exact (gi3_0 hp (by assumption)).elim | exact (gi3_1 hp (by assumption)).elim | exact (gi3_2 hp (by assumption)).elim | skip
theorem lawOutputRational {rg ra rb rc t rx ry : FR} {h : Bool} {w : World} {G : Gh} {v1 v2 v3 : Value} (hok : Gok w G) (ht : TAB G) (h1 : (PTS [(some 3,RX rg),(some 3,RX ra),(some 3,RX rb),(some 3,RX rc)]).t v1 G) (h2 : (PTS [(some 3,RX t),(none,BT h)]).t v2 G) (h3 : (PTS [(some 3,RX rx),(some 3,RX ry)]).t v3 G) : Calls Tryz.prog 7 #[v1,v2,v3] w (Ret w G (BT true)):=by
  cases hs : (([rg,ra,rb,rc].all shortR && shortR t) && [(rx,ry)].all shP) with
  | true =>
    have hq:=hs
    (try simp only [shortF,List.all_cons,List.all_nil,Bool.and_true,Bool.and_eq_true,shP] at hq)
    have hcs : (¬ barC [rg,ra,rb,rc] = 0) ∨ (barC [rg,ra,rb,rc] = 0 ∧ trnF h t = false) ∨ (barC [rg,ra,rb,rc] = 0 ∧ trnF h t = true ∧ (rx.ok && ry.ok) = false) ∨ (barC [rg,ra,rb,rc] = 0 ∧ trnF h t = true ∧ (rx.ok && ry.ok) = true ∧ ¬ barC [rg,ra,FR.of (rbX ra h t.val rx.val ry.val),FR.of (rcX rg rx.val ry.val)] = 0) ∨ (barC [rg,ra,rb,rc] = 0 ∧ trnF h t = true ∧ (rx.ok && ry.ok) = true ∧ barC [rg,ra,FR.of (rbX ra h t.val rx.val ry.val),FR.of (rcX rg rx.val ry.val)] = 0 ∧ ¬ ouE rg ra (FR.of (rbX ra h t.val rx.val ry.val)) (FR.of (rcX rg rx.val ry.val)) h t.val = 0) ∨ (barC [rg,ra,rb,rc] = 0 ∧ trnF h t = true ∧ (rx.ok && ry.ok) = true ∧ barC [rg,ra,FR.of (rbX ra h t.val rx.val ry.val),FR.of (rcX rg rx.val ry.val)] = 0 ∧ ouE rg ra (FR.of (rbX ra h t.val rx.val ry.val)) (FR.of (rcX rg rx.val ry.val)) h t.val = 0):=by
      by_cases e : barC [rg,ra,rb,rc] = 0
      · cases e2 : trnF h t with
        | false=>exact .inr (.inl ⟨e,rfl⟩)
        | true=>cases e3 : (rx.ok && ry.ok) with
          | false=>exact .inr (.inr (.inl ⟨e,rfl,rfl⟩))
          | true =>
            by_cases e4 : barC [rg,ra,FR.of (rbX ra h t.val rx.val ry.val),FR.of (rcX rg rx.val ry.val)] = 0
            · by_cases e5 : ouE rg ra (FR.of (rbX ra h t.val rx.val ry.val)) (FR.of (rcX rg rx.val ry.val)) h t.val = 0
              · exact .inr (.inr (.inr (.inr (.inr ⟨e,rfl,rfl,e4,e5⟩))))
              · exact .inr (.inr (.inr (.inr (.inl ⟨e,rfl,rfl,e4,e5⟩))))
            · exact .inr (.inr (.inr (.inl ⟨e,rfl,rfl,e4⟩)))
      · exact .inl e
    rcases hcs with hcs | hcs | hcs | hcs | hcs | hcs
    · exact shortOutputRationalB.c3 hok ht (NS.h (τ':=QUD 64 rg ra rb rc) (by (try simp only [and_true,true_and]);grind) h1) (NS.h (τ':=TRN 64 t h) (by (try simp only [and_true,true_and]);grind) h2) (NS.h (τ':=PTS [(some 3,FX 64 rx),(some 3,FX 64 ry)]) (by (try simp only [and_true,true_and]);grind) h3) ⟨hs,hcs⟩
    · exact shortOutputRationalC.c3 hok ht (NS.h (τ':=QUD 64 rg ra rb rc) (by (try simp only [and_true,true_and]);grind) h1) (NS.h (τ':=TRN 64 t h) (by (try simp only [and_true,true_and]);grind) h2) (NS.h (τ':=PTS [(some 3,FX 64 rx),(some 3,FX 64 ry)]) (by (try simp only [and_true,true_and]);grind) h3) ⟨hs,hcs⟩
    · exact shortOutputRationalP.c3 hok ht (NS.h (τ':=QUD 64 rg ra rb rc) (by (try simp only [and_true,true_and]);grind) h1) (NS.h (τ':=TRN 64 t h) (by (try simp only [and_true,true_and]);grind) h2) (NS.h (τ':=PTS [(some 3,FX 64 rx),(some 3,FX 64 ry)]) (by (try simp only [and_true,true_and]);grind) h3) ⟨hs,hcs⟩
    · exact shortOutputRationalQ.c3 hok ht (NS.h (τ':=QUD 64 rg ra rb rc) (by (try simp only [and_true,true_and]);grind) h1) (NS.h (τ':=TRN 64 t h) (by (try simp only [and_true,true_and]);grind) h2) (NS.h (τ':=PTS [(some 3,FX 64 rx),(some 3,FX 64 ry)]) (by (try simp only [and_true,true_and]);grind) h3) ⟨hs,hcs⟩
    · exact shortOutputRationalE.c3 hok ht (NS.h (τ':=QUD 64 rg ra rb rc) (by (try simp only [and_true,true_and]);grind) h1) (NS.h (τ':=TRN 64 t h) (by (try simp only [and_true,true_and]);grind) h2) (NS.h (τ':=PTS [(some 3,FX 64 rx),(some 3,FX 64 ry)]) (by (try simp only [and_true,true_and]);grind) h3) ⟨hs,hcs⟩
    · exact shortOutputRationalF.c3 hok ht (NS.h (τ':=QUD 64 rg ra rb rc) (by (try simp only [and_true,true_and]);grind) h1) (NS.h (τ':=TRN 64 t h) (by (try simp only [and_true,true_and]);grind) h2) (NS.h (τ':=PTS [(some 3,FX 64 rx),(some 3,FX 64 ry)]) (by (try simp only [and_true,true_and]);grind) h3) ⟨hs,hcs⟩
  | false=>exact longOutputRational.c3 hok ht h1 h2 h3 hs
end Go.Proofs.YtnjbcjmkkejfpaaGreatDoor
namespace Go.Proofs.YtnjbcjmkkejfpaaGreatDoor
open Go.RowKit (Below)
def G0of (W : World) : Gh:=fun b=>W.heap[b]?
theorem G0of_ok (W : World) : Gok W (G0of W):=fun _ _ h=>h
theorem Gc_G0 {W : World} {b i : Nat} : Gc (G0of W) b i = W.cell? ⟨b,i,none⟩:=by
  unfold Gc G0of World.cell?;cases W.heap[b]? with
  | none=>rfl
  | some o=>cases o <;> rfl
def RdA (P : Program) (W : World) (t : TypeId) (k : Option Nat) (A : MT → Prop) : Prop:=∀ (H : Type) (enc : TypeId × Value → H) (fuel : Nat) (cs : List Value) (x : DataW H × List MemPlace),
  DataW.trod enc P W 0 (fun _=>true) true fuel t cs = some x → (x.1.weights P t).all (· ≤ reachBytes) = true → ∃ (v : Value) (τ : MT),A τ ∧ v.cells.toList = cs ∧ Shaped k v ∧ τ.t v (G0of W)
section
variable {P : Program} {W : World} {t e : TypeId} {k : Option Nat} {A A' : MT → Prop}
theorem RdA.mono (h : RdA P W t k A) (hA : ∀ τ v,A τ → τ.t v (G0of W) → ∃ σ,A' σ ∧ σ.t v (G0of W)) : RdA P W t k A':=fun H enc fuel cs x hx hw=>by
  obtain ⟨v,τ,h1,h2,h3,h4⟩:=h H enc fuel cs x hx hw
  obtain ⟨σ,h5,h6⟩:=hA τ v h1 h4
  exact ⟨v,σ,h5,h2,h3,h6⟩
theorem rd_bool (ht : P.underlying t = some .bool) : RdA P W t none (fun τ=>∃ b,τ = .ex (.bool b)):=fun H enc fuel cs x hx hw=>by
  obtain ⟨b,rfl,rfl⟩:=DataW.trod_bool ht hx
  exact ⟨.bool b,_,⟨b,rfl⟩,rfl,⟨rfl,rfl⟩,rfl⟩
theorem rd_int {kk : IntKind} (ht : P.underlying t = some (.int kk)) : RdA P W t none (fun τ=>∃ z,(Lit.int kk z).wf = true ∧ τ = .ex (.int kk z)):=fun H enc fuel cs x hx hw=>by
  obtain ⟨z,rfl,rfl,h⟩:=DataW.trod_int ht hx
  exact ⟨.int kk z,_,⟨z,h,rfl⟩,rfl,⟨rfl,rfl⟩,rfl⟩
theorem cells_get {a : Addr} {n : Nat} {L : List Value} (h : W.cells? 0 a n = some L) : L.length = n ∧ ∀ j,j < n → W.cell? (a.add j) = L[j]?:=by
  unfold World.cells? at h
  rw [if_pos (Nat.zero_le _)] at h
  exact ⟨by simpa using mapM_some_length h,fun j hj=>mapM_some_get h j j (by simp [hj])⟩
theorem weightsAll_mem {H : Type} {es : List (DataW H)} {d : DataW H} {i : Nat} (hi : es[i]? = some d) : ∀ n ∈ d.weights P e,n ∈ DataW.weightsAll P e es:=by
  induction es generalizing i with
  | nil=>simp at hi
  | cons x r ih =>
    intro n hn
    rw [DataW.weightsAll,List.mem_append]
    cases i with
    | zero=>simp at hi;subst hi;exact .inl hn
    | succ j=>exact .inr (ih (by simpa using hi) n hn)
theorem rd_sliceB (ht : P.underlying t = some (.slice e)) (hc : P.cellsOf e = k.getD 1) (hc0 : 0 < k.getD 1) (hb : 4 ≤ P.bytesOf e) (h : RdA P W e k A) : RdA P W t none (fun τ=>∃ τs,(∀ σ ∈ τs,A σ) ∧ τs.length * P.bytesOf e ≤ 140737488351232 ∧ τ = LS k τs):=fun H enc fuel cs x hx hw=>by
  rcases DataW.trod_slice ht hx with ⟨rfl,rfl⟩ | ⟨a,len,cap,elems,rest,n,rfl,rfl,rfl,hb0,hlc,hcm,hel,hE,_,_⟩
  · exact ⟨.slice none 0 0,LS k [],⟨[],by simp,by simp,rfl⟩,rfl,⟨rfl,rfl⟩,LS.nil⟩
  · simp only [DataW.weights,ht,List.all_cons,List.all_append,Bool.and_eq_true,decide_eq_true_eq] at hw
    obtain ⟨hw1,hw2,_⟩:=hw
    have hlim : len ≤ LIM:=by
      have h1 : len * 4 ≤ ((elems.map (·.1)).length + (rest.map (·.1)).length) * P.bytesOf e:=Nat.mul_le_mul (by simp;omega) hb
      have h2 : reachBytes = 140737488351232:=rfl
      simp only [LIM];omega
    have hby : len * P.bytesOf e ≤ 140737488351232:=by
      have h1 : len * P.bytesOf e ≤ ((elems.map (·.1)).length + (rest.map (·.1)).length) * P.bytesOf e:=Nat.mul_le_mul_right _ (by simp;omega)
      have h2 : reachBytes = 140737488351232:=rfl
      omega
    have each : ∀ i,∃ (v : Value) (τ : MT),i < len → W.cells? 0 (a.add (i * k.getD 1)) (k.getD 1) = some v.cells.toList ∧ A τ ∧ Shaped k v ∧ τ.t v (G0of W):=fun i=>by
      by_cases hi : i < len
      · have h1:=hE i hi
        rw [List.getElem?_eq_getElem (by omega),Option.bind_eq_some_iff,hc] at h1
        obtain ⟨cs',h2,h3⟩:=h1
        obtain ⟨v,τ,h4,h5,h6,h7⟩:=h H enc n cs' _ h3 (List.all_eq_true.2 fun m hm=>List.all_eq_true.1 hw2 m (weightsAll_mem (i:=i) (by rw [List.getElem?_map,List.getElem?_eq_getElem (by omega)];rfl) m hm))
        exact ⟨v,τ,fun _=>⟨by rw [h5];exact h2,h4,h6,h7⟩⟩
      · exact ⟨undef,.ex undef,fun h=>absurd h hi⟩
    obtain ⟨f,g,hfg⟩ : ∃ (f : Nat → Value) (g : Nat → MT),∀ i,i < len → W.cells? 0 (a.add (i * k.getD 1)) (k.getD 1) = some (f i).cells.toList ∧ A (g i) ∧ Shaped k (f i) ∧ (g i).t (f i) (G0of W):=⟨fun i=>(each i).choose,fun i=>(each i).choose_spec.choose,fun i=>(each i).choose_spec.choose_spec⟩
    refine ⟨.slice (some a) len cap,LS k ((List.range len).map g),⟨_,fun σ hσ=>?_,by simpa using hby,rfl⟩,rfl,⟨rfl,rfl⟩,LS.of_vals (us:=(List.range len).map f) (A:=some a) (c:=cap) (by simp) (by simpa using hlc) (by simpa using hlim) ⟨by simp,fun i τ u hi hu=>?_⟩ fun i u hu=>?_⟩
    · obtain ⟨i,hi,rfl⟩:=List.mem_map.1 hσ
      exact (hfg i (by simpa using hi)).2.1
    · have hlt : i < len:=by have:=(List.getElem?_eq_some_iff.1 hi).1;simpa using this
      simp [List.getElem?_range hlt] at hi hu
      subst hi;subst hu
      exact (hfg i hlt).2.2
    · have hlt : i < len:=by have:=(List.getElem?_eq_some_iff.1 hu).1;simpa using this
      simp [List.getElem?_range hlt] at hu
      subst hu
      obtain ⟨h1,h2,h3,h4⟩:=hfg i hlt
      obtain ⟨h5,h6⟩:=cells_get h1
      obtain ⟨g5,g6⟩:=cells_get (hfg 0 (by omega)).1
      obtain ⟨b,off,spot⟩:=a
      have h7:=g6 0 hc0
      rw [List.getElem?_eq_getElem (by omega)] at h7
      have hs : spot = none:=by simpa [Addr.add] using World.cell?_spot h7
      subst hs
      refine ⟨b,off,rfl,fun j x hj=>?_⟩
      have hjl : j < k.getD 1:=by have:=(Array.getElem?_eq_some_iff.1 hj).1;rw [← h5,Array.length_toList];exact this
      have h8:=h6 j hjl
      rw [Gc_G0]
      rw [addr_add,addr_add,Array.getElem?_toList,hj] at h8
      exact h8
theorem rd_slice (ht : P.underlying t = some (.slice e)) (hc : P.cellsOf e = k.getD 1) (hc0 : 0 < k.getD 1) (hb : 4 ≤ P.bytesOf e) (h : RdA P W e k A) : RdA P W t none (fun τ=>∃ τs,(∀ σ ∈ τs,A σ) ∧ τ = LS k τs) :=
  (rd_sliceB ht hc hc0 hb h).mono fun τ v ⟨τs,h1,_,h2⟩ hv=>⟨τ,⟨τs,h1,h2⟩,hv⟩
theorem forall_map' {α : Type} {T : α → MT} {p : α → Prop} {τs : List MT} (h : ∀ σ ∈ τs,∃ x,p x ∧ σ = T x) : ∃ xs : List α,τs = xs.map T ∧ ∀ x ∈ xs,p x:=by
  induction τs with
  | nil=>exact ⟨[],rfl,by simp⟩
  | cons a r ih =>
    obtain ⟨l,rfl,hl⟩:=ih fun σ h'=>h σ (List.mem_cons_of_mem _ h')
    obtain ⟨x,hx,rfl⟩:=h a (List.mem_cons_self ..)
    exact ⟨x :: l,rfl,by simpa using ⟨hx,hl⟩⟩
theorem rd_words (ht : P.underlying t = some (.slice e)) (hu : P.underlying e = some (.int .u32)) (hc : P.cellsOf e = 1) (hb : 4 ≤ P.bytesOf e) : RdA P W t none (fun τ=>∃ l,τ = SL l):=by
  have h1 : RdA P W e none (fun τ=>∃ x : Nat,x < 4294967296 ∧ τ = .ex (u32 x)):=(rd_int hu).mono fun τ v ⟨z,hz,hτ⟩ hv=>by
    subst hτ
    have hm : IntKind.u32.min = 0:=by decide
    have hM : IntKind.u32.max = 4294967295:=by decide
    simp [Lit.wf,hm,hM] at hz
    exact ⟨_,⟨z.toNat,by omega,rfl⟩,by
      have : (z.toNat : Int) = z:=by omega
      show v = .int .u32 (z.toNat : Int);rw [this];exact hv⟩
  refine (rd_slice (k:=none) ht hc (by decide) hb h1).mono fun τ v ⟨τs,hσ,hτ⟩ hv=>?_
  subst hτ
  obtain ⟨l,hl,hlt⟩:=forall_map' hσ
  subst hl
  obtain ⟨A,c,us,h2,h3,h4,h5,h6⟩:=LS.vals hv
  rw [List.length_map] at h2 h3 h4
  refine ⟨_,⟨l,rfl⟩,A,c,h2,h3,h4,hlt,fun i x hi=>?_⟩
  have hil:=(List.getElem?_eq_some_iff.1 hi).1
  have hul : i < us.length:=by rw [h5.1,List.length_map];exact hil
  have hui : us[i]? = some us[i]:=by rw [List.getElem?_eq_getElem hul]
  have h7:=(h5.2 i (.ex (u32 x)) us[i] (by rw [List.getElem?_map,hi];rfl) hui).2
  obtain ⟨b,off,e1,h8⟩:=h6 i us[i] hui
  refine ⟨b,off,e1,?_⟩
  have h9 : us[i] = u32 x:=h7
  rw [h9] at h8
  simpa using h8 0 (u32 x) rfl
def FldOk (P : Program) (W : World) : Nat → List Field → List (Option Nat × (MT → Prop)) → Prop
  | _,[],[]=>True
  | off,f :: fs,a :: As=>f.offset = off ∧ P.cellsOf f.type = a.1.getD 1 ∧ RdA P W f.type a.1 a.2 ∧ FldOk P W (off + a.1.getD 1) fs As
  | _,_,_=>False
def Mt : List (Option Nat × (MT → Prop)) → List (Option Nat × MT) → Prop
  | [],[]=>True
  | a :: As,f :: F=>f.1 = a.1 ∧ a.2 f.2 ∧ Mt As F
  | _,_=>False
def tot (As : List (Option Nat × (MT → Prop))) : Nat:=(As.map fun a=>a.1.getD 1).sum
theorem Mt.tot : ∀ {As : List (Option Nat × (MT → Prop))} {F : List (Option Nat × MT)},Mt As F → (F.map fun f=>f.1.getD 1).sum = Go.Proofs.YtnjbcjmkkejfpaaGreatDoor.tot As
  | [],[],_=>rfl
  | a :: As,f :: F,h=>by
    have:=Mt.tot h.2.2
    simp only [Go.Proofs.YtnjbcjmkkejfpaaGreatDoor.tot,List.map_cons,List.sum_cons,h.1] at this ⊢
    rw [this]
  | [],_ :: _,h=>h.elim
  | _ :: _,[],h=>h.elim
theorem rd_fields {H : Type} {enc : TypeId × Value → H} {n : Nat} {cs : List Value} : ∀ (fs : List Field) (As : List (Option Nat × (MT → Prop))) (xs : List (DataW H × List MemPlace)) (off : Nat), FldOk P W off fs As → xs.length = fs.length →
    (∀ (i : Nat) (f : Field),fs[i]? = some f → DataW.trod enc P W 0 (fun _=>true) true n f.type ((cs.drop f.offset).take (P.cellsOf f.type)) = xs[i]?) → (DataW.weightsEach P (fs.map (·.type)) (xs.map (·.1))).all (· ≤ reachBytes) = true → cs.length = off + tot As →
    ∃ us F,Mt As F ∧ flat us = cs.drop off ∧ us.length = F.length ∧ ∀ (i : Nat) (f : Option Nat × MT) (u : Value),F[i]? = some f → us[i]? = some u → Shaped f.1 u ∧ f.2.t u (G0of W)
  | [],[],xs,off,_,_,_,_,hl=>⟨[],[],trivial,by rw [List.drop_eq_nil_of_le (by rw [hl];simp [tot])];rfl,rfl,fun i f u h=>by simp at h⟩
  | f :: fs,a :: As,[],off,_,hx,_,_,_=>by simp at hx
  | f :: fs,a :: As,x :: xs,off,hF,hx,hT,hw,hl=>by
    obtain ⟨h1,h2,h3,h4⟩:=hF
    simp only [List.map_cons,DataW.weightsEach,List.all_append,Bool.and_eq_true] at hw
    obtain ⟨v,τ,h5,h6,h7,h8⟩:=h3 H enc n _ x (hT 0 f rfl) hw.1
    obtain ⟨us,F,g1,g2,g3,g4⟩:=rd_fields fs As xs (off + a.1.getD 1) h4 (by simpa using hx) (fun i g hg=>by simpa using hT (i + 1) g (by simpa using hg)) hw.2 (by rw [hl];simp [tot];omega)
    refine ⟨v :: us,(a.1,τ) :: F,⟨rfl,h5,g1⟩,?_,by simp [g3],fun i f' u hf hu=>?_⟩
    · rw [flat_cons,h6,g2,h1,h2,← List.drop_drop,List.take_append_drop]
    · cases i with
      | zero=>simp at hf hu;subst hf;subst hu;exact ⟨h7,h8⟩
      | succ i=>exact g4 i f' u (by simpa using hf) (by simpa using hu)
  | [],_ :: _,_,_,h,_,_,_,_=>h.elim
  | _ :: _,[],_,_,h,_,_,_,_=>h.elim
theorem rd_struct {fs : Array Field} {As : List (Option Nat × (MT → Prop))} {n : Nat} (ht : P.underlying t = some (.struct fs)) (hn : P.cellsOf t = n) (hnA : tot As = n) (hF : FldOk P W 0 fs.toList As) : RdA P W t (some n) (fun τ=>∃ F,Mt As F ∧ τ = PTS F):=fun H enc fuel cs x hx hw=>by
  obtain ⟨xs,m,rfl,rfl,hl,hxl,hT⟩:=DataW.trod_struct ht hx
  simp only [DataW.weights,ht] at hw
  obtain ⟨us,F,h1,h2,h3,h4⟩:=rd_fields fs.toList As xs 0 hF (by simpa using hxl) (fun i f hf=>hT i f (by simpa using hf)) hw (by omega)
  have hP : (PTS F).t (.agg (flat us).toArray) (G0of W):=⟨us,rfl,h3,h4⟩
  refine ⟨.agg (flat us).toArray,PTS F,⟨F,h1,rfl⟩,by rw [h2];rfl,PTS.shaped (by unfold offs;rw [List.take_length,h1.tot,hnA]) hP,hP⟩
theorem shaped1 {u : Value} (h : Shaped none u) : u.cells = #[u]:=h.1
theorem PTS.toQR {s : Bool} {p q : List Nat} {v : Value} {G : Gh} (h : (PTS [(none,.ex (.bool s)),(none,SL p),(none,SL q)]).t v G) : (QR s p q).t v G:=by
  obtain ⟨us,rfl,hl,h⟩:=h
  match us,hl,h with
  | [u0,u1,u2],_,h =>
    obtain ⟨a0,b0⟩:=h 0 _ u0 rfl rfl
    obtain ⟨a1,b1⟩:=h 1 _ u1 rfl rfl
    obtain ⟨a2,b2⟩:=h 2 _ u2 rfl rfl
    refine ⟨u1,u2,?_,b1,b2⟩
    have e0 : u0 = .bool s:=b0
    simp only [flat,List.flatMap_cons,List.flatMap_nil,shaped1 a0,shaped1 a1,shaped1 a2]
    rw [e0];rfl
theorem rd_frac {fs : Array Field} {f0 f1 f2 : Field} {tw : TypeId} (ht : P.underlying t = some (.struct fs)) (hf : fs.toList = [f0, f1, f2]) (hn : P.cellsOf t = 3) (h0 : f0.offset = 0 ∧ P.cellsOf f0.type = 1 ∧ P.underlying f0.type = some .bool) (h1 : f1.offset = 1 ∧ f1.type = tw) (h2 : f2.offset = 2 ∧ f2.type = tw)
    (hw : P.underlying tw = some (.slice e) ∧ P.cellsOf tw = 1) (he : P.underlying e = some (.int .u32) ∧ P.cellsOf e = 1 ∧ 4 ≤ P.bytesOf e) : RdA P W t (some 3) (fun τ=>∃ r : FR,τ = QR r.s r.p r.q):=by
  have hW : RdA P W tw none (fun τ=>∃ l,τ = SL l):=rd_words hw.1 he.1 he.2.1 he.2.2
  refine (rd_struct (As:=[(none,fun τ=>∃ b,τ = .ex (.bool b)),(none,fun τ=>∃ l,τ = SL l),(none,fun τ=>∃ l,τ = SL l)]) ht hn rfl (by
    rw [hf];exact ⟨h0.1,h0.2.1,rd_bool h0.2.2,h1.1,by rw [h1.2];exact hw.2,by rw [h1.2];exact hW,h2.1,by rw [h2.2];exact hw.2,by rw [h2.2];exact hW,trivial⟩)).mono fun τ v ⟨F,hM,hτ⟩ hv=>?_
  subst hτ
  match F,hM with
  | [a,b,c],⟨a1,⟨s,a2⟩,b1,⟨p,b2⟩,c1,⟨q,c2⟩,_⟩ =>
    obtain ⟨a0,a'⟩:=a;obtain ⟨b0,b'⟩:=b;obtain ⟨c0,c'⟩:=c
    simp only at a1 a2 b1 b2 c1 c2
    subst a1;subst a2;subst b1;subst b2;subst c1;subst c2
    exact ⟨_,⟨⟨s,p,q⟩,rfl⟩,PTS.toQR hv⟩
theorem rd_arg {H : Type} {enc : TypeId × Value → H} {v : Value} {d : DataW H} {ps : List MemPlace} (h : RdA P W t k A) (hd : DataW.Trod enc P W 0 (fun _ => true) true t v d ps) (hw : (d.weights P t).all (· ≤ reachBytes) = true)
    (hv : match k with | none=>v.cells = #[v] | some _=>∃ cs,v = .agg cs) : ∃ τ,A τ ∧ Shaped k v ∧ τ.t v (G0of W):=by
  obtain ⟨fuel,hf⟩:=hd
  obtain ⟨u,τ,h1,h2,h3,h4⟩:=h H enc fuel _ _ hf hw
  have : u = v:=by
    cases k with
    | none =>
      have h5 : u.cells = #[u]:=h3.1
      rw [h5,hv] at h2
      simpa using h2
    | some n =>
      obtain ⟨cs,rfl⟩:=hv
      obtain ⟨cs',rfl,_⟩:=h3
      have : cs'.toList = cs.toList:=h2
      rw [Array.toList_inj.1 this]
  subst this
  exact ⟨τ,h1,h3,h4⟩
end
end Go.Proofs.YtnjbcjmkkejfpaaGreatDoor
