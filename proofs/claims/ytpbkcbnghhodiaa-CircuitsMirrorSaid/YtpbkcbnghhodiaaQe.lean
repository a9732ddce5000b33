import Derived.ChangeArms
import Derived.SizedLaws
import Derived.WideShapes
import Derived.Test.YtpbkcbnghhodiaaQd
set_option linter.unusedVariables false
set_option linter.unusedSimpArgs false
set_option linter.unusedVariables false
set_option linter.unusedSimpArgs false
set_option maxHeartbeats 4000000
set_option maxRecDepth 100000
set_option synthInstance.maxSize 100000
set_option synthInstance.maxHeartbeats 400000
namespace Go.Proofs.Ytpbkcbnghhodiaa
open Go.RowKit (Below)
private theorem mixedOrders : Try.prog.follows .mixedOrders = true:=by kernel_rfl
attribute [local irreducible] barC trnC btC ciF dsc enR enL cirs exC ofC ofI
theorem w36 {n m : Nat} {rg ra rb rc t : FR} {h : Bool} : Con Try.prog 36 [QUD n rg ra rb rc,TRN m t h] (10000 * n + 10000 * m + 100000 ≤ BIG ∧ barC [rg,ra,rb,rc] = 0 ∧ trnF h t = true) (MT.tup2 (IT (dsc rg ra rb rc h t.val).num.sign) (.ex (errV 63 (0)))):=.o2 fun hok h1 h2 hp=>by
  refine St.enter (N:=17) Try.func36 rfl rfl rfl hok (enter2 h1 h2) fun a=>?_
  have hb:=hp.2.1
  have ht:=trn_0 hp.2.2
  have hbt:=bt_0 hp.2.1 hp.2.2
  repeat' (first | refine W.run ?_ fun a w G=>?_ | refine W.mv fun a w G=>?_ | refine W.asg fun a w G=>?_ | refine W.bx fun b a w G=>?_ | (refine W.nn hK ?_;clear hK K) | refine W.reg fun K hK=>?_ | refine W.reg1 ?_ | refine W.nl ?_ | refine W.sq fun K hK=>?_ | refine W.ds ?_ (fun β a w G hu=>W.fin ?_ hu) mixedOrders (by kernel_rfl) | refine W.sk ?_ | (refine W.kn hK ?_;clear hK K) | refine W.cd (fun hc=>?_) (fun hc=>?_) | refine W.cb (fun hc=>?_) (fun hc=>?_) | refine W.al fun b a w G=>?_ | refine W.st fun w=>?_ | refine W.stp fun w=>?_ | refine W.ste ?_ fun w=>?_ | refine W.bl ?_ | refine W.bn ?_ | refine W.ex ?_ | refine W.xt ?_ | refine W.xb ?_ | refine W.xo ?_ | refine W.rt ?_ | refine W.tr ?_ | refine W.br ?_ | refine W.rt1 rfl ?_ | refine W.rt2 rfl ?_ ?_ | refine W.rt3 rfl ?_ ?_ ?_ | clear hK K | clear hu | exact True.intro | exact Nat.le_trans (by clear hp;omega) hp | exact Nat.le_trans (by clear hp;omega) hp.1 | exact Nat.le_trans (by clear hp;omega) hp.2 | (clear hp;omega) | apply And.intro | refine GI.i fun _=>?_ | with_reducible rfl | decide | (simp only [List.length_cons,List.length_nil];omega))
  all_goals first | (exfalso;omega) | assumption | exact hp.2.2 | exact hp.2.1 | rfl
instance {n m : Nat} {rg ra rb rc t : FR} {h : Bool} {τ1 : MT} [j1 : NF τ1 (QUD n rg ra rb rc)] {τ2 : MT} [j2 : NF τ2 (TRN m t h)] : Con Try.prog 36 [τ1,τ2] (10000 * n + 10000 * m + 100000 ≤ BIG ∧ barC [rg,ra,rb,rc] = 0 ∧ trnF h t = true) (MT.tup2 (IT (dsc rg ra rb rc h t.val).num.sign) (.ex (errV 63 (0)))):=.o2 fun hok h1 h2 hp=>w36.c2 hok (j1.h h1) (j2.h h2) hp
theorem w35 {n : Nat} {rg ra rb rc : FR} : Con Try.prog 35 [QUD n rg ra rb rc] (100000 * n + 10000000 ≤ BIG) (.ex (errV 63 (ciF rg ra rb rc))):=.o1 fun hok h1 hp=>by
  refine St.enter (N:=35) Try.func35 rfl rfl rfl hok (enter1 h1) fun a=>?_
  repeat' (first | refine W.run ?_ fun a w G=>?_ | refine W.mv fun a w G=>?_ | refine W.asg fun a w G=>?_ | refine W.bx fun b a w G=>?_ | (refine W.nn hK ?_;clear hK K) | refine W.reg fun K hK=>?_ | refine W.reg1 ?_ | refine W.nl ?_ | refine W.sq fun K hK=>?_ | refine W.ds ?_ (fun β a w G hu=>W.fin ?_ hu) mixedOrders (by kernel_rfl) | refine W.sk ?_ | (refine W.kn hK ?_;clear hK K) | refine W.cd (fun hc=>?_) (fun hc=>?_) | refine W.cb (fun hc=>?_) (fun hc=>?_) | refine W.al fun b a w G=>?_ | refine W.st fun w=>?_ | refine W.stp fun w=>?_ | refine W.ste ?_ fun w=>?_ | refine W.bl ?_ | refine W.bn ?_ | refine W.ex ?_ | refine W.xt ?_ | refine W.xb ?_ | refine W.xo ?_ | refine W.rt ?_ | refine W.tr ?_ | refine W.br ?_ | refine W.rt1 rfl ?_ | refine W.rt2 rfl ?_ ?_ | refine W.rt3 rfl ?_ ?_ ?_ | clear hK K | clear hu | exact True.intro | exact Nat.le_trans (by clear hp;omega) hp | exact Nat.le_trans (by clear hp;omega) hp.1 | exact Nat.le_trans (by clear hp;omega) hp.2 | (clear hp;omega) | apply And.intro | refine GI.i fun _=>?_ | with_reducible rfl | decide | (simp only [List.length_cons,List.length_nil];omega))
  all_goals first
    | exact ci_b hc
    | (have hb : barC [rg, ra, rb, rc] = 0 := by omega
       rw [qu_sq hb] at *
       first
       | exact ci_16 hb hc
       | (have hk := chk_two (sq_pos hb) ‹_›
          rw [Bool.and_eq_true,decide_eq_true_eq,decide_eq_true_eq] at hc
          exact (ci_15 hb hk hc.1 hc.2).symm)
       | (have hk := chk_two (sq_pos hb) ‹_›
          exact ci_0 hb hk (by simpa using hc)))
instance {n : Nat} {rg ra rb rc : FR} {τ1 : MT} [j1 : NF τ1 (QUD n rg ra rb rc)] : Con Try.prog 35 [τ1] (100000 * n + 10000000 ≤ BIG) (.ex (errV 63 (ciF rg ra rb rc))):=.o1 fun hok h1 hp=>w35.c1 hok (j1.h h1) hp
theorem w19 {n : Nat} {rg ra rb rc : FR} : Con Try.prog 19 [QUD n rg ra rb rc] (100000 * n + 10000000 ≤ BIG) (MT.tup3 (IT (enR rg ra rb rc)) (IT (enL rg ra rb rc)) (.ex (errV 63 (ciF rg ra rb rc)))):=.o1 fun hok h1 hp=>by
  refine St.enter (N:=31) Try.func19 rfl rfl rfl hok (enter1 h1) fun a=>?_
  repeat' (first | refine W.run ?_ fun a w G=>?_ | refine W.mv fun a w G=>?_ | refine W.asg fun a w G=>?_ | refine W.bx fun b a w G=>?_ | (refine W.nn hK ?_;clear hK K) | refine W.reg fun K hK=>?_ | refine W.reg1 ?_ | refine W.nl ?_ | refine W.sq fun K hK=>?_ | refine W.ds ?_ (fun β a w G hu=>W.fin ?_ hu) mixedOrders (by kernel_rfl) | refine W.sk ?_ | (refine W.kn hK ?_;clear hK K) | refine W.cd (fun hc=>?_) (fun hc=>?_) | refine W.cb (fun hc=>?_) (fun hc=>?_) | refine W.al fun b a w G=>?_ | refine W.st fun w=>?_ | refine W.stp fun w=>?_ | refine W.ste ?_ fun w=>?_ | refine W.bl ?_ | refine W.bn ?_ | refine W.ex ?_ | refine W.xt ?_ | refine W.xb ?_ | refine W.xo ?_ | refine W.rt ?_ | refine W.tr ?_ | refine W.br ?_ | refine W.rt1 rfl ?_ | refine W.rt2 rfl ?_ ?_ | refine W.rt3 rfl ?_ ?_ ?_ | clear hK K | clear hu | exact True.intro | exact Nat.le_trans (by clear hp;omega) hp | exact Nat.le_trans (by clear hp;omega) hp.1 | exact Nat.le_trans (by clear hp;omega) hp.2 | (clear hp;omega) | apply And.intro | refine GI.i fun _=>?_ | with_reducible rfl | decide | (simp only [List.length_cons,List.length_nil];omega))
  all_goals first
    | exact enR_bad hc | exact enL_bad hc | exact enR_ok (by omega) | exact enL_ok (by omega) | exact ci_bar (by omega) | exact trn_zero | (exfalso;omega)
instance {n : Nat} {rg ra rb rc : FR} {τ1 : MT} [j1 : NF τ1 (QUD n rg ra rb rc)] : Con Try.prog 19 [τ1] (100000 * n + 10000000 ≤ BIG) (MT.tup3 (IT (enR rg ra rb rc)) (IT (enL rg ra rb rc)) (.ex (errV 63 (ciF rg ra rb rc)))):=.o1 fun hok h1 hp=>w19.c1 hok (j1.h h1) hp
theorem w8 {n : Nat} {rg ra rb rc : FR} : Con Try.prog 8 [QUD n rg ra rb rc] (100000 * n + 10000000 ≤ BIG) (MT.tup2 (LS (some 3) ((cirs rg ra rb rc).map CIR)) (.ex (errV 63 (ciF rg ra rb rc)))):=.o1 fun hok h1 hp=>by
  refine St.enter (N:=47) Try.func8 rfl rfl rfl hok (enter1 h1) fun a=>?_
  repeat' (first | refine W.run ?_ fun a w G=>?_ | refine W.mv fun a w G=>?_ | refine W.asg fun a w G=>?_ | refine W.bx fun b a w G=>?_ | (refine W.nn hK ?_;clear hK K) | refine W.reg fun K hK=>?_ | refine W.reg1 ?_ | refine W.nl ?_ | refine W.sq fun K hK=>?_ | refine W.ds ?_ (fun β a w G hu=>W.fin ?_ hu) mixedOrders (by kernel_rfl) | refine W.sk ?_ | (refine W.kn hK ?_;clear hK K) | refine W.cd (fun hc=>?_) (fun hc=>?_) | refine W.cb (fun hc=>?_) (fun hc=>?_) | refine W.al fun b a w G=>?_ | refine W.st fun w=>?_ | refine W.stp fun w=>?_ | refine W.ste ?_ fun w=>?_ | refine W.bl ?_ | refine W.bn ?_ | refine W.ex ?_ | refine W.xt ?_ | refine W.xb ?_ | refine W.xo ?_ | refine W.rt ?_ | refine W.tr ?_ | refine W.br ?_ | refine W.rt1 rfl ?_ | refine W.rt2 rfl ?_ ?_ | refine W.rt3 rfl ?_ ?_ ?_ | clear hK K | clear hu | exact True.intro | exact Nat.le_trans (by clear hp;omega) hp | exact Nat.le_trans (by clear hp;omega) hp.1 | exact Nat.le_trans (by clear hp;omega) hp.2 | (clear hp;omega) | apply And.intro | refine GI.i fun _=>?_ | with_reducible rfl | decide | (simp only [List.length_cons,List.length_nil];omega))
  all_goals first | exact (cirs_bad hc).symm | (rw [cirs_ok (by omega)];unfold cirF;grind)
instance {n : Nat} {rg ra rb rc : FR} {τ1 : MT} [j1 : NF τ1 (QUD n rg ra rb rc)] : Con Try.prog 8 [τ1] (100000 * n + 10000000 ≤ BIG) (MT.tup2 (LS (some 3) ((cirs rg ra rb rc).map CIR)) (.ex (errV 63 (ciF rg ra rb rc)))):=.o1 fun hok h1 hp=>w8.c1 hok (j1.h h1) hp
theorem w22 {n m : Nat} {rg ra rb rc t : FR} {h : Bool} {md : Int} : Con Try.prog 22 [QUD n rg ra rb rc,BST m t h md] (100000 * n + 100000 * m + 10000000 ≤ BIG ∧ barC [rg,ra,rb,rc] = 0 ∧ trnF h t = true) (.ex (errV 63 (exC rg ra rb rc h t md))):=.o2 fun hok h1 h2 hp=>by
  refine St.enter (N:=55) Try.func22 rfl rfl rfl hok (enter2 h1 h2) fun a=>?_
  have hb:=hp.2.1
  have ht:=trn_0 hp.2.2
  have hbt:=bt_0 hp.2.1 hp.2.2
  repeat' (first | refine W.run ?_ fun a w G=>?_ | refine W.mv fun a w G=>?_ | refine W.asg fun a w G=>?_ | refine W.bx fun b a w G=>?_ | (refine W.nn hK ?_;clear hK K) | refine W.reg fun K hK=>?_ | refine W.reg1 ?_ | refine W.nl ?_ | refine W.sq fun K hK=>?_ | refine W.ds ?_ (fun β a w G hu=>W.fin ?_ hu) mixedOrders (by kernel_rfl) | refine W.sk ?_ | (refine W.kn hK ?_;clear hK K) | refine W.cd (fun hc=>?_) (fun hc=>?_) | refine W.cb (fun hc=>?_) (fun hc=>?_) | refine W.al fun b a w G=>?_ | refine W.st fun w=>?_ | refine W.stp fun w=>?_ | refine W.ste ?_ fun w=>?_ | refine W.bl ?_ | refine W.bn ?_ | refine W.ex ?_ | refine W.xt ?_ | refine W.xb ?_ | refine W.xo ?_ | refine W.rt ?_ | refine W.tr ?_ | refine W.br ?_ | refine W.rt1 rfl ?_ | refine W.rt2 rfl ?_ ?_ | refine W.rt3 rfl ?_ ?_ ?_ | clear hK K | clear hu | exact True.intro | exact Nat.le_trans (by clear hp;omega) hp | exact Nat.le_trans (by clear hp;omega) hp.1 | exact Nat.le_trans (by clear hp;omega) hp.2 | (clear hp;omega) | apply And.intro | refine GI.i fun _=>?_ | with_reducible rfl | decide | (simp only [List.length_cons,List.length_nil];omega))
  all_goals first | exact hp.2.2 | (unfold exC exK;grind)
instance {n m : Nat} {rg ra rb rc t : FR} {h : Bool} {md : Int} {τ1 : MT} [j1 : NF τ1 (QUD n rg ra rb rc)] {τ2 : MT} [j2 : NF τ2 (BST m t h md)] : Con Try.prog 22 [τ1,τ2] (100000 * n + 100000 * m + 10000000 ≤ BIG ∧ barC [rg,ra,rb,rc] = 0 ∧ trnF h t = true) (.ex (errV 63 (exC rg ra rb rc h t md))):=.o2 fun hok h1 h2 hp=>w22.c2 hok (j1.h h1) (j2.h h2) hp
theorem w9 {n m : Nat} {rg ra rb rc t : FR} {h : Bool} {md : Int} : Con Try.prog 9 [QUD n rg ra rb rc,BST m t h md] (100000 * n + 100000 * m + 10000000 ≤ BIG) (MT.tup2 (IT (ofI rg ra rb rc h t md)) (.ex (errV 63 (ofC rg ra rb rc h t md)))):=.o2 fun hok h1 h2 hp=>by
  refine St.enter (N:=63) Try.func9 rfl rfl rfl hok (enter2 h1 h2) fun a=>?_
  repeat' (first | refine W.run ?_ fun a w G=>?_ | refine W.mv fun a w G=>?_ | refine W.asg fun a w G=>?_ | refine W.bx fun b a w G=>?_ | (refine W.nn hK ?_;clear hK K) | refine W.reg fun K hK=>?_ | refine W.reg1 ?_ | refine W.nl ?_ | refine W.sq fun K hK=>?_ | refine W.ds ?_ (fun β a w G hu=>W.fin ?_ hu) mixedOrders (by kernel_rfl) | refine W.sk ?_ | (refine W.kn hK ?_;clear hK K) | refine W.cd (fun hc=>?_) (fun hc=>?_) | refine W.cb (fun hc=>?_) (fun hc=>?_) | refine W.al fun b a w G=>?_ | refine W.st fun w=>?_ | refine W.stp fun w=>?_ | refine W.ste ?_ fun w=>?_ | refine W.bl ?_ | refine W.bn ?_ | refine W.ex ?_ | refine W.xt ?_ | refine W.xb ?_ | refine W.xo ?_ | refine W.rt ?_ | refine W.tr ?_ | refine W.br ?_ | refine W.rt1 rfl ?_ | refine W.rt2 rfl ?_ ?_ | refine W.rt3 rfl ?_ ?_ ?_ | clear hK K | clear hu | exact True.intro | exact Nat.le_trans (by clear hp;omega) hp | exact Nat.le_trans (by clear hp;omega) hp.1 | exact Nat.le_trans (by clear hp;omega) hp.2 | (clear hp;omega) | apply And.intro | refine GI.i fun _=>?_ | with_reducible rfl | decide | (simp only [List.length_cons,List.length_nil];omega))
  all_goals first
    | exact ci_bar (by omega)
    | exact of_trn (by assumption)
    | exact cirs_pos (by omega)
    | grind [ofI,ofC,ofK,of_trn,trn_0,trn_two]
instance {n m : Nat} {rg ra rb rc t : FR} {h : Bool} {md : Int} {τ1 : MT} [j1 : NF τ1 (QUD n rg ra rb rc)] {τ2 : MT} [j2 : NF τ2 (BST m t h md)] : Con Try.prog 9 [τ1,τ2] (100000 * n + 100000 * m + 10000000 ≤ BIG) (MT.tup2 (IT (ofI rg ra rb rc h t md)) (.ex (errV 63 (ofC rg ra rb rc h t md)))):=.o2 fun hok h1 h2 hp=>w9.c2 hok (j1.h h1) (j2.h h2) hp
def boC (g a b c : FR) (h : Bool) (t : FR) (m : Int) (h2 : Bool) (t2 : FR) (m2 : Int) : Int:=if ofC g a b c h t m = 0 then ofC g a b c h2 t2 m2 else ofC g a b c h t m
def boI (g a b c : FR) (h : Bool) (t : FR) (m : Int) (h2 : Bool) (t2 : FR) (m2 : Int) : Int:=if boC g a b c h t m h2 t2 m2 = 0 then ofI g a b c h t m else 0
def boK (g a b c : FR) (h : Bool) (t : FR) (m : Int) (h2 : Bool) (t2 : FR) (m2 : Int) : Int:=if boC g a b c h t m h2 t2 m2 = 0 then ofI g a b c h2 t2 m2 else 0
theorem w33 {n m m2 : Nat} {rg ra rb rc t t2 : FR} {h h2 : Bool} {md md2 : Int} : Con Try.prog 33 [QUD n rg ra rb rc,BST m t h md,BST m2 t2 h2 md2] (100000 * n + 100000 * m + 100000 * m2 + 10000000 ≤ BIG) (MT.tup3 (IT (boI rg ra rb rc h t md h2 t2 md2)) (IT (boK rg ra rb rc h t md h2 t2 md2)) (.ex (errV 63 (boC rg ra rb rc h t md h2 t2 md2)))):=.o3 fun hok h1 h2 h3 hp=>by
  refine St.enter (N:=32) Try.func33 rfl rfl rfl hok (enter3 h1 h2 h3) fun a=>?_
  repeat' (first | refine W.run ?_ fun a w G=>?_ | refine W.mv fun a w G=>?_ | refine W.asg fun a w G=>?_ | refine W.bx fun b a w G=>?_ | (refine W.nn hK ?_;clear hK K) | refine W.reg fun K hK=>?_ | refine W.reg1 ?_ | refine W.nl ?_ | refine W.sq fun K hK=>?_ | refine W.ds ?_ (fun β a w G hu=>W.fin ?_ hu) mixedOrders (by kernel_rfl) | refine W.sk ?_ | (refine W.kn hK ?_;clear hK K) | refine W.cd (fun hc=>?_) (fun hc=>?_) | refine W.cb (fun hc=>?_) (fun hc=>?_) | refine W.al fun b a w G=>?_ | refine W.st fun w=>?_ | refine W.stp fun w=>?_ | refine W.ste ?_ fun w=>?_ | refine W.bl ?_ | refine W.bn ?_ | refine W.ex ?_ | refine W.xt ?_ | refine W.xb ?_ | refine W.xo ?_ | refine W.rt ?_ | refine W.tr ?_ | refine W.br ?_ | refine W.rt1 rfl ?_ | refine W.rt2 rfl ?_ ?_ | refine W.rt3 rfl ?_ ?_ ?_ | clear hK K | clear hu | exact True.intro | exact Nat.le_trans (by clear hp;omega) hp | exact Nat.le_trans (by clear hp;omega) hp.1 | exact Nat.le_trans (by clear hp;omega) hp.2 | (clear hp;omega) | apply And.intro | refine GI.i fun _=>?_ | with_reducible rfl | decide | (simp only [List.length_cons,List.length_nil];omega))
  all_goals grind [boC,boI,boK]
instance {n m m2 : Nat} {rg ra rb rc t t2 : FR} {h h2 : Bool} {md md2 : Int} {τ1 : MT} [j1 : NF τ1 (QUD n rg ra rb rc)] {τ2 : MT} [j2 : NF τ2 (BST m t h md)] {τ3 : MT} [j3 : NF τ3 (BST m2 t2 h2 md2)] : Con Try.prog 33 [τ1,τ2,τ3] (100000 * n + 100000 * m + 100000 * m2 + 10000000 ≤ BIG) (MT.tup3 (IT (boI rg ra rb rc h t md h2 t2 md2)) (IT (boK rg ra rb rc h t md h2 t2 md2)) (.ex (errV 63 (boC rg ra rb rc h t md h2 t2 md2)))):=.o3 fun hok h1 h2 h3 hp=>w33.c3 hok (j1.h h1) (j2.h h2) (j3.h h3) hp
theorem w17 {n m m2 : Nat} {rg ra rb rc t t2 : FR} {h h2 : Bool} {md md2 : Int} : Con Try.prog 17 [QUD n rg ra rb rc,BST m t h md,BST m2 t2 h2 md2] (100000 * n + 100000 * m + 100000 * m2 + 10000000 ≤ BIG) (MT.tup2 (BT (decide (boC rg ra rb rc h t md h2 t2 md2 = 0) && decide (boI rg ra rb rc h t md h2 t2 md2 = boK rg ra rb rc h t md h2 t2 md2))) (.ex (errV 63 (boC rg ra rb rc h t md h2 t2 md2)))):=.o3 fun hok h1 h2 h3 hp=>by
  refine St.enter (N:=27) Try.func17 rfl rfl rfl hok (enter3 h1 h2 h3) fun a=>?_
  repeat' (first | refine W.run ?_ fun a w G=>?_ | refine W.mv fun a w G=>?_ | refine W.asg fun a w G=>?_ | refine W.bx fun b a w G=>?_ | (refine W.nn hK ?_;clear hK K) | refine W.reg fun K hK=>?_ | refine W.reg1 ?_ | refine W.nl ?_ | refine W.sq fun K hK=>?_ | refine W.ds ?_ (fun β a w G hu=>W.fin ?_ hu) mixedOrders (by kernel_rfl) | refine W.sk ?_ | (refine W.kn hK ?_;clear hK K) | refine W.cd (fun hc=>?_) (fun hc=>?_) | refine W.cb (fun hc=>?_) (fun hc=>?_) | refine W.al fun b a w G=>?_ | refine W.st fun w=>?_ | refine W.stp fun w=>?_ | refine W.ste ?_ fun w=>?_ | refine W.bl ?_ | refine W.bn ?_ | refine W.ex ?_ | refine W.xt ?_ | refine W.xb ?_ | refine W.xo ?_ | refine W.rt ?_ | refine W.tr ?_ | refine W.br ?_ | refine W.rt1 rfl ?_ | refine W.rt2 rfl ?_ ?_ | refine W.rt3 rfl ?_ ?_ ?_ | clear hK K | clear hu | exact True.intro | exact Nat.le_trans (by clear hp;omega) hp | exact Nat.le_trans (by clear hp;omega) hp.1 | exact Nat.le_trans (by clear hp;omega) hp.2 | (clear hp;omega) | apply And.intro | refine GI.i fun _=>?_ | with_reducible rfl | decide | (simp only [List.length_cons,List.length_nil];omega))
instance {n m m2 : Nat} {rg ra rb rc t t2 : FR} {h h2 : Bool} {md md2 : Int} {τ1 : MT} [j1 : NF τ1 (QUD n rg ra rb rc)] {τ2 : MT} [j2 : NF τ2 (BST m t h md)] {τ3 : MT} [j3 : NF τ3 (BST m2 t2 h2 md2)] : Con Try.prog 17 [τ1,τ2,τ3] (100000 * n + 100000 * m + 100000 * m2 + 10000000 ≤ BIG) (MT.tup2 (BT (decide (boC rg ra rb rc h t md h2 t2 md2 = 0) && decide (boI rg ra rb rc h t md h2 t2 md2 = boK rg ra rb rc h t md h2 t2 md2))) (.ex (errV 63 (boC rg ra rb rc h t md h2 t2 md2)))):=.o3 fun hok h1 h2 h3 hp=>w17.c3 hok (j1.h h1) (j2.h h2) (j3.h h3) hp
end Go.Proofs.Ytpbkcbnghhodiaa
set_option linter.unusedVariables false
set_option linter.unusedSimpArgs false
set_option maxHeartbeats 4000000
set_option maxRecDepth 100000
set_option synthInstance.maxSize 100000
set_option synthInstance.maxHeartbeats 400000
namespace Go.Proofs.Ytpbkcbnghhodiaa
open Go.RowKit (Below)
attribute [local irreducible] barC trnC btC ciF dsc enR enL cirs exC ofC ofI dirC dirS
theorem shortR_t {r : FR} (h : (decide (((r.p.length : Nat) : Int) > 2) || decide (((r.q.length : Nat) : Int) > 2)) = true) : shortR r = false:=by
  simp only [Bool.or_eq_true,decide_eq_true_eq] at h
  exact shortR_not (by omega)
theorem shortR_f {r : FR} (h : (decide (((r.p.length : Nat) : Int) > 2) || decide (((r.q.length : Nat) : Int) > 2)) = false) : shortR r = true:=by
  simp only [Bool.or_eq_false_iff,decide_eq_false_iff_not] at h
  exact shortR_of (by omega) (by omega)
theorem w20 {rg ra rb rc : FR} : Con Try.prog 20 [PTS [(some 3,RX rg),(some 3,RX ra),(some 3,RX rb),(some 3,RX rc)]] (True) (BT ([rg,ra,rb,rc].all shortR)):=.o1 fun hok h1 hp=>by
  refine St.enter (N:=30) Try.func20 rfl rfl rfl hok (enter1 h1) fun a=>?_
  repeat' (first | refine W.run ?_ fun a w G=>?_ | refine W.mv fun a w G=>?_ | refine W.asg fun a w G=>?_ | refine W.bx fun b a w G=>?_ | (refine W.nn hK ?_;clear hK K) | refine W.reg fun K hK=>?_ | refine W.reg1 ?_ | refine W.nl ?_ | refine W.sq fun K hK=>?_ | refine W.ds ?_ (fun β a w G hu=>W.fin ?_ hu) mixedOrders (by kernel_rfl) | refine W.sk ?_ | (refine W.kn hK ?_;clear hK K) | refine W.cd (fun hc=>?_) (fun hc=>?_) | refine W.cb (fun hc=>?_) (fun hc=>?_) | refine W.al fun b a w G=>?_ | refine W.st fun w=>?_ | refine W.stp fun w=>?_ | refine W.ste ?_ fun w=>?_ | refine W.bl ?_ | refine W.bn ?_ | refine W.ex ?_ | refine W.xt ?_ | refine W.xb ?_ | refine W.xo ?_ | refine W.rt ?_ | refine W.tr ?_ | refine W.br ?_ | refine W.rt1 rfl ?_ | refine W.rt2 rfl ?_ ?_ | refine W.rt3 rfl ?_ ?_ ?_ | refine W.lp 16 (α:=Nat) (fun j=>4 - j) (fun j=>j ≤ 4 ∧ ([rg,ra,rb,rc].take j).all shortR = true) [2,4,13,14,15,16,17,18,19,20,21,22,23,24,25,26,27,28,29] (fun j=>[(15,NT j),(14,NT 4),(13,LS (some 3) ([rg,ra,rb,rc].map RX))]) (fun j=>[]) (0) ?_ ?_ ?_ fun j hj a w G=>?_ | refine W.ag (x:=j) (j+1) ?_ ?_ ?_ ?_ | clear hK K | clear hu | exact True.intro | exact Nat.le_trans (by clear hp;omega) hp | exact Nat.le_trans (by clear hp;omega) hp.1 | exact Nat.le_trans (by clear hp;omega) hp.2 | (clear hp;omega) | apply And.intro | refine GI.i fun _=>?_ | with_reducible rfl | decide | (simp only [List.length_cons,List.length_nil];omega))
  all_goals first | rfl | exact (all_not (show j < 4 by omega) (shortR_t hc)).symm | exact all_snoc (show j < 4 by omega) hj.2 (shortR_f hc) | exact (all_end (show ¬ j < 4 by omega) hj.2).symm
instance {rg ra rb rc : FR} {τ1 : MT} [j1 : NR τ1 (PTS [(some 3,RX rg),(some 3,RX ra),(some 3,RX rb),(some 3,RX rc)])] : Con Try.prog 20 [τ1] (True) (BT ([rg,ra,rb,rc].all shortR)):=.o1 fun hok h1 hp=>w20.c1 hok (j1.h h1) hp
theorem d2_zero {x y : Rat} : (d2F x y).num.sign = 0 ↔ x = 0 ∧ y = 0:=by
  rw [Int.sign_eq_zero_iff_zero,Rat.num_eq_zero]
  unfold d2F
  have sq : ∀ z : Rat,0 ≤ z * z:=fun z=>by
    rcases (Rat.le_total : 0 ≤ z ∨ z ≤ 0) with h | h
    · exact Rat.mul_nonneg h h
    · have:=Rat.mul_nonneg (show 0 ≤ -z by grind) (show 0 ≤ -z by grind);grind
  have sx:=sq x;have sy:=sq y
  constructor
  · intro h
    have h1 : x * x = 0:=by grind
    have h2 : y * y = 0:=by grind
    exact ⟨by rcases Rat.mul_eq_zero.1 h1 with h | h <;> exact h,by rcases Rat.mul_eq_zero.1 h2 with h | h <;> exact h⟩
  · rintro ⟨rfl,rfl⟩;grind
theorem way_zero {g a t : Rat} {h : Bool} : (d2F (wayX g a h t) (wayY a h t)).num.sign = 0 ↔ cmpQ (a * dirC h t) g = 0 ∧ (a * dirS h t).num.sign = 0:=by
  rw [d2_zero,cmpQ_eq0,Int.sign_eq_zero_iff_zero,Rat.num_eq_zero]
  unfold wayX wayY
  constructor <;> rintro ⟨h1,h2⟩ <;> constructor <;> grind
theorem exC_r {g a b c : FR} {h : Bool} {t : FR} {m : Int} : exC g a b c h t m = if ((decide ((dsc g a b c h t.val).num.sign < 0) || (decide ((dsc g a b c h t.val).num.sign = 0) != decide (m = 0))) || decide ((d2F (wayX g.val a.val h t.val) (wayY a.val h t.val)).num.sign = 0)) = true then 16 else 0:=by
  have e : decide ((d2F (wayX g.val a.val h t.val) (wayY a.val h t.val)).num.sign = 0) = (decide (cmpQ (a.val * dirC h t.val) g.val = 0) && decide ((a.val * dirS h t.val).num.sign = 0)):=by rw [Bool.eq_iff_iff];simp only [decide_eq_true_eq,Bool.and_eq_true,way_zero]
  unfold exC exK
  rw [e]
  generalize decide (cmpQ (a.val * dirC h t.val) g.val = 0) = A
  generalize decide ((a.val * dirS h t.val).num.sign = 0) = B
  generalize decide ((dsc g a b c h t.val).num.sign < 0) = C
  generalize decide ((dsc g a b c h t.val).num.sign = 0) = D
  generalize decide (m = 0) = E
  cases A <;> cases B <;> cases C <;> cases D <;> cases E <;> rfl
end Go.Proofs.Ytpbkcbnghhodiaa
set_option linter.unusedVariables false
set_option linter.unusedSimpArgs false
set_option maxHeartbeats 4000000
set_option maxRecDepth 100000
set_option synthInstance.maxSize 100000
set_option synthInstance.maxHeartbeats 400000
namespace Go.Proofs.Ytpbkcbnghhodiaa
open Go.RowKit (Below)
attribute [local irreducible] barC trnC btC ciF dsc enR enL cirs exC ofC ofI boC boI boK dirC dirS cirF
theorem ex_bar : barC [FR.of 4,FR.of 1,FR.of 9,FR.of 9] = 0:=by
  unfold barC;simp only [List.all_cons,List.all_nil,posR_of4];decide +kernel
theorem ex_ci : ciF (FR.of 4) (FR.of 1) (FR.of 9) (FR.of 9) = 0:=by
  have h : chkF (sqF (FR.of 4) (FR.of 1) (FR.of 9) (FR.of 9)) = 0:=by
    unfold sqF;simp only [FR.of_val];rw [show (4 : Rat) * 4 = 16 by decide +kernel,show (1 : Rat) * 1 = 1 by decide +kernel];exact ex_chk
  unfold ciF;rw [if_pos ex_bar,if_pos h];simp only [FR.of_val];decide +kernel
theorem ex_dR : dsc (FR.of 4) (FR.of 1) (FR.of 9) (FR.of 9) false zFR.val = 243:=by unfold dsc;simp only [FR.of_val,zv0];decide +kernel
theorem ex_dL : dsc (FR.of 4) (FR.of 1) (FR.of 9) (FR.of 9) true zFR.val = 275:=by unfold dsc;simp only [FR.of_val,zv0];decide +kernel
theorem ex_enR : enR (FR.of 4) (FR.of 1) (FR.of 9) (FR.of 9) = 1:=by rw [← enR_ok ex_ci,ex_dR];decide +kernel
theorem ex_enL : enL (FR.of 4) (FR.of 1) (FR.of 9) (FR.of 9) = 1:=by rw [← enL_ok ex_ci,ex_dL];decide +kernel
theorem ex_cirs : cirs (FR.of 4) (FR.of 1) (FR.of 9) (FR.of 9) = [(true,false,1),(true,false,-1)]:=by rw [cirs_ok ex_ci,ex_enR,ex_enL];decide +kernel
theorem ex_ofC : ofC (FR.of 4) (FR.of 1) (FR.of 9) (FR.of 9) true zFR (-1) = 0:=by
  have h : exC (FR.of 4) (FR.of 1) (FR.of 9) (FR.of 9) true zFR (-1) = 0:=by rw [exC_r,ex_dL];simp only [FR.of_val,zv0];decide +kernel
  unfold ofC;rw [if_pos ex_ci,if_pos trn_zero,h];decide
theorem ex_ofI : ofI (FR.of 4) (FR.of 1) (FR.of 9) (FR.of 9) true zFR (-1) = 1:=by unfold ofI;rw [ex_ofC,ex_cirs];decide +kernel
instance  : Con Try.prog 18 [] (True) (QUD 64 (FR.of 4) (FR.of 1) (FR.of 9) (FR.of 9)):=.o0 fun hok  hp=>by
  refine St.enter (N:=6) Try.func18 rfl rfl rfl hok enter0 fun a=>?_
  repeat' (first | refine W.run ?_ fun a w G=>?_ | refine W.mv fun a w G=>?_ | refine W.asg fun a w G=>?_ | refine W.bx fun b a w G=>?_ | (refine W.nn hK ?_;clear hK K) | refine W.reg fun K hK=>?_ | refine W.reg1 ?_ | refine W.nl ?_ | refine W.sq fun K hK=>?_ | refine W.ds ?_ (fun β a w G hu=>W.fin ?_ hu) mixedOrders (by kernel_rfl) | refine W.sk ?_ | (refine W.kn hK ?_;clear hK K) | refine W.cd (fun hc=>?_) (fun hc=>?_) | refine W.cb (fun hc=>?_) (fun hc=>?_) | refine W.al fun b a w G=>?_ | refine W.st fun w=>?_ | refine W.stp fun w=>?_ | refine W.ste ?_ fun w=>?_ | refine W.bl ?_ | refine W.bn ?_ | refine W.ex ?_ | refine W.xt ?_ | refine W.xb ?_ | refine W.xo ?_ | refine W.rt ?_ | refine W.tr ?_ | refine W.br ?_ | refine W.rt1 rfl ?_ | refine W.rt2 rfl ?_ ?_ | refine W.rt3 rfl ?_ ?_ ?_ | clear hK K | clear hu | exact True.intro | exact Nat.le_trans (by clear hp;omega) hp | exact Nat.le_trans (by clear hp;omega) hp.1 | exact Nat.le_trans (by clear hp;omega) hp.2 | (clear hp;omega) | apply And.intro | refine GI.i fun _=>?_ | with_reducible rfl | decide | (simp only [List.length_cons,List.length_nil];omega))
instance  : Con Try.prog 6 [] (True) (BT true):=.o0 fun hok  hp=>by
  refine St.enter (N:=66) Try.func6 rfl rfl rfl hok enter0 fun a=>?_
  repeat' (first | refine W.run ?_ fun a w G=>?_ | refine W.mv fun a w G=>?_ | refine W.asg fun a w G=>?_ | refine W.bx fun b a w G=>?_ | (refine W.nn hK ?_;clear hK K) | refine W.reg fun K hK=>?_ | refine W.reg1 ?_ | refine W.nl ?_ | refine W.sq fun K hK=>?_ | refine W.ds ?_ (fun β a w G hu=>W.fin ?_ hu) mixedOrders (by kernel_rfl) | refine W.sk ?_ | (refine W.kn hK ?_;clear hK K) | refine W.cd (fun hc=>?_) (fun hc=>?_) | refine W.cb (fun hc=>?_) (fun hc=>?_) | refine W.al fun b a w G=>?_ | refine W.st fun w=>?_ | refine W.stp fun w=>?_ | refine W.ste ?_ fun w=>?_ | refine W.bl ?_ | refine W.bn ?_ | refine W.ex ?_ | refine W.xt ?_ | refine W.xb ?_ | refine W.xo ?_ | refine W.rt ?_ | refine W.tr ?_ | refine W.br ?_ | refine W.rt1 rfl ?_ | refine W.rt2 rfl ?_ ?_ | refine W.rt3 rfl ?_ ?_ ?_ | clear hK K | clear hu | exact True.intro | exact Nat.le_trans (by clear hp;omega) hp | exact Nat.le_trans (by clear hp;omega) hp.1 | exact Nat.le_trans (by clear hp;omega) hp.2 | (clear hp;omega) | apply And.intro | refine GI.i fun _=>?_ | with_reducible rfl | decide | (simp only [List.length_cons,List.length_nil];omega))
  all_goals first | (rw [ex_cirs];decide) | (rw [ex_ci,ex_ofC,ex_cirs,ex_enR,ex_enL,ex_ofI];decide) | skip
end Go.Proofs.Ytpbkcbnghhodiaa
set_option linter.unusedVariables false
set_option linter.unusedSimpArgs false
set_option maxHeartbeats 4000000
set_option maxRecDepth 100000
set_option synthInstance.maxSize 100000
set_option synthInstance.maxHeartbeats 400000
namespace Go.Proofs.Ytpbkcbnghhodiaa
open Go.RowKit (Below)
attribute [local irreducible] barC trnC btC ciF dsc enR enL cirs exC ofC ofI boC boI boK dirC dirS cirF
def BSX (x : FR × Bool × Int) : MT:=PTS [(some 4,PTS [(some 3,RX x.1),(none,BT x.2.1)]),(none,IT x.2.2)]
instance {x : FR × Bool × Int} : Shp (BSX x) (some 5):=⟨fun h=>PTS.shaped rfl h⟩
instance (priority:=800) Prt.bsx {x : FR × Bool × Int} {i : Nat} {kt : Option Nat} {τ : MT} [h : PrtL [(some 4,PTS [(some 3,RX x.1),(none,BT x.2.1)]),(none,IT x.2.2)] i kt τ] : Prt (BSX x) i kt τ:=(inferInstance : Prt (PTS [(some 4,PTS [(some 3,RX x.1),(none,BT x.2.1)]),(none,IT x.2.2)]) i kt τ)
instance {r : FR} {h : Bool} {m : Int} : AsT (PTS [(some 4,PTS [(some 3,RX r),(none,BT h)]),(none,IT m)]) BSX (r,h,m):=⟨fun h=>h⟩
instance {n : Nat} {r : FR} {h : Bool} {m : Int} : AsT (PTS [(some 4,PTS [(some 3,FX n r),(none,BT h)]),(none,IT m)]) BSX (r,h,m):=⟨fun h=>NR.h h⟩
instance NR.bs {τs : List MT} {xs : List (FR × Bool × Int)} [h : AsTL τs BSX xs] : NR (LSC (some 5) τs) (LS (some 5) (xs.map BSX)):=⟨fun hv=>h.ls hv.1⟩
instance NR.bn : NR (.ex (.slice none 0 0)) (LS (some 5) (([] : List (FR × Bool × Int)).map BSX)):=⟨fun h=>by cases h;exact LS.nil⟩
def shT (x : FR × Bool × Int) : Bool:=shortR x.1
instance : CirT Try.prog 60:=⟨_,_,_,Try.underlying60,by kernel_rfl,by kernel_rfl,rfl,⟨rfl,rfl,rfl⟩,by kernel_rfl,by kernel_rfl,by kernel_rfl,by kernel_rfl,by kernel_rfl,by kernel_rfl⟩
theorem w7 {rg ra rb rc : FR} {l : List (FR × Bool × Int)} : Con Try.prog 7 [PTS [(some 3,RX rg),(some 3,RX ra),(some 3,RX rb),(some 3,RX rc)],LS (some 5) (l.map BSX)] (True) (BT (l.all shT && [rg,ra,rb,rc].all shortR)):=.o2 fun hok h1 h2 hp=>by
  refine St.enter (N:=30) Try.func7 rfl rfl rfl hok (enter2 h1 h2) fun a=>?_
  have hlim:=LS.lenM h2
  simp only [LIM] at hlim
  repeat' (first | refine W.run ?_ fun a w G=>?_ | refine W.mv fun a w G=>?_ | refine W.asg fun a w G=>?_ | refine W.bx fun b a w G=>?_ | (refine W.nn hK ?_;clear hK K) | refine W.reg fun K hK=>?_ | refine W.reg1 ?_ | refine W.nl ?_ | refine W.sq fun K hK=>?_ | refine W.ds ?_ (fun β a w G hu=>W.fin ?_ hu) mixedOrders (by kernel_rfl) | refine W.sk ?_ | (refine W.kn hK ?_;clear hK K) | refine W.cd (fun hc=>?_) (fun hc=>?_) | refine W.cb (fun hc=>?_) (fun hc=>?_) | refine W.al fun b a w G=>?_ | refine W.st fun w=>?_ | refine W.stp fun w=>?_ | refine W.ste ?_ fun w=>?_ | refine W.bl ?_ | refine W.bn ?_ | refine W.ex ?_ | refine W.xt ?_ | refine W.xb ?_ | refine W.xo ?_ | refine W.rt ?_ | refine W.tr ?_ | refine W.br ?_ | refine W.rt1 rfl ?_ | refine W.rt2 rfl ?_ ?_ | refine W.rt3 rfl ?_ ?_ ?_ | refine W.lp 10 (α:=Nat) (fun j=>l.length - j) (fun j=>j ≤ l.length ∧ (l.take j).all shT = true) [4,6,9,10,11,12,13,14,15,16,17,18,19,20,21,22,23,24,25,26,27] (fun j=>[(9,NT j)]) (fun j=>[]) (0) ?_ ?_ ?_ fun j hj a w G=>?_ | refine W.ag (x:=j) (j+1) ?_ ?_ ?_ ?_ | clear hK K | clear hu | exact True.intro | exact Nat.le_trans (by clear hp;omega) hp | exact Nat.le_trans (by clear hp;omega) hp.1 | exact Nat.le_trans (by clear hp;omega) hp.2 | (clear hp;omega) | apply And.intro | refine GI.i fun _=>?_ | with_reducible rfl | decide | (simp only [List.length_cons,List.length_nil];omega))
  all_goals first
    | rfl
    | (rw [all_not (show j < l.length by omega) (shortR_t hc)];rfl)
    | exact all_snoc (show j < l.length by omega) hj.2 (shortR_f hc)
    | (rw [all_end (show ¬ j < l.length by omega) hj.2,Bool.true_and])
instance {rg ra rb rc : FR} {l : List (FR × Bool × Int)} {τ1 : MT} [j1 : NR τ1 (PTS [(some 3,RX rg),(some 3,RX ra),(some 3,RX rb),(some 3,RX rc)])] {τ2 : MT} [j2 : NR τ2 (LS (some 5) (l.map BSX))] : Con Try.prog 7 [τ1,τ2] (True) (BT (l.all shT && [rg,ra,rb,rc].all shortR)):=.o2 fun hok h1 h2 hp=>w7.c2 hok (j1.h h1) (j2.h h2) hp
end Go.Proofs.Ytpbkcbnghhodiaa
set_option linter.unusedVariables false
set_option linter.unusedSimpArgs false
set_option maxHeartbeats 4000000
set_option maxRecDepth 100000
set_option synthInstance.maxSize 100000
set_option synthInstance.maxHeartbeats 400000
namespace Go.Proofs.Ytpbkcbnghhodiaa
open Go.RowKit (Below)
attribute [local irreducible] barC trnC btC ciF dsc enR enL cirs exC ofC ofI boC boI boK dirC dirS cirF
theorem shortT {l : List FR} {xs : List (FR × Bool × Int)} (h : (xs.all shT && l.all shortR) = true) : (!true || !(xs.all shT && l.all shortR)) = false:=by rw [h];rfl
theorem longT {l : List FR} {xs : List (FR × Bool × Int)} (h : (xs.all shT && l.all shortR) = false) : (!true || !(xs.all shT && l.all shortR)) = true:=by rw [h];rfl
end Go.Proofs.Ytpbkcbnghhodiaa
namespace Go.Proofs.Ytpbkcbnghhodiaa
theorem sq_nn (z : Rat) : 0 ≤ z * z:=by
  rcases (Rat.le_total : 0 ≤ z ∨ z ≤ 0) with h | h
  · exact Rat.mul_nonneg h h
  · have:=Rat.mul_nonneg (show 0 ≤ -z by grind) (show 0 ≤ -z by grind);grind
def dK (g a b c k : Rat) : Rat:=4 * (b * c) - (b + c - (g * g + a * a - 2 * (g * a * k))) * (b + c - (g * g + a * a - 2 * (g * a * k)))
theorem inv_pos {u : Rat} (h : 0 < u) : ∃ v : Rat,0 < v ∧ u * v = 1:=by
  refine ⟨u⁻¹,?_,Rat.mul_inv_cancel u (by grind)⟩
  exact Rat.inv_pos.2 h
theorem dir_rep (t : Rat) : ∃ v : Rat,0 < v ∧ (1 + t * t) * v = 1 ∧ dirC false t = (1 - t * t) * v ∧ dirS false t = (t + t) * v:=by
  have hu : 0 < 1 + t * t:=by have:=sq_nn t;grind
  obtain ⟨v,hv,e⟩:=inv_pos hu
  have hi : v = (1 + t * t)⁻¹:=by
    have:=Rat.mul_inv_cancel (1 + t * t) (by grind)
    grind
  exact ⟨v,hv,e,by unfold dirC;rw [if_neg (by decide),Rat.div_def,hi],by unfold dirS;rw [if_neg (by decide),Rat.div_def,hi]⟩
theorem dir_sq (h : Bool) (t : Rat) : dirC h t * dirC h t + dirS h t * dirS h t = 1:=by
  cases h with
  | true=>simp [dirC,dirS];grind
  | false=>obtain ⟨v,_,e,h1,h2⟩:=dir_rep t;rw [h1,h2];grind
theorem dirC_bd (h : Bool) (t : Rat) : -1 ≤ dirC h t ∧ dirC h t ≤ 1:=by
  cases h with
  | true=>simp [dirC];grind
  | false =>
    obtain ⟨v,hv,e,h1,_⟩:=dir_rep t
    have h2:=Rat.mul_nonneg (sq_nn t) (Rat.le_of_lt hv)
    rw [h1];constructor <;> grind
theorem dsc_k (g a b c : FR) (h : Bool) (t : Rat) : dsc g a b c h t = dK g.val a.val b.val c.val (dirC h t):=by
  have e:=dir_sq h t
  unfold dsc discF d2F wayX wayY dK
  generalize dirC h t = C at *;generalize dirS h t = S at *
  grind
theorem dK_mid {g a b c x y k : Rat} (h1 : x ≤ k) (h2 : k ≤ y) (hx : 0 < dK g a b c x) (hy : 0 < dK g a b c y) : 0 < dK g a b c k:=by
  by_cases hxy : x = y
  · obtain rfl : k = x:=by grind
    exact hx
  · have e : (y - x) * dK g a b c k = (y - k) * dK g a b c x + (k - x) * dK g a b c y + (y - x) * ((y - k) * (k - x)) * (2 * (g * a) * (2 * (g * a))):=by unfold dK;grind
    have h3 : 0 ≤ (y - k) * dK g a b c x:=Rat.mul_nonneg (by grind) (Rat.le_of_lt hx)
    have h4 : 0 ≤ (k - x) * dK g a b c y:=Rat.mul_nonneg (by grind) (Rat.le_of_lt hy)
    have h5 : 0 ≤ (y - x) * ((y - k) * (k - x)) * (2 * (g * a) * (2 * (g * a))):=Rat.mul_nonneg (Rat.mul_nonneg (by grind) (Rat.mul_nonneg (by grind) (by grind))) (sq_nn _)
    have h6 : 0 < (y - k) * dK g a b c x + (k - x) * dK g a b c y:=by
      by_cases hk : k = x
      · have:=Rat.mul_pos (show 0 < y - k by grind) hx;grind
      · have:=Rat.mul_pos (show 0 < k - x by grind) hy;grind
    rcases (show 0 < dK g a b c k ∨ dK g a b c k ≤ 0 by grind) with h7 | h7
    · exact h7
    · have:=Rat.mul_nonneg (show 0 ≤ y - x by grind) (show 0 ≤ -dK g a b c k by grind);grind
theorem num_sg (x : Rat) : (x.num.sign = 1 ↔ 0 < x) ∧ (x.num.sign = 0 ↔ x = 0) ∧ (x.num.sign < 0 ↔ x < 0):=by
  have h1:=@rat_pos_iff x;have h2:=@Rat.num_eq_zero x;have h3:=sgn_cases x.num
  refine ⟨by rw [h1];omega,by rw [← h2];omega,?_⟩
  constructor
  · intro h;have : ¬ 0 < x:=fun k=>by have:=h1.1 k;omega
    have : x ≠ 0:=fun e=>by have:=h2.2 e;omega
    grind
  · intro h;have : ¬ 0 < x.num:=fun k=>by have:=h1.2 k;grind
    have : x.num ≠ 0:=fun e=>by have:=h2.1 e;grind
    omega
theorem exC_0 {g a b c : FR} {h : Bool} {t : FR} {m : Int} (e : exC g a b c h t m = 0) : 0 ≤ dsc g a b c h t.val ∧ (dsc g a b c h t.val = 0 ↔ m = 0):=by
  have h3:=num_sg (dsc g a b c h t.val)
  unfold exC exK at e
  split at e
  · cases e
  · rename_i hn
    simp only [Bool.not_eq_true,Bool.or_eq_false_iff,decide_eq_false_iff_not,Bool.not_eq_false',beq_iff_eq,decide_eq_decide] at hn
    refine ⟨?_,by rw [← h3.2.1];exact hn.2⟩
    have:=hn.1.2
    rw [h3.2.2] at this;grind
theorem ofC_0 {g a b c : FR} {h : Bool} {t : FR} {m : Int} (e : ofC g a b c h t m = 0) (hc : ciF g a b c = 0) : trnF h t = true ∧ -1 ≤ m ∧ m ≤ 1 ∧ exC g a b c h t m = 0:=by
  unfold ofC at e
  rw [if_pos hc] at e
  split at e
  · split at e
    · cases e
    · exact ⟨‹_›,by omega,by omega,e⟩
  · cases e
theorem dirC_one : dirC false 0 = 1:=by decide +kernel
theorem dirC_neg1 : dirC true 0 = -1:=rfl
theorem full_pos {g a b c : FR} (h1 : 0 < dsc g a b c false 0) (h2 : 0 < dsc g a b c true 0) (h : Bool) (t : Rat) : 0 < dsc g a b c h t:=by
  rw [dsc_k] at *
  rw [dirC_one] at h1;rw [dirC_neg1] at h2
  exact dK_mid (dirC_bd h t).1 (dirC_bd h t).2 h2 h1
theorem trn_half {h : Bool} {t : FR} (ht : trnF h t = true) : t.ok = true ∧ (h = true → t.val = 0):=by
  unfold trnF at ht
  simp only [Bool.and_eq_true,Bool.or_eq_true,Bool.not_eq_true',decide_eq_true_eq] at ht
  refine ⟨ht.1,fun e=>?_⟩
  rcases ht.2 with h1 | h1
  · rw [e] at h1;cases h1
  · exact (num_sg _).2.1.1 h1
theorem cirs_two {g a b c : FR} (hc : ciF g a b c = 0) : (cirs g a b c).length = 1 ∨ (cirs g a b c).length = 2 ∧ (((cirs g a b c).getD 0 default).1 = true ∧ 0 < dsc g a b c false 0 ∧ 0 < dsc g a b c true 0 ∨ ((cirs g a b c).getD 0 default).1 = false ∧ dsc g a b c false 0 < 0 ∧ dsc g a b c true 0 < 0):=by
  have e1:=enR_ok hc;have e2:=enL_ok hc
  rw [cirs_ok hc,← e1,← e2]
  have n1:=num_sg (dsc g a b c false 0);have n2:=num_sg (dsc g a b c true 0)
  have s1:=sgn_cases (dsc g a b c false 0).num;have s2:=sgn_cases (dsc g a b c true 0).num
  change (cirF (dsc g a b c false 0).num.sign (dsc g a b c true 0).num.sign).length = 1 ∨ (cirF (dsc g a b c false 0).num.sign (dsc g a b c true 0).num.sign).length = 2 ∧ (((cirF (dsc g a b c false 0).num.sign (dsc g a b c true 0).num.sign).getD 0 default).1 = true ∧ _ ∨ ((cirF (dsc g a b c false 0).num.sign (dsc g a b c true 0).num.sign).getD 0 default).1 = false ∧ _)
  unfold cirF
  split
  · rename_i h;exact .inr ⟨rfl,.inl ⟨rfl,n1.1.1 (by omega),n2.1.1 (by omega)⟩⟩
  · split
    · exact .inl rfl
    · split
      · exact .inl rfl
      · exact .inr ⟨rfl,.inr ⟨rfl,n1.2.2.1 (by omega),n2.2.2.1 (by omega)⟩⟩
theorem off_line {g a b c : FR} {h : Bool} {t : FR} {m : Int} (ht : trnF h t = true) (e : exC g a b c h t m = 0) (h1 : dsc g a b c false 0 < 0) (h2 : dsc g a b c true 0 < 0) : h = false ∧ t.val ≠ 0:=by
  have h3:=(exC_0 e).1
  have h4:=trn_half ht
  cases h with
  | true=>rw [h4.2 rfl] at h3;grind
  | false=>exact ⟨rfl,fun e=>by rw [e] at h3;grind⟩
theorem neg_dsc (g a b c : FR) (h : Bool) (t : Rat) : dsc g a b c h (-t) = dsc g a b c h t:=by
  rw [dsc_k,dsc_k]
  congr 1
  unfold dirC;split
  · rfl
  · rw [show -t * -t = t * t by grind]
theorem neg_exC {g a b c : FR} {h : Bool} {t : FR} {m : Int} (e : exC g a b c h t m = 0) : exC g a b c h (FR.of (-t.val)) (-m) = 0:=by
  have h1 : dirC h (-t.val) = dirC h t.val:=by
    unfold dirC;split
    · rfl
    · rw [show -t.val * -t.val = t.val * t.val by grind]
  have h2 : dirS h (-t.val) = -dirS h t.val:=by
    unfold dirS;split
    · rfl
    · rw [show -t.val * -t.val = t.val * t.val by grind,show -t.val + -t.val = -(t.val + t.val) by grind,Rat.div_def,Rat.div_def,Rat.neg_mul]
  have h3 : decide ((a.val * dirS h (-t.val)).num.sign = 0) = decide ((a.val * dirS h t.val).num.sign = 0):=by
    refine decide_eq_decide.2 ?_
    rw [(num_sg _).2.1,(num_sg _).2.1,h2];constructor <;> intro k <;> grind
  have h4 : decide (-m = 0) = decide (m = 0):=decide_eq_decide.2 (by omega)
  rw [← e]
  unfold exC
  rw [FR.of_val,neg_dsc,h1,h3,h4]
theorem mirror_ok {g a b c : FR} {h : Bool} {t : FR} {m : Int} (hc : ciF g a b c = 0) (e : ofC g a b c h t m = 0) : ofC g a b c h (FR.of (-t.val)) (-m) = 0 ∧
    ((cirs g a b c).length = 1 ∧ ofI g a b c h t m = 0 ∧ ofI g a b c h (FR.of (-t.val)) (-m) = 0 ∨ (cirs g a b c).length = 2 ∧ ofI g a b c h t m + ofI g a b c h (FR.of (-t.val)) (-m) = 1):=by
  obtain ⟨h1,h2,h3,h4⟩:=ofC_0 e hc
  have ht : trnF h (FR.of (-t.val)) = true:=by
    unfold trnF
    rw [FR.of_ok,FR.of_val,Bool.true_and]
    simp only [Bool.or_eq_true,Bool.not_eq_true',decide_eq_true_eq]
    cases h with
    | false=>exact .inl rfl
    | true=>rw [(trn_half h1).2 rfl];exact .inr (by decide +kernel)
  have hz : ofC g a b c h (FR.of (-t.val)) (-m) = 0:=by
    unfold ofC
    rw [if_pos hc,if_pos ht,if_neg (by omega),neg_exC h4]
  refine ⟨hz,?_⟩
  unfold ofI
  rw [if_pos e,if_pos hz]
  rcases cirs_two hc with h5 | ⟨h5,h6⟩
  · left;rw [if_pos h5,if_pos h5];exact ⟨h5,rfl,rfl⟩
  · right;refine ⟨h5,?_⟩
    have hl : ¬ (cirs g a b c).length = 1:=by omega
    rw [if_neg hl,if_neg hl]
    unfold ofK
    rcases h6 with ⟨h6,h7,h8⟩ | ⟨h6,h7,h8⟩
    · have h9:=full_pos h7 h8 h t.val
      have hm : m ≠ 0:=fun k=>by have:=(exC_0 h4).2.2 k;grind
      rw [h6]
      rcases (show m = -1 ∨ m = 1 by omega) with k | k <;> subst k <;> rfl
    · have h9:=off_line h1 h4 h7 h8
      rw [h6,FR.of_val]
      have n1:=(num_sg t.val).2.2;have n2:=(num_sg (-t.val)).2.2
      rcases (show t.val < 0 ∨ 0 < t.val by grind) with k | k
      · have k1:=n1.2 k
        have k2 : ¬ (-t.val).num.sign < 0:=fun q=>by have:=n2.1 q;grind
        simp only [Bool.false_and,Bool.false_or,Bool.not_false,Bool.true_and,k1,k2,decide_true,decide_false,if_true];rfl
      · have k1 : ¬ t.val.num.sign < 0:=fun q=>by have:=n1.1 q;grind
        have k2:=n2.2 (show -t.val < 0 by grind)
        simp only [Bool.false_and,Bool.false_or,Bool.not_false,Bool.true_and,k1,k2,decide_true,decide_false,if_true];rfl
theorem ofI_bds (g a b c : FR) (h : Bool) (t : FR) (m : Int) : 0 ≤ ofI g a b c h t m ∧ ofI g a b c h t m ≤ 1:=by
  unfold ofI;split <;> (try split) <;> (try split) <;> decide
end Go.Proofs.Ytpbkcbnghhodiaa
set_option linter.unusedVariables false
set_option linter.unusedSimpArgs false
set_option maxHeartbeats 4000000
set_option maxRecDepth 100000
set_option synthInstance.maxSize 100000
set_option synthInstance.maxHeartbeats 400000
namespace Go.Proofs.Ytpbkcbnghhodiaa
open Go.RowKit (Below)
attribute [local irreducible] barC trnC btC ciF dsc enR enL cirs exC ofC ofI boC boI boK dirC dirS cirF
theorem longCircuitsMirror {rg ra rb rc t : FR} {hx : Bool} {md : Int} : Con Try.prog 3 [PTS [(some 3,RX rg),(some 3,RX ra),(some 3,RX rb),(some 3,RX rc)],PTS [(some 4,PTS [(some 3,RX t),(none,BT hx)]),(none,IT md)]] (([(t,hx,md)].all shT && [rg,ra,rb,rc].all shortR) = false) (BT true):=.o2 fun hok h1 h2 hp=>by
  refine St.enter (N:=81) Try.func3 rfl rfl rfl hok (enter2 h1 h2) fun a=>?_
  repeat' (first | refine W.cbt (longT hp) ?_ | refine W.run ?_ fun a w G=>?_ | refine W.mv fun a w G=>?_ | refine W.asg fun a w G=>?_ | refine W.bx fun b a w G=>?_ | (refine W.nn hK ?_;clear hK K) | refine W.reg fun K hK=>?_ | refine W.reg1 ?_ | refine W.nl ?_ | refine W.sq fun K hK=>?_ | refine W.ds ?_ (fun β a w G hu=>W.fin ?_ hu) mixedOrders (by kernel_rfl) | refine W.sk ?_ | (refine W.kn hK ?_;clear hK K) | refine W.cd (fun hc=>?_) (fun hc=>?_) | refine W.cb (fun hc=>?_) (fun hc=>?_) | refine W.al fun b a w G=>?_ | refine W.st fun w=>?_ | refine W.stp fun w=>?_ | refine W.ste ?_ fun w=>?_ | refine W.bl ?_ | refine W.bn ?_ | refine W.ex ?_ | refine W.xt ?_ | refine W.xb ?_ | refine W.xo ?_ | refine W.rt ?_ | refine W.tr ?_ | refine W.br ?_ | refine W.rt1 rfl ?_ | refine W.rt2 rfl ?_ ?_ | refine W.rt3 rfl ?_ ?_ ?_ | clear hK K | clear hu | exact True.intro | exact Nat.le_trans (by clear hp;omega) hp | exact Nat.le_trans (by clear hp;omega) hp.1 | exact Nat.le_trans (by clear hp;omega) hp.2 | (clear hp;omega) | apply And.intro | refine GI.i fun _=>?_ | with_reducible rfl | decide | (simp only [List.length_cons,List.length_nil];omega))
theorem shortCircuitsMirror {rg ra rb rc t : FR} {hx : Bool} {md : Int} : Con Try.prog 3 [QUD 64 rg ra rb rc,BST 64 t hx md] (([(t,hx,md)].all shT && [rg,ra,rb,rc].all shortR) = true) (BT true):=.o2 fun hok h1 h2 hp=>by
  refine St.enter (N:=81) Try.func3 rfl rfl rfl hok (enter2 h1 h2) fun a=>?_
  repeat' (first | refine W.cbf (shortT hp) ?_ | refine W.run ?_ fun a w G=>?_ | refine W.mv fun a w G=>?_ | refine W.asg fun a w G=>?_ | refine W.bx fun b a w G=>?_ | (refine W.nn hK ?_;clear hK K) | refine W.reg fun K hK=>?_ | refine W.reg1 ?_ | refine W.nl ?_ | refine W.sq fun K hK=>?_ | refine W.ds ?_ (fun β a w G hu=>W.fin ?_ hu) mixedOrders (by kernel_rfl) | refine W.sk ?_ | (refine W.kn hK ?_;clear hK K) | refine W.cd (fun hc=>?_) (fun hc=>?_) | refine W.cb (fun hc=>?_) (fun hc=>?_) | refine W.al fun b a w G=>?_ | refine W.st fun w=>?_ | refine W.stp fun w=>?_ | refine W.ste ?_ fun w=>?_ | refine W.bl ?_ | refine W.bn ?_ | refine W.ex ?_ | refine W.xt ?_ | refine W.xb ?_ | refine W.xo ?_ | refine W.rt ?_ | refine W.tr ?_ | refine W.br ?_ | refine W.rt1 rfl ?_ | refine W.rt2 rfl ?_ ?_ | refine W.rt3 rfl ?_ ?_ ?_ | clear hK K | clear hu | exact True.intro | exact Nat.le_trans (by clear hp;omega) hp | exact Nat.le_trans (by clear hp;omega) hp.1 | exact Nat.le_trans (by clear hp;omega) hp.2 | (clear hp;omega) | apply And.intro | refine GI.i fun _=>?_ | with_reducible rfl | decide | (simp only [List.length_cons,List.length_nil];omega))
  all_goals first
    | (have hb := ofI_bds rg ra rb rc hx t md; have hb2 := ofI_bds rg ra rb rc hx (FR.of (-t.val)) (-md)
       simp only [Bool.or_eq_false_iff,decide_eq_false_iff_not,Classical.not_not] at hc
       have hz:=ofC_0 hc.2 hc.1
       first
       | omega
       | (obtain ⟨e1, e2⟩ := mirror_ok hc.1 hc.2
          rcases e2 with ⟨e2,e3,e4⟩ | ⟨e2,e3⟩
          · simp [e1,e2,e3,e4]
          · simp [e1,e2,e3]))
    | skip
theorem lawCircuitsMirror {rg ra rb rc t : FR} {hx : Bool} {md : Int} {w : World} {G : Gh} {v1 v2 : Value} (hok : Gok w G) (h1 : (PTS [(some 3,RX rg),(some 3,RX ra),(some 3,RX rb),(some 3,RX rc)]).t v1 G) (h2 : (PTS [(some 4,PTS [(some 3,RX t),(none,BT hx)]),(none,IT md)]).t v2 G) : Calls Try.prog 3 #[v1,v2] w (Ret w G (BT true)):=by
  cases hs : ([(t,hx,md)].all shT && [rg,ra,rb,rc].all shortR) with
  | true =>
    have hq:=hs
    simp only [List.all_cons,List.all_nil,Bool.and_true,Bool.and_eq_true,shT] at hq
    exact shortCircuitsMirror.c2 hok (NS.h (τ':=QUD 64 rg ra rb rc) (by simp only [and_true];grind) h1) (NS.h (τ':=BST 64 t hx md) (by simp only [and_true];grind) h2) hs
  | false=>exact longCircuitsMirror.c2 hok h1 h2 hs
end Go.Proofs.Ytpbkcbnghhodiaa
namespace Go.Proofs.Ytpbkcbnghhodiaa
open Go.RowKit (Below)
def G0of (W : World) : Gh:=fun b=>W.heap[b]?
theorem G0of_ok (W : World) : Gok W (G0of W):=fun _ _ h=>h
theorem Gc_G0 {W : World} {b i : Nat} : Gc (G0of W) b i = W.cell? ⟨b,i,none⟩:=by
  unfold Gc G0of World.cell?;cases W.heap[b]? with
  | none=>rfl
  | some o=>cases o <;> rfl
def RdA (P : Program) (W : World) (t : TypeId) (k : Option Nat) (A : MT → Prop) : Prop:=∀ (H : Type) (enc : TypeId × Value → H) (fuel : Nat) (cs : List Value) (x : DataW H × List MemPlace),
  DataW.trod enc P W 0 (fun _=>true) true fuel t cs = some x → (x.1.weights P t).all (· ≤ reachBytes) = true → ∃ (v : Value) (τ : MT),A τ ∧ v.cells.toList = cs ∧ Shaped k v ∧ τ.t v (G0of W)
section
variable {P : Program} {W : World} {t e : TypeId} {k : Option Nat} {A A' : MT → Prop}
theorem RdA.mono (h : RdA P W t k A) (hA : ∀ τ v,A τ → τ.t v (G0of W) → ∃ σ,A' σ ∧ σ.t v (G0of W)) : RdA P W t k A':=fun H enc fuel cs x hx hw=>by
  obtain ⟨v,τ,h1,h2,h3,h4⟩:=h H enc fuel cs x hx hw
  obtain ⟨σ,h5,h6⟩:=hA τ v h1 h4
  exact ⟨v,σ,h5,h2,h3,h6⟩
theorem rd_bool (ht : P.underlying t = some .bool) : RdA P W t none (fun τ=>∃ b,τ = .ex (.bool b)):=fun H enc fuel cs x hx hw=>by
  obtain ⟨b,rfl,rfl⟩:=DataW.trod_bool ht hx
  exact ⟨.bool b,_,⟨b,rfl⟩,rfl,⟨rfl,rfl⟩,rfl⟩
theorem rd_int {kk : IntKind} (ht : P.underlying t = some (.int kk)) : RdA P W t none (fun τ=>∃ z,(Lit.int kk z).wf = true ∧ τ = .ex (.int kk z)):=fun H enc fuel cs x hx hw=>by
  obtain ⟨z,rfl,rfl,h⟩:=DataW.trod_int ht hx
  exact ⟨.int kk z,_,⟨z,h,rfl⟩,rfl,⟨rfl,rfl⟩,rfl⟩
theorem rd_i64 (ht : P.underlying t = some (.int .i64)) : RdA P W t none (fun τ=>∃ z : Int,τ = .ex (.int .i64 z)):=(rd_int ht).mono fun τ v ⟨z,_,e⟩ hv=>⟨τ,⟨z,e⟩,hv⟩
theorem cells_get {a : Addr} {n : Nat} {L : List Value} (h : W.cells? 0 a n = some L) : L.length = n ∧ ∀ j,j < n → W.cell? (a.add j) = L[j]?:=by
  unfold World.cells? at h
  rw [if_pos (Nat.zero_le _)] at h
  exact ⟨by simpa using mapM_some_length h,fun j hj=>mapM_some_get h j j (by simp [hj])⟩
theorem weightsAll_mem {H : Type} {es : List (DataW H)} {d : DataW H} {i : Nat} (hi : es[i]? = some d) : ∀ n ∈ d.weights P e,n ∈ DataW.weightsAll P e es:=by
  induction es generalizing i with
  | nil=>simp at hi
  | cons x r ih =>
    intro n hn
    rw [DataW.weightsAll,List.mem_append]
    cases i with
    | zero=>simp at hi;subst hi;exact .inl hn
    | succ j=>exact .inr (ih (by simpa using hi) n hn)
theorem rd_slice (ht : P.underlying t = some (.slice e)) (hc : P.cellsOf e = k.getD 1) (hc0 : 0 < k.getD 1) (hb : 4 ≤ P.bytesOf e) (h : RdA P W e k A) : RdA P W t none (fun τ=>∃ τs,(∀ σ ∈ τs,A σ) ∧ τ = LS k τs):=fun H enc fuel cs x hx hw=>by
  rcases DataW.trod_slice ht hx with ⟨rfl,rfl⟩ | ⟨a,len,cap,elems,rest,n,rfl,rfl,rfl,hb0,hlc,hcm,hel,hE,_,_⟩
  · exact ⟨.slice none 0 0,LS k [],⟨[],by simp,rfl⟩,rfl,⟨rfl,rfl⟩,LS.nil⟩
  · simp only [DataW.weights,ht,List.all_cons,List.all_append,Bool.and_eq_true,decide_eq_true_eq] at hw
    obtain ⟨hw1,hw2,_⟩:=hw
    have hlim : len ≤ LIM:=by
      have h1 : len * 4 ≤ ((elems.map (·.1)).length + (rest.map (·.1)).length) * P.bytesOf e:=Nat.mul_le_mul (by simp;omega) hb
      have h2 : reachBytes = 140737488351232:=rfl
      simp only [LIM];omega
    have each : ∀ i,∃ (v : Value) (τ : MT),i < len → W.cells? 0 (a.add (i * k.getD 1)) (k.getD 1) = some v.cells.toList ∧ A τ ∧ Shaped k v ∧ τ.t v (G0of W):=fun i=>by
      by_cases hi : i < len
      · have h1:=hE i hi
        rw [List.getElem?_eq_getElem (by omega),Option.bind_eq_some_iff,hc] at h1
        obtain ⟨cs',h2,h3⟩:=h1
        obtain ⟨v,τ,h4,h5,h6,h7⟩:=h H enc n cs' _ h3 (List.all_eq_true.2 fun m hm=>List.all_eq_true.1 hw2 m (weightsAll_mem (i:=i) (by rw [List.getElem?_map,List.getElem?_eq_getElem (by omega)];rfl) m hm))
        exact ⟨v,τ,fun _=>⟨by rw [h5];exact h2,h4,h6,h7⟩⟩
      · exact ⟨undef,.ex undef,fun h=>absurd h hi⟩
    obtain ⟨f,g,hfg⟩ : ∃ (f : Nat → Value) (g : Nat → MT),∀ i,i < len → W.cells? 0 (a.add (i * k.getD 1)) (k.getD 1) = some (f i).cells.toList ∧ A (g i) ∧ Shaped k (f i) ∧ (g i).t (f i) (G0of W):=⟨fun i=>(each i).choose,fun i=>(each i).choose_spec.choose,fun i=>(each i).choose_spec.choose_spec⟩
    refine ⟨.slice (some a) len cap,LS k ((List.range len).map g),⟨_,fun σ hσ=>?_,rfl⟩,rfl,⟨rfl,rfl⟩,LS.of_vals (us:=(List.range len).map f) (A:=some a) (c:=cap) (by simp) (by simpa using hlc) (by simpa using hlim) ⟨by simp,fun i τ u hi hu=>?_⟩ fun i u hu=>?_⟩
    · obtain ⟨i,hi,rfl⟩:=List.mem_map.1 hσ
      exact (hfg i (by simpa using hi)).2.1
    · have hlt : i < len:=by have:=(List.getElem?_eq_some_iff.1 hi).1;simpa using this
      simp [List.getElem?_range hlt] at hi hu
      subst hi;subst hu
      exact (hfg i hlt).2.2
    · have hlt : i < len:=by have:=(List.getElem?_eq_some_iff.1 hu).1;simpa using this
      simp [List.getElem?_range hlt] at hu
      subst hu
      obtain ⟨h1,h2,h3,h4⟩:=hfg i hlt
      obtain ⟨h5,h6⟩:=cells_get h1
      obtain ⟨g5,g6⟩:=cells_get (hfg 0 (by omega)).1
      obtain ⟨b,off,spot⟩:=a
      have h7:=g6 0 hc0
      rw [List.getElem?_eq_getElem (by omega)] at h7
      have hs : spot = none:=by simpa [Addr.add] using World.cell?_spot h7
      subst hs
      refine ⟨b,off,rfl,fun j x hj=>?_⟩
      have hjl : j < k.getD 1:=by have:=(Array.getElem?_eq_some_iff.1 hj).1;rw [← h5,Array.length_toList];exact this
      have h8:=h6 j hjl
      rw [Gc_G0]
      rw [addr_add,addr_add,Array.getElem?_toList,hj] at h8
      exact h8
theorem forall_map' {α : Type} {T : α → MT} {p : α → Prop} {τs : List MT} (h : ∀ σ ∈ τs,∃ x,p x ∧ σ = T x) : ∃ xs : List α,τs = xs.map T ∧ ∀ x ∈ xs,p x:=by
  induction τs with
  | nil=>exact ⟨[],rfl,by simp⟩
  | cons a r ih =>
    obtain ⟨l,rfl,hl⟩:=ih fun σ h'=>h σ (List.mem_cons_of_mem _ h')
    obtain ⟨x,hx,rfl⟩:=h a (List.mem_cons_self ..)
    exact ⟨x :: l,rfl,by simpa using ⟨hx,hl⟩⟩
theorem rd_words (ht : P.underlying t = some (.slice e)) (hu : P.underlying e = some (.int .u32)) (hc : P.cellsOf e = 1) (hb : 4 ≤ P.bytesOf e) : RdA P W t none (fun τ=>∃ l,τ = SL l):=by
  have h1 : RdA P W e none (fun τ=>∃ x : Nat,x < 4294967296 ∧ τ = .ex (u32 x)):=(rd_int hu).mono fun τ v ⟨z,hz,hτ⟩ hv=>by
    subst hτ
    have hm : IntKind.u32.min = 0:=by decide
    have hM : IntKind.u32.max = 4294967295:=by decide
    simp [Lit.wf,hm,hM] at hz
    exact ⟨_,⟨z.toNat,by omega,rfl⟩,by
      have : (z.toNat : Int) = z:=by omega
      show v = .int .u32 (z.toNat : Int);rw [this];exact hv⟩
  refine (rd_slice (k:=none) ht hc (by decide) hb h1).mono fun τ v ⟨τs,hσ,hτ⟩ hv=>?_
  subst hτ
  obtain ⟨l,hl,hlt⟩:=forall_map' hσ
  subst hl
  obtain ⟨A,c,us,h2,h3,h4,h5,h6⟩:=LS.vals hv
  rw [List.length_map] at h2 h3 h4
  refine ⟨_,⟨l,rfl⟩,A,c,h2,h3,h4,hlt,fun i x hi=>?_⟩
  have hil:=(List.getElem?_eq_some_iff.1 hi).1
  have hul : i < us.length:=by rw [h5.1,List.length_map];exact hil
  have hui : us[i]? = some us[i]:=by rw [List.getElem?_eq_getElem hul]
  have h7:=(h5.2 i (.ex (u32 x)) us[i] (by rw [List.getElem?_map,hi];rfl) hui).2
  obtain ⟨b,off,e1,h8⟩:=h6 i us[i] hui
  refine ⟨b,off,e1,?_⟩
  have h9 : us[i] = u32 x:=h7
  rw [h9] at h8
  simpa using h8 0 (u32 x) rfl
def FldOk (P : Program) (W : World) : Nat → List Field → List (Option Nat × (MT → Prop)) → Prop
  | _,[],[]=>True
  | off,f :: fs,a :: As=>f.offset = off ∧ P.cellsOf f.type = a.1.getD 1 ∧ RdA P W f.type a.1 a.2 ∧ FldOk P W (off + a.1.getD 1) fs As
  | _,_,_=>False
def Mt : List (Option Nat × (MT → Prop)) → List (Option Nat × MT) → Prop
  | [],[]=>True
  | a :: As,f :: F=>f.1 = a.1 ∧ a.2 f.2 ∧ Mt As F
  | _,_=>False
def tot (As : List (Option Nat × (MT → Prop))) : Nat:=(As.map fun a=>a.1.getD 1).sum
theorem Mt.tot : ∀ {As : List (Option Nat × (MT → Prop))} {F : List (Option Nat × MT)},Mt As F → (F.map fun f=>f.1.getD 1).sum = Go.Proofs.Ytpbkcbnghhodiaa.tot As
  | [],[],_=>rfl
  | a :: As,f :: F,h=>by
    have:=Mt.tot h.2.2
    simp only [Go.Proofs.Ytpbkcbnghhodiaa.tot,List.map_cons,List.sum_cons,h.1] at this ⊢
    rw [this]
  | [],_ :: _,h=>h.elim
  | _ :: _,[],h=>h.elim
theorem rd_fields {H : Type} {enc : TypeId × Value → H} {n : Nat} {cs : List Value} : ∀ (fs : List Field) (As : List (Option Nat × (MT → Prop))) (xs : List (DataW H × List MemPlace)) (off : Nat), FldOk P W off fs As → xs.length = fs.length →
    (∀ (i : Nat) (f : Field),fs[i]? = some f → DataW.trod enc P W 0 (fun _=>true) true n f.type ((cs.drop f.offset).take (P.cellsOf f.type)) = xs[i]?) → (DataW.weightsEach P (fs.map (·.type)) (xs.map (·.1))).all (· ≤ reachBytes) = true → cs.length = off + tot As →
    ∃ us F,Mt As F ∧ flat us = cs.drop off ∧ us.length = F.length ∧ ∀ (i : Nat) (f : Option Nat × MT) (u : Value),F[i]? = some f → us[i]? = some u → Shaped f.1 u ∧ f.2.t u (G0of W)
  | [],[],xs,off,_,_,_,_,hl=>⟨[],[],trivial,by rw [List.drop_eq_nil_of_le (by rw [hl];simp [tot])];rfl,rfl,fun i f u h=>by simp at h⟩
  | f :: fs,a :: As,[],off,_,hx,_,_,_=>by simp at hx
  | f :: fs,a :: As,x :: xs,off,hF,hx,hT,hw,hl=>by
    obtain ⟨h1,h2,h3,h4⟩:=hF
    simp only [List.map_cons,DataW.weightsEach,List.all_append,Bool.and_eq_true] at hw
    obtain ⟨v,τ,h5,h6,h7,h8⟩:=h3 H enc n _ x (hT 0 f rfl) hw.1
    obtain ⟨us,F,g1,g2,g3,g4⟩:=rd_fields fs As xs (off + a.1.getD 1) h4 (by simpa using hx) (fun i g hg=>by simpa using hT (i + 1) g (by simpa using hg)) hw.2 (by rw [hl];simp [tot];omega)
    refine ⟨v :: us,(a.1,τ) :: F,⟨rfl,h5,g1⟩,?_,by simp [g3],fun i f' u hf hu=>?_⟩
    · rw [flat_cons,h6,g2,h1,h2,← List.drop_drop,List.take_append_drop]
    · cases i with
      | zero=>simp at hf hu;subst hf;subst hu;exact ⟨h7,h8⟩
      | succ i=>exact g4 i f' u (by simpa using hf) (by simpa using hu)
  | [],_ :: _,_,_,h,_,_,_,_=>h.elim
  | _ :: _,[],_,_,h,_,_,_,_=>h.elim
theorem rd_struct {fs : Array Field} {As : List (Option Nat × (MT → Prop))} {n : Nat} (ht : P.underlying t = some (.struct fs)) (hn : P.cellsOf t = n) (hnA : tot As = n) (hF : FldOk P W 0 fs.toList As) : RdA P W t (some n) (fun τ=>∃ F,Mt As F ∧ τ = PTS F):=fun H enc fuel cs x hx hw=>by
  obtain ⟨xs,m,rfl,rfl,hl,hxl,hT⟩:=DataW.trod_struct ht hx
  simp only [DataW.weights,ht] at hw
  obtain ⟨us,F,h1,h2,h3,h4⟩:=rd_fields fs.toList As xs 0 hF (by simpa using hxl) (fun i f hf=>hT i f (by simpa using hf)) hw (by omega)
  have hP : (PTS F).t (.agg (flat us).toArray) (G0of W):=⟨us,rfl,h3,h4⟩
  refine ⟨.agg (flat us).toArray,PTS F,⟨F,h1,rfl⟩,by rw [h2];rfl,PTS.shaped (by unfold offs;rw [List.take_length,h1.tot,hnA]) hP,hP⟩
theorem shaped1 {u : Value} (h : Shaped none u) : u.cells = #[u]:=h.1
theorem PTS.toQR {s : Bool} {p q : List Nat} {v : Value} {G : Gh} (h : (PTS [(none,.ex (.bool s)),(none,SL p),(none,SL q)]).t v G) : (QR s p q).t v G:=by
  obtain ⟨us,rfl,hl,h⟩:=h
  match us,hl,h with
  | [u0,u1,u2],_,h =>
    obtain ⟨a0,b0⟩:=h 0 _ u0 rfl rfl
    obtain ⟨a1,b1⟩:=h 1 _ u1 rfl rfl
    obtain ⟨a2,b2⟩:=h 2 _ u2 rfl rfl
    refine ⟨u1,u2,?_,b1,b2⟩
    have e0 : u0 = .bool s:=b0
    simp only [flat,List.flatMap_cons,List.flatMap_nil,shaped1 a0,shaped1 a1,shaped1 a2]
    rw [e0];rfl
theorem rd_frac {fs : Array Field} {f0 f1 f2 : Field} {tw : TypeId} (ht : P.underlying t = some (.struct fs)) (hf : fs.toList = [f0, f1, f2]) (hn : P.cellsOf t = 3) (h0 : f0.offset = 0 ∧ P.cellsOf f0.type = 1 ∧ P.underlying f0.type = some .bool) (h1 : f1.offset = 1 ∧ f1.type = tw) (h2 : f2.offset = 2 ∧ f2.type = tw)
    (hw : P.underlying tw = some (.slice e) ∧ P.cellsOf tw = 1) (he : P.underlying e = some (.int .u32) ∧ P.cellsOf e = 1 ∧ 4 ≤ P.bytesOf e) : RdA P W t (some 3) (fun τ=>∃ r : FR,τ = QR r.s r.p r.q):=by
  have hW : RdA P W tw none (fun τ=>∃ l,τ = SL l):=rd_words hw.1 he.1 he.2.1 he.2.2
  refine (rd_struct (As:=[(none,fun τ=>∃ b,τ = .ex (.bool b)),(none,fun τ=>∃ l,τ = SL l),(none,fun τ=>∃ l,τ = SL l)]) ht hn rfl (by
    rw [hf];exact ⟨h0.1,h0.2.1,rd_bool h0.2.2,h1.1,by rw [h1.2];exact hw.2,by rw [h1.2];exact hW,h2.1,by rw [h2.2];exact hw.2,by rw [h2.2];exact hW,trivial⟩)).mono fun τ v ⟨F,hM,hτ⟩ hv=>?_
  subst hτ
  match F,hM with
  | [a,b,c],⟨a1,⟨s,a2⟩,b1,⟨p,b2⟩,c1,⟨q,c2⟩,_⟩ =>
    obtain ⟨a0,a'⟩:=a;obtain ⟨b0,b'⟩:=b;obtain ⟨c0,c'⟩:=c
    simp only at a1 a2 b1 b2 c1 c2
    subst a1;subst a2;subst b1;subst b2;subst c1;subst c2
    exact ⟨_,⟨⟨s,p,q⟩,rfl⟩,PTS.toQR hv⟩
theorem rd_arg {H : Type} {enc : TypeId × Value → H} {v : Value} {d : DataW H} {ps : List MemPlace} (h : RdA P W t k A) (hd : DataW.Trod enc P W 0 (fun _ => true) true t v d ps) (hw : (d.weights P t).all (· ≤ reachBytes) = true)
    (hv : match k with | none=>v.cells = #[v] | some _=>∃ cs,v = .agg cs) : ∃ τ,A τ ∧ Shaped k v ∧ τ.t v (G0of W):=by
  obtain ⟨fuel,hf⟩:=hd
  obtain ⟨u,τ,h1,h2,h3,h4⟩:=h H enc fuel _ _ hf hw
  have : u = v:=by
    cases k with
    | none =>
      have h5 : u.cells = #[u]:=h3.1
      rw [h5,hv] at h2
      simpa using h2
    | some n =>
      obtain ⟨cs,rfl⟩:=hv
      obtain ⟨cs',rfl,_⟩:=h3
      have : cs'.toList = cs.toList:=h2
      rw [Array.toList_inj.1 this]
  subst this
  exact ⟨τ,h1,h3,h4⟩
end
end Go.Proofs.Ytpbkcbnghhodiaa
