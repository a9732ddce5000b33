import Derived.ChangeArms
import Derived.SizedLaws
import Derived.WideShapes
import Derived.Test.YtpbkcbnghhodiaaQd
set_option linter.unusedVariables false
set_option linter.unusedSimpArgs false
set_option linter.unusedVariables false
set_option linter.unusedSimpArgs false
set_option maxHeartbeats 4000000
set_option maxRecDepth 100000
set_option synthInstance.maxSize 100000
set_option synthInstance.maxHeartbeats 400000
namespace Go.Proofs.Ytpbkcbnghhodiaa
open Go.RowKit (Below)
private theorem mixedOrders : Try.prog.follows .mixedOrders = true:=by kernel_rfl
attribute [local irreducible] barC trnC btC ciF dsc enR enL cirs exC ofC ofI
theorem w36 {n m : Nat} {rg ra rb rc t : FR} {h : Bool} : Con Try.prog 36 [QUD n rg ra rb rc,TRN m t h] (10000 * n + 10000 * m + 100000 ≤ BIG ∧ barC [rg,ra,rb,rc] = 0 ∧ trnF h t = true) (MT.tup2 (IT (dsc rg ra rb rc h t.val).num.sign) (.ex (errV 63 (0)))):=.o2 fun hok h1 h2 hp=>by
  refine St.enter (N:=17) Try.func36 rfl rfl rfl hok (enter2 h1 h2) fun a=>?_
  have hb:=hp.2.1
  have ht:=trn_0 hp.2.2
  have hbt:=bt_0 hp.2.1 hp.2.2
  repeat' (first | refine W.run ?_ fun a w G=>?_ | refine W.mv fun a w G=>?_ | refine W.asg fun a w G=>?_ | refine W.bx fun b a w G=>?_ | (refine W.nn hK ?_;clear hK K) | refine W.reg fun K hK=>?_ | refine W.reg1 ?_ | refine W.nl ?_ | refine W.sq fun K hK=>?_ | refine W.ds ?_ (fun β a w G hu=>W.fin ?_ hu) mixedOrders (by kernel_rfl) | refine W.sk ?_ | (refine W.kn hK ?_;clear hK K) | refine W.cd (fun hc=>?_) (fun hc=>?_) | refine W.cb (fun hc=>?_) (fun hc=>?_) | refine W.al fun b a w G=>?_ | refine W.st fun w=>?_ | refine W.stp fun w=>?_ | refine W.ste ?_ fun w=>?_ | refine W.bl ?_ | refine W.bn ?_ | refine W.ex ?_ | refine W.xt ?_ | refine W.xb ?_ | refine W.xo ?_ | refine W.rt ?_ | refine W.tr ?_ | refine W.br ?_ | refine W.rt1 rfl ?_ | refine W.rt2 rfl ?_ ?_ | refine W.rt3 rfl ?_ ?_ ?_ | clear hK K | clear hu | exact True.intro | exact Nat.le_trans (by clear hp;omega) hp | exact Nat.le_trans (by clear hp;omega) hp.1 | exact Nat.le_trans (by clear hp;omega) hp.2 | (clear hp;omega) | apply And.intro | refine GI.i fun _=>?_ | with_reducible rfl | decide | (simp only [List.length_cons,List.length_nil];omega))
  all_goals first | (exfalso;omega) | assumption | exact hp.2.2 | exact hp.2.1 | rfl
instance {n m : Nat} {rg ra rb rc t : FR} {h : Bool} {τ1 : MT} [j1 : NF τ1 (QUD n rg ra rb rc)] {τ2 : MT} [j2 : NF τ2 (TRN m t h)] : Con Try.prog 36 [τ1,τ2] (10000 * n + 10000 * m + 100000 ≤ BIG ∧ barC [rg,ra,rb,rc] = 0 ∧ trnF h t = true) (MT.tup2 (IT (dsc rg ra rb rc h t.val).num.sign) (.ex (errV 63 (0)))):=.o2 fun hok h1 h2 hp=>w36.c2 hok (j1.h h1) (j2.h h2) hp
theorem w35 {n : Nat} {rg ra rb rc : FR} : Con Try.prog 35 [QUD n rg ra rb rc] (100000 * n + 10000000 ≤ BIG) (.ex (errV 63 (ciF rg ra rb rc))):=.o1 fun hok h1 hp=>by
  refine St.enter (N:=35) Try.func35 rfl rfl rfl hok (enter1 h1) fun a=>?_
  repeat' (first | refine W.run ?_ fun a w G=>?_ | refine W.mv fun a w G=>?_ | refine W.asg fun a w G=>?_ | refine W.bx fun b a w G=>?_ | (refine W.nn hK ?_;clear hK K) | refine W.reg fun K hK=>?_ | refine W.reg1 ?_ | refine W.nl ?_ | refine W.sq fun K hK=>?_ | refine W.ds ?_ (fun β a w G hu=>W.fin ?_ hu) mixedOrders (by kernel_rfl) | refine W.sk ?_ | (refine W.kn hK ?_;clear hK K) | refine W.cd (fun hc=>?_) (fun hc=>?_) | refine W.cb (fun hc=>?_) (fun hc=>?_) | refine W.al fun b a w G=>?_ | refine W.st fun w=>?_ | refine W.stp fun w=>?_ | refine W.ste ?_ fun w=>?_ | refine W.bl ?_ | refine W.bn ?_ | refine W.ex ?_ | refine W.xt ?_ | refine W.xb ?_ | refine W.xo ?_ | refine W.rt ?_ | refine W.tr ?_ | refine W.br ?_ | refine W.rt1 rfl ?_ | refine W.rt2 rfl ?_ ?_ | refine W.rt3 rfl ?_ ?_ ?_ | clear hK K | clear hu | exact True.intro | exact Nat.le_trans (by clear hp;omega) hp | exact Nat.le_trans (by clear hp;omega) hp.1 | exact Nat.le_trans (by clear hp;omega) hp.2 | (clear hp;omega) | apply And.intro | refine GI.i fun _=>?_ | with_reducible rfl | decide | (simp only [List.length_cons,List.length_nil];omega))
  all_goals first
    | exact ci_b hc
    | (have hb : barC [rg, ra, rb, rc] = 0 := by omega
       rw [qu_sq hb] at *
       first
       | exact ci_16 hb hc
       | (have hk := chk_two (sq_pos hb) ‹_›
          rw [Bool.and_eq_true,decide_eq_true_eq,decide_eq_true_eq] at hc
          exact (ci_15 hb hk hc.1 hc.2).symm)
       | (have hk := chk_two (sq_pos hb) ‹_›
          exact ci_0 hb hk (by simpa using hc)))
instance {n : Nat} {rg ra rb rc : FR} {τ1 : MT} [j1 : NF τ1 (QUD n rg ra rb rc)] : Con Try.prog 35 [τ1] (100000 * n + 10000000 ≤ BIG) (.ex (errV 63 (ciF rg ra rb rc))):=.o1 fun hok h1 hp=>w35.c1 hok (j1.h h1) hp
theorem w19 {n : Nat} {rg ra rb rc : FR} : Con Try.prog 19 [QUD n rg ra rb rc] (100000 * n + 10000000 ≤ BIG) (MT.tup3 (IT (enR rg ra rb rc)) (IT (enL rg ra rb rc)) (.ex (errV 63 (ciF rg ra rb rc)))):=.o1 fun hok h1 hp=>by
  refine St.enter (N:=31) Try.func19 rfl rfl rfl hok (enter1 h1) fun a=>?_
  repeat' (first | refine W.run ?_ fun a w G=>?_ | refine W.mv fun a w G=>?_ | refine W.asg fun a w G=>?_ | refine W.bx fun b a w G=>?_ | (refine W.nn hK ?_;clear hK K) | refine W.reg fun K hK=>?_ | refine W.reg1 ?_ | refine W.nl ?_ | refine W.sq fun K hK=>?_ | refine W.ds ?_ (fun β a w G hu=>W.fin ?_ hu) mixedOrders (by kernel_rfl) | refine W.sk ?_ | (refine W.kn hK ?_;clear hK K) | refine W.cd (fun hc=>?_) (fun hc=>?_) | refine W.cb (fun hc=>?_) (fun hc=>?_) | refine W.al fun b a w G=>?_ | refine W.st fun w=>?_ | refine W.stp fun w=>?_ | refine W.ste ?_ fun w=>?_ | refine W.bl ?_ | refine W.bn ?_ | refine W.ex ?_ | refine W.xt ?_ | refine W.xb ?_ | refine W.xo ?_ | refine W.rt ?_ | refine W.tr ?_ | refine W.br ?_ | refine W.rt1 rfl ?_ | refine W.rt2 rfl ?_ ?_ | refine W.rt3 rfl ?_ ?_ ?_ | clear hK K | clear hu | exact True.intro | exact Nat.le_trans (by clear hp;omega) hp | exact Nat.le_trans (by clear hp;omega) hp.1 | exact Nat.le_trans (by clear hp;omega) hp.2 | (clear hp;omega) | apply And.intro | refine GI.i fun _=>?_ | with_reducible rfl | decide | (simp only [List.length_cons,List.length_nil];omega))
  all_goals first
    | exact enR_bad hc | exact enL_bad hc | exact enR_ok (by omega) | exact enL_ok (by omega) | exact ci_bar (by omega) | exact trn_zero | (exfalso;omega)
instance {n : Nat} {rg ra rb rc : FR} {τ1 : MT} [j1 : NF τ1 (QUD n rg ra rb rc)] : Con Try.prog 19 [τ1] (100000 * n + 10000000 ≤ BIG) (MT.tup3 (IT (enR rg ra rb rc)) (IT (enL rg ra rb rc)) (.ex (errV 63 (ciF rg ra rb rc)))):=.o1 fun hok h1 hp=>w19.c1 hok (j1.h h1) hp
theorem w8 {n : Nat} {rg ra rb rc : FR} : Con Try.prog 8 [QUD n rg ra rb rc] (100000 * n + 10000000 ≤ BIG) (MT.tup2 (LS (some 3) ((cirs rg ra rb rc).map CIR)) (.ex (errV 63 (ciF rg ra rb rc)))):=.o1 fun hok h1 hp=>by
  refine St.enter (N:=47) Try.func8 rfl rfl rfl hok (enter1 h1) fun a=>?_
  repeat' (first | refine W.run ?_ fun a w G=>?_ | refine W.mv fun a w G=>?_ | refine W.asg fun a w G=>?_ | refine W.bx fun b a w G=>?_ | (refine W.nn hK ?_;clear hK K) | refine W.reg fun K hK=>?_ | refine W.reg1 ?_ | refine W.nl ?_ | refine W.sq fun K hK=>?_ | refine W.ds ?_ (fun β a w G hu=>W.fin ?_ hu) mixedOrders (by kernel_rfl) | refine W.sk ?_ | (refine W.kn hK ?_;clear hK K) | refine W.cd (fun hc=>?_) (fun hc=>?_) | refine W.cb (fun hc=>?_) (fun hc=>?_) | refine W.al fun b a w G=>?_ | refine W.st fun w=>?_ | refine W.stp fun w=>?_ | refine W.ste ?_ fun w=>?_ | refine W.bl ?_ | refine W.bn ?_ | refine W.ex ?_ | refine W.xt ?_ | refine W.xb ?_ | refine W.xo ?_ | refine W.rt ?_ | refine W.tr ?_ | refine W.br ?_ | refine W.rt1 rfl ?_ | refine W.rt2 rfl ?_ ?_ | refine W.rt3 rfl ?_ ?_ ?_ | clear hK K | clear hu | exact True.intro | exact Nat.le_trans (by clear hp;omega) hp | exact Nat.le_trans (by clear hp;omega) hp.1 | exact Nat.le_trans (by clear hp;omega) hp.2 | (clear hp;omega) | apply And.intro | refine GI.i fun _=>?_ | with_reducible rfl | decide | (simp only [List.length_cons,List.length_nil];omega))
  all_goals first | exact (cirs_bad hc).symm | (rw [cirs_ok (by omega)];unfold cirF;grind)
instance {n : Nat} {rg ra rb rc : FR} {τ1 : MT} [j1 : NF τ1 (QUD n rg ra rb rc)] : Con Try.prog 8 [τ1] (100000 * n + 10000000 ≤ BIG) (MT.tup2 (LS (some 3) ((cirs rg ra rb rc).map CIR)) (.ex (errV 63 (ciF rg ra rb rc)))):=.o1 fun hok h1 hp=>w8.c1 hok (j1.h h1) hp
theorem w22 {n m : Nat} {rg ra rb rc t : FR} {h : Bool} {md : Int} : Con Try.prog 22 [QUD n rg ra rb rc,BST m t h md] (100000 * n + 100000 * m + 10000000 ≤ BIG ∧ barC [rg,ra,rb,rc] = 0 ∧ trnF h t = true) (.ex (errV 63 (exC rg ra rb rc h t md))):=.o2 fun hok h1 h2 hp=>by
  refine St.enter (N:=55) Try.func22 rfl rfl rfl hok (enter2 h1 h2) fun a=>?_
  have hb:=hp.2.1
  have ht:=trn_0 hp.2.2
  have hbt:=bt_0 hp.2.1 hp.2.2
  repeat' (first | refine W.run ?_ fun a w G=>?_ | refine W.mv fun a w G=>?_ | refine W.asg fun a w G=>?_ | refine W.bx fun b a w G=>?_ | (refine W.nn hK ?_;clear hK K) | refine W.reg fun K hK=>?_ | refine W.reg1 ?_ | refine W.nl ?_ | refine W.sq fun K hK=>?_ | refine W.ds ?_ (fun β a w G hu=>W.fin ?_ hu) mixedOrders (by kernel_rfl) | refine W.sk ?_ | (refine W.kn hK ?_;clear hK K) | refine W.cd (fun hc=>?_) (fun hc=>?_) | refine W.cb (fun hc=>?_) (fun hc=>?_) | refine W.al fun b a w G=>?_ | refine W.st fun w=>?_ | refine W.stp fun w=>?_ | refine W.ste ?_ fun w=>?_ | refine W.bl ?_ | refine W.bn ?_ | refine W.ex ?_ | refine W.xt ?_ | refine W.xb ?_ | refine W.xo ?_ | refine W.rt ?_ | refine W.tr ?_ | refine W.br ?_ | refine W.rt1 rfl ?_ | refine W.rt2 rfl ?_ ?_ | refine W.rt3 rfl ?_ ?_ ?_ | clear hK K | clear hu | exact True.intro | exact Nat.le_trans (by clear hp;omega) hp | exact Nat.le_trans (by clear hp;omega) hp.1 | exact Nat.le_trans (by clear hp;omega) hp.2 | (clear hp;omega) | apply And.intro | refine GI.i fun _=>?_ | with_reducible rfl | decide | (simp only [List.length_cons,List.length_nil];omega))
  all_goals first | exact hp.2.2 | (unfold exC exK;grind)
instance {n m : Nat} {rg ra rb rc t : FR} {h : Bool} {md : Int} {τ1 : MT} [j1 : NF τ1 (QUD n rg ra rb rc)] {τ2 : MT} [j2 : NF τ2 (BST m t h md)] : Con Try.prog 22 [τ1,τ2] (100000 * n + 100000 * m + 10000000 ≤ BIG ∧ barC [rg,ra,rb,rc] = 0 ∧ trnF h t = true) (.ex (errV 63 (exC rg ra rb rc h t md))):=.o2 fun hok h1 h2 hp=>w22.c2 hok (j1.h h1) (j2.h h2) hp
theorem w9 {n m : Nat} {rg ra rb rc t : FR} {h : Bool} {md : Int} : Con Try.prog 9 [QUD n rg ra rb rc,BST m t h md] (100000 * n + 100000 * m + 10000000 ≤ BIG) (MT.tup2 (IT (ofI rg ra rb rc h t md)) (.ex (errV 63 (ofC rg ra rb rc h t md)))):=.o2 fun hok h1 h2 hp=>by
  refine St.enter (N:=63) Try.func9 rfl rfl rfl hok (enter2 h1 h2) fun a=>?_
  repeat' (first | refine W.run ?_ fun a w G=>?_ | refine W.mv fun a w G=>?_ | refine W.asg fun a w G=>?_ | refine W.bx fun b a w G=>?_ | (refine W.nn hK ?_;clear hK K) | refine W.reg fun K hK=>?_ | refine W.reg1 ?_ | refine W.nl ?_ | refine W.sq fun K hK=>?_ | refine W.ds ?_ (fun β a w G hu=>W.fin ?_ hu) mixedOrders (by kernel_rfl) | refine W.sk ?_ | (refine W.kn hK ?_;clear hK K) | refine W.cd (fun hc=>?_) (fun hc=>?_) | refine W.cb (fun hc=>?_) (fun hc=>?_) | refine W.al fun b a w G=>?_ | refine W.st fun w=>?_ | refine W.stp fun w=>?_ | refine W.ste ?_ fun w=>?_ | refine W.bl ?_ | refine W.bn ?_ | refine W.ex ?_ | refine W.xt ?_ | refine W.xb ?_ | refine W.xo ?_ | refine W.rt ?_ | refine W.tr ?_ | refine W.br ?_ | refine W.rt1 rfl ?_ | refine W.rt2 rfl ?_ ?_ | refine W.rt3 rfl ?_ ?_ ?_ | clear hK K | clear hu | exact True.intro | exact Nat.le_trans (by clear hp;omega) hp | exact Nat.le_trans (by clear hp;omega) hp.1 | exact Nat.le_trans (by clear hp;omega) hp.2 | (clear hp;omega) | apply And.intro | refine GI.i fun _=>?_ | with_reducible rfl | decide | (simp only [List.length_cons,List.length_nil];omega))
  all_goals first
    | exact ci_bar (by omega)
    | exact of_trn (by assumption)
    | exact cirs_pos (by omega)
    | grind [ofI,ofC,ofK,of_trn,trn_0,trn_two]
instance {n m : Nat} {rg ra rb rc t : FR} {h : Bool} {md : Int} {τ1 : MT} [j1 : NF τ1 (QUD n rg ra rb rc)] {τ2 : MT} [j2 : NF τ2 (BST m t h md)] : Con Try.prog 9 [τ1,τ2] (100000 * n + 100000 * m + 10000000 ≤ BIG) (MT.tup2 (IT (ofI rg ra rb rc h t md)) (.ex (errV 63 (ofC rg ra rb rc h t md)))):=.o2 fun hok h1 h2 hp=>w9.c2 hok (j1.h h1) (j2.h h2) hp
def boC (g a b c : FR) (h : Bool) (t : FR) (m : Int) (h2 : Bool) (t2 : FR) (m2 : Int) : Int:=if ofC g a b c h t m = 0 then ofC g a b c h2 t2 m2 else ofC g a b c h t m
def boI (g a b c : FR) (h : Bool) (t : FR) (m : Int) (h2 : Bool) (t2 : FR) (m2 : Int) : Int:=if boC g a b c h t m h2 t2 m2 = 0 then ofI g a b c h t m else 0
def boK (g a b c : FR) (h : Bool) (t : FR) (m : Int) (h2 : Bool) (t2 : FR) (m2 : Int) : Int:=if boC g a b c h t m h2 t2 m2 = 0 then ofI g a b c h2 t2 m2 else 0
theorem w33 {n m m2 : Nat} {rg ra rb rc t t2 : FR} {h h2 : Bool} {md md2 : Int} : Con Try.prog 33 [QUD n rg ra rb rc,BST m t h md,BST m2 t2 h2 md2] (100000 * n + 100000 * m + 100000 * m2 + 10000000 ≤ BIG) (MT.tup3 (IT (boI rg ra rb rc h t md h2 t2 md2)) (IT (boK rg ra rb rc h t md h2 t2 md2)) (.ex (errV 63 (boC rg ra rb rc h t md h2 t2 md2)))):=.o3 fun hok h1 h2 h3 hp=>by
  refine St.enter (N:=32) Try.func33 rfl rfl rfl hok (enter3 h1 h2 h3) fun a=>?_
  repeat' (first | refine W.run ?_ fun a w G=>?_ | refine W.mv fun a w G=>?_ | refine W.asg fun a w G=>?_ | refine W.bx fun b a w G=>?_ | (refine W.nn hK ?_;clear hK K) | refine W.reg fun K hK=>?_ | refine W.reg1 ?_ | refine W.nl ?_ | refine W.sq fun K hK=>?_ | refine W.ds ?_ (fun β a w G hu=>W.fin ?_ hu) mixedOrders (by kernel_rfl) | refine W.sk ?_ | (refine W.kn hK ?_;clear hK K) | refine W.cd (fun hc=>?_) (fun hc=>?_) | refine W.cb (fun hc=>?_) (fun hc=>?_) | refine W.al fun b a w G=>?_ | refine W.st fun w=>?_ | refine W.stp fun w=>?_ | refine W.ste ?_ fun w=>?_ | refine W.bl ?_ | refine W.bn ?_ | refine W.ex ?_ | refine W.xt ?_ | refine W.xb ?_ | refine W.xo ?_ | refine W.rt ?_ | refine W.tr ?_ | refine W.br ?_ | refine W.rt1 rfl ?_ | refine W.rt2 rfl ?_ ?_ | refine W.rt3 rfl ?_ ?_ ?_ | clear hK K | clear hu | exact True.intro | exact Nat.le_trans (by clear hp;omega) hp | exact Nat.le_trans (by clear hp;omega) hp.1 | exact Nat.le_trans (by clear hp;omega) hp.2 | (clear hp;omega) | apply And.intro | refine GI.i fun _=>?_ | with_reducible rfl | decide | (simp only [List.length_cons,List.length_nil];omega))
  all_goals grind [boC,boI,boK]
instance {n m m2 : Nat} {rg ra rb rc t t2 : FR} {h h2 : Bool} {md md2 : Int} {τ1 : MT} [j1 : NF τ1 (QUD n rg ra rb rc)] {τ2 : MT} [j2 : NF τ2 (BST m t h md)] {τ3 : MT} [j3 : NF τ3 (BST m2 t2 h2 md2)] : Con Try.prog 33 [τ1,τ2,τ3] (100000 * n + 100000 * m + 100000 * m2 + 10000000 ≤ BIG) (MT.tup3 (IT (boI rg ra rb rc h t md h2 t2 md2)) (IT (boK rg ra rb rc h t md h2 t2 md2)) (.ex (errV 63 (boC rg ra rb rc h t md h2 t2 md2)))):=.o3 fun hok h1 h2 h3 hp=>w33.c3 hok (j1.h h1) (j2.h h2) (j3.h h3) hp
theorem w17 {n m m2 : Nat} {rg ra rb rc t t2 : FR} {h h2 : Bool} {md md2 : Int} : Con Try.prog 17 [QUD n rg ra rb rc,BST m t h md,BST m2 t2 h2 md2] (100000 * n + 100000 * m + 100000 * m2 + 10000000 ≤ BIG) (MT.tup2 (BT (decide (boC rg ra rb rc h t md h2 t2 md2 = 0) && decide (boI rg ra rb rc h t md h2 t2 md2 = boK rg ra rb rc h t md h2 t2 md2))) (.ex (errV 63 (boC rg ra rb rc h t md h2 t2 md2)))):=.o3 fun hok h1 h2 h3 hp=>by
  refine St.enter (N:=27) Try.func17 rfl rfl rfl hok (enter3 h1 h2 h3) fun a=>?_
  repeat' (first | refine W.run ?_ fun a w G=>?_ | refine W.mv fun a w G=>?_ | refine W.asg fun a w G=>?_ | refine W.bx fun b a w G=>?_ | (refine W.nn hK ?_;clear hK K) | refine W.reg fun K hK=>?_ | refine W.reg1 ?_ | refine W.nl ?_ | refine W.sq fun K hK=>?_ | refine W.ds ?_ (fun β a w G hu=>W.fin ?_ hu) mixedOrders (by kernel_rfl) | refine W.sk ?_ | (refine W.kn hK ?_;clear hK K) | refine W.cd (fun hc=>?_) (fun hc=>?_) | refine W.cb (fun hc=>?_) (fun hc=>?_) | refine W.al fun b a w G=>?_ | refine W.st fun w=>?_ | refine W.stp fun w=>?_ | refine W.ste ?_ fun w=>?_ | refine W.bl ?_ | refine W.bn ?_ | refine W.ex ?_ | refine W.xt ?_ | refine W.xb ?_ | refine W.xo ?_ | refine W.rt ?_ | refine W.tr ?_ | refine W.br ?_ | refine W.rt1 rfl ?_ | refine W.rt2 rfl ?_ ?_ | refine W.rt3 rfl ?_ ?_ ?_ | clear hK K | clear hu | exact True.intro | exact Nat.le_trans (by clear hp;omega) hp | exact Nat.le_trans (by clear hp;omega) hp.1 | exact Nat.le_trans (by clear hp;omega) hp.2 | (clear hp;omega) | apply And.intro | refine GI.i fun _=>?_ | with_reducible rfl | decide | (simp only [List.length_cons,List.length_nil];omega))
instance {n m m2 : Nat} {rg ra rb rc t t2 : FR} {h h2 : Bool} {md md2 : Int} {τ1 : MT} [j1 : NF τ1 (QUD n rg ra rb rc)] {τ2 : MT} [j2 : NF τ2 (BST m t h md)] {τ3 : MT} [j3 : NF τ3 (BST m2 t2 h2 md2)] : Con Try.prog 17 [τ1,τ2,τ3] (100000 * n + 100000 * m + 100000 * m2 + 10000000 ≤ BIG) (MT.tup2 (BT (decide (boC rg ra rb rc h t md h2 t2 md2 = 0) && decide (boI rg ra rb rc h t md h2 t2 md2 = boK rg ra rb rc h t md h2 t2 md2))) (.ex (errV 63 (boC rg ra rb rc h t md h2 t2 md2)))):=.o3 fun hok h1 h2 h3 hp=>w17.c3 hok (j1.h h1) (j2.h h2) (j3.h h3) hp
end Go.Proofs.Ytpbkcbnghhodiaa
set_option linter.unusedVariables false
set_option linter.unusedSimpArgs false
set_option maxHeartbeats 4000000
set_option maxRecDepth 100000
set_option synthInstance.maxSize 100000
set_option synthInstance.maxHeartbeats 400000
namespace Go.Proofs.Ytpbkcbnghhodiaa
open Go.RowKit (Below)
attribute [local irreducible] barC trnC btC ciF dsc enR enL cirs exC ofC ofI dirC dirS
theorem shortR_t {r : FR} (h : (decide (((r.p.length : Nat) : Int) > 2) || decide (((r.q.length : Nat) : Int) > 2)) = true) : shortR r = false:=by
  simp only [Bool.or_eq_true,decide_eq_true_eq] at h
  exact shortR_not (by omega)
theorem shortR_f {r : FR} (h : (decide (((r.p.length : Nat) : Int) > 2) || decide (((r.q.length : Nat) : Int) > 2)) = false) : shortR r = true:=by
  simp only [Bool.or_eq_false_iff,decide_eq_false_iff_not] at h
  exact shortR_of (by omega) (by omega)
theorem w20 {rg ra rb rc : FR} : Con Try.prog 20 [PTS [(some 3,RX rg),(some 3,RX ra),(some 3,RX rb),(some 3,RX rc)]] (True) (BT ([rg,ra,rb,rc].all shortR)):=.o1 fun hok h1 hp=>by
  refine St.enter (N:=30) Try.func20 rfl rfl rfl hok (enter1 h1) fun a=>?_
  repeat' (first | refine W.run ?_ fun a w G=>?_ | refine W.mv fun a w G=>?_ | refine W.asg fun a w G=>?_ | refine W.bx fun b a w G=>?_ | (refine W.nn hK ?_;clear hK K) | refine W.reg fun K hK=>?_ | refine W.reg1 ?_ | refine W.nl ?_ | refine W.sq fun K hK=>?_ | refine W.ds ?_ (fun β a w G hu=>W.fin ?_ hu) mixedOrders (by kernel_rfl) | refine W.sk ?_ | (refine W.kn hK ?_;clear hK K) | refine W.cd (fun hc=>?_) (fun hc=>?_) | refine W.cb (fun hc=>?_) (fun hc=>?_) | refine W.al fun b a w G=>?_ | refine W.st fun w=>?_ | refine W.stp fun w=>?_ | refine W.ste ?_ fun w=>?_ | refine W.bl ?_ | refine W.bn ?_ | refine W.ex ?_ | refine W.xt ?_ | refine W.xb ?_ | refine W.xo ?_ | refine W.rt ?_ | refine W.tr ?_ | refine W.br ?_ | refine W.rt1 rfl ?_ | refine W.rt2 rfl ?_ ?_ | refine W.rt3 rfl ?_ ?_ ?_ | refine W.lp 16 (α:=Nat) (fun j=>4 - j) (fun j=>j ≤ 4 ∧ ([rg,ra,rb,rc].take j).all shortR = true) [2,4,13,14,15,16,17,18,19,20,21,22,23,24,25,26,27,28,29] (fun j=>[(15,NT j),(14,NT 4),(13,LS (some 3) ([rg,ra,rb,rc].map RX))]) (fun j=>[]) (0) ?_ ?_ ?_ fun j hj a w G=>?_ | refine W.ag (x:=j) (j+1) ?_ ?_ ?_ ?_ | clear hK K | clear hu | exact True.intro | exact Nat.le_trans (by clear hp;omega) hp | exact Nat.le_trans (by clear hp;omega) hp.1 | exact Nat.le_trans (by clear hp;omega) hp.2 | (clear hp;omega) | apply And.intro | refine GI.i fun _=>?_ | with_reducible rfl | decide | (simp only [List.length_cons,List.length_nil];omega))
  all_goals first | rfl | exact (all_not (show j < 4 by omega) (shortR_t hc)).symm | exact all_snoc (show j < 4 by omega) hj.2 (shortR_f hc) | exact (all_end (show ¬ j < 4 by omega) hj.2).symm
instance {rg ra rb rc : FR} {τ1 : MT} [j1 : NR τ1 (PTS [(some 3,RX rg),(some 3,RX ra),(some 3,RX rb),(some 3,RX rc)])] : Con Try.prog 20 [τ1] (True) (BT ([rg,ra,rb,rc].all shortR)):=.o1 fun hok h1 hp=>w20.c1 hok (j1.h h1) hp
theorem d2_zero {x y : Rat} : (d2F x y).num.sign = 0 ↔ x = 0 ∧ y = 0:=by
  rw [Int.sign_eq_zero_iff_zero,Rat.num_eq_zero]
  unfold d2F
  have sq : ∀ z : Rat,0 ≤ z * z:=fun z=>by
    rcases (Rat.le_total : 0 ≤ z ∨ z ≤ 0) with h | h
    · exact Rat.mul_nonneg h h
    · have:=Rat.mul_nonneg (show 0 ≤ -z by grind) (show 0 ≤ -z by grind);grind
  have sx:=sq x;have sy:=sq y
  constructor
  · intro h
    have h1 : x * x = 0:=by grind
    have h2 : y * y = 0:=by grind
    exact ⟨by rcases Rat.mul_eq_zero.1 h1 with h | h <;> exact h,by rcases Rat.mul_eq_zero.1 h2 with h | h <;> exact h⟩
  · rintro ⟨rfl,rfl⟩;grind
theorem way_zero {g a t : Rat} {h : Bool} : (d2F (wayX g a h t) (wayY a h t)).num.sign = 0 ↔ cmpQ (a * dirC h t) g = 0 ∧ (a * dirS h t).num.sign = 0:=by
  rw [d2_zero,cmpQ_eq0,Int.sign_eq_zero_iff_zero,Rat.num_eq_zero]
  unfold wayX wayY
  constructor <;> rintro ⟨h1,h2⟩ <;> constructor <;> grind
theorem exC_r {g a b c : FR} {h : Bool} {t : FR} {m : Int} : exC g a b c h t m = if ((decide ((dsc g a b c h t.val).num.sign < 0) || (decide ((dsc g a b c h t.val).num.sign = 0) != decide (m = 0))) || decide ((d2F (wayX g.val a.val h t.val) (wayY a.val h t.val)).num.sign = 0)) = true then 16 else 0:=by
  have e : decide ((d2F (wayX g.val a.val h t.val) (wayY a.val h t.val)).num.sign = 0) = (decide (cmpQ (a.val * dirC h t.val) g.val = 0) && decide ((a.val * dirS h t.val).num.sign = 0)):=by rw [Bool.eq_iff_iff];simp only [decide_eq_true_eq,Bool.and_eq_true,way_zero]
  unfold exC exK
  rw [e]
  generalize decide (cmpQ (a.val * dirC h t.val) g.val = 0) = A
  generalize decide ((a.val * dirS h t.val).num.sign = 0) = B
  generalize decide ((dsc g a b c h t.val).num.sign < 0) = C
  generalize decide ((dsc g a b c h t.val).num.sign = 0) = D
  generalize decide (m = 0) = E
  cases A <;> cases B <;> cases C <;> cases D <;> cases E <;> rfl
end Go.Proofs.Ytpbkcbnghhodiaa
set_option linter.unusedVariables false
set_option linter.unusedSimpArgs false
set_option maxHeartbeats 4000000
set_option maxRecDepth 100000
set_option synthInstance.maxSize 100000
set_option synthInstance.maxHeartbeats 400000
namespace Go.Proofs.Ytpbkcbnghhodiaa
open Go.RowKit (Below)
attribute [local irreducible] barC trnC btC ciF dsc enR enL cirs exC ofC ofI boC boI boK dirC dirS cirF
theorem ex_bar : barC [FR.of 4,FR.of 1,FR.of 9,FR.of 9] = 0:=by
  unfold barC;simp only [List.all_cons,List.all_nil,posR_of4];decide +kernel
theorem ex_ci : ciF (FR.of 4) (FR.of 1) (FR.of 9) (FR.of 9) = 0:=by
  have h : chkF (sqF (FR.of 4) (FR.of 1) (FR.of 9) (FR.of 9)) = 0:=by
    unfold sqF;simp only [FR.of_val];rw [show (4 : Rat) * 4 = 16 by decide +kernel,show (1 : Rat) * 1 = 1 by decide +kernel];exact ex_chk
  unfold ciF;rw [if_pos ex_bar,if_pos h];simp only [FR.of_val];decide +kernel
theorem ex_dR : dsc (FR.of 4) (FR.of 1) (FR.of 9) (FR.of 9) false zFR.val = 243:=by unfold dsc;simp only [FR.of_val,zv0];decide +kernel
theorem ex_dL : dsc (FR.of 4) (FR.of 1) (FR.of 9) (FR.of 9) true zFR.val = 275:=by unfold dsc;simp only [FR.of_val,zv0];decide +kernel
theorem ex_enR : enR (FR.of 4) (FR.of 1) (FR.of 9) (FR.of 9) = 1:=by rw [← enR_ok ex_ci,ex_dR];decide +kernel
theorem ex_enL : enL (FR.of 4) (FR.of 1) (FR.of 9) (FR.of 9) = 1:=by rw [← enL_ok ex_ci,ex_dL];decide +kernel
theorem ex_cirs : cirs (FR.of 4) (FR.of 1) (FR.of 9) (FR.of 9) = [(true,false,1),(true,false,-1)]:=by rw [cirs_ok ex_ci,ex_enR,ex_enL];decide +kernel
theorem ex_ofC : ofC (FR.of 4) (FR.of 1) (FR.of 9) (FR.of 9) true zFR (-1) = 0:=by
  have h : exC (FR.of 4) (FR.of 1) (FR.of 9) (FR.of 9) true zFR (-1) = 0:=by rw [exC_r,ex_dL];simp only [FR.of_val,zv0];decide +kernel
  unfold ofC;rw [if_pos ex_ci,if_pos trn_zero,h];decide
theorem ex_ofI : ofI (FR.of 4) (FR.of 1) (FR.of 9) (FR.of 9) true zFR (-1) = 1:=by unfold ofI;rw [ex_ofC,ex_cirs];decide +kernel
instance  : Con Try.prog 18 [] (True) (QUD 64 (FR.of 4) (FR.of 1) (FR.of 9) (FR.of 9)):=.o0 fun hok  hp=>by
  refine St.enter (N:=6) Try.func18 rfl rfl rfl hok enter0 fun a=>?_
  repeat' (first | refine W.run ?_ fun a w G=>?_ | refine W.mv fun a w G=>?_ | refine W.asg fun a w G=>?_ | refine W.bx fun b a w G=>?_ | (refine W.nn hK ?_;clear hK K) | refine W.reg fun K hK=>?_ | refine W.reg1 ?_ | refine W.nl ?_ | refine W.sq fun K hK=>?_ | refine W.ds ?_ (fun β a w G hu=>W.fin ?_ hu) mixedOrders (by kernel_rfl) | refine W.sk ?_ | (refine W.kn hK ?_;clear hK K) | refine W.cd (fun hc=>?_) (fun hc=>?_) | refine W.cb (fun hc=>?_) (fun hc=>?_) | refine W.al fun b a w G=>?_ | refine W.st fun w=>?_ | refine W.stp fun w=>?_ | refine W.ste ?_ fun w=>?_ | refine W.bl ?_ | refine W.bn ?_ | refine W.ex ?_ | refine W.xt ?_ | refine W.xb ?_ | refine W.xo ?_ | refine W.rt ?_ | refine W.tr ?_ | refine W.br ?_ | refine W.rt1 rfl ?_ | refine W.rt2 rfl ?_ ?_ | refine W.rt3 rfl ?_ ?_ ?_ | clear hK K | clear hu | exact True.intro | exact Nat.le_trans (by clear hp;omega) hp | exact Nat.le_trans (by clear hp;omega) hp.1 | exact Nat.le_trans (by clear hp;omega) hp.2 | (clear hp;omega) | apply And.intro | refine GI.i fun _=>?_ | with_reducible rfl | decide | (simp only [List.length_cons,List.length_nil];omega))
instance  : Con Try.prog 6 [] (True) (BT true):=.o0 fun hok  hp=>by
  refine St.enter (N:=66) Try.func6 rfl rfl rfl hok enter0 fun a=>?_
  repeat' (first | refine W.run ?_ fun a w G=>?_ | refine W.mv fun a w G=>?_ | refine W.asg fun a w G=>?_ | refine W.bx fun b a w G=>?_ | (refine W.nn hK ?_;clear hK K) | refine W.reg fun K hK=>?_ | refine W.reg1 ?_ | refine W.nl ?_ | refine W.sq fun K hK=>?_ | refine W.ds ?_ (fun β a w G hu=>W.fin ?_ hu) mixedOrders (by kernel_rfl) | refine W.sk ?_ | (refine W.kn hK ?_;clear hK K) | refine W.cd (fun hc=>?_) (fun hc=>?_) | refine W.cb (fun hc=>?_) (fun hc=>?_) | refine W.al fun b a w G=>?_ | refine W.st fun w=>?_ | refine W.stp fun w=>?_ | refine W.ste ?_ fun w=>?_ | refine W.bl ?_ | refine W.bn ?_ | refine W.ex ?_ | refine W.xt ?_ | refine W.xb ?_ | refine W.xo ?_ | refine W.rt ?_ | refine W.tr ?_ | refine W.br ?_ | refine W.rt1 rfl ?_ | refine W.rt2 rfl ?_ ?_ | refine W.rt3 rfl ?_ ?_ ?_ | clear hK K | clear hu | exact True.intro | exact Nat.le_trans (by clear hp;omega) hp | exact Nat.le_trans (by clear hp;omega) hp.1 | exact Nat.le_trans (by clear hp;omega) hp.2 | (clear hp;omega) | apply And.intro | refine GI.i fun _=>?_ | with_reducible rfl | decide | (simp only [List.length_cons,List.length_nil];omega))
  all_goals first | (rw [ex_cirs];decide) | (rw [ex_ci,ex_ofC,ex_cirs,ex_enR,ex_enL,ex_ofI];decide) | skip
end Go.Proofs.Ytpbkcbnghhodiaa
set_option linter.unusedVariables false
set_option linter.unusedSimpArgs false
set_option maxHeartbeats 4000000
set_option maxRecDepth 100000
set_option synthInstance.maxSize 100000
set_option synthInstance.maxHeartbeats 400000
namespace Go.Proofs.Ytpbkcbnghhodiaa
open Go.RowKit (Below)
attribute [local irreducible] barC trnC btC ciF dsc enR enL cirs exC ofC ofI boC boI boK dirC dirS cirF
def BSX (x : FR × Bool × Int) : MT:=PTS [(some 4,PTS [(some 3,RX x.1),(none,BT x.2.1)]),(none,IT x.2.2)]
instance {x : FR × Bool × Int} : Shp (BSX x) (some 5):=⟨fun h=>PTS.shaped rfl h⟩
instance (priority:=800) Prt.bsx {x : FR × Bool × Int} {i : Nat} {kt : Option Nat} {τ : MT} [h : PrtL [(some 4,PTS [(some 3,RX x.1),(none,BT x.2.1)]),(none,IT x.2.2)] i kt τ] : Prt (BSX x) i kt τ:=(inferInstance : Prt (PTS [(some 4,PTS [(some 3,RX x.1),(none,BT x.2.1)]),(none,IT x.2.2)]) i kt τ)
instance {r : FR} {h : Bool} {m : Int} : AsT (PTS [(some 4,PTS [(some 3,RX r),(none,BT h)]),(none,IT m)]) BSX (r,h,m):=⟨fun h=>h⟩
instance {n : Nat} {r : FR} {h : Bool} {m : Int} : AsT (PTS [(some 4,PTS [(some 3,FX n r),(none,BT h)]),(none,IT m)]) BSX (r,h,m):=⟨fun h=>NR.h h⟩
instance NR.bs {τs : List MT} {xs : List (FR × Bool × Int)} [h : AsTL τs BSX xs] : NR (LSC (some 5) τs) (LS (some 5) (xs.map BSX)):=⟨fun hv=>h.ls hv.1⟩
instance NR.bn : NR (.ex (.slice none 0 0)) (LS (some 5) (([] : List (FR × Bool × Int)).map BSX)):=⟨fun h=>by cases h;exact LS.nil⟩
def shT (x : FR × Bool × Int) : Bool:=shortR x.1
instance : CirT Try.prog 60:=⟨_,_,_,Try.underlying60,by kernel_rfl,by kernel_rfl,rfl,⟨rfl,rfl,rfl⟩,by kernel_rfl,by kernel_rfl,by kernel_rfl,by kernel_rfl,by kernel_rfl,by kernel_rfl⟩
theorem w7 {rg ra rb rc : FR} {l : List (FR × Bool × Int)} : Con Try.prog 7 [PTS [(some 3,RX rg),(some 3,RX ra),(some 3,RX rb),(some 3,RX rc)],LS (some 5) (l.map BSX)] (True) (BT (l.all shT && [rg,ra,rb,rc].all shortR)):=.o2 fun hok h1 h2 hp=>by
  refine St.enter (N:=30) Try.func7 rfl rfl rfl hok (enter2 h1 h2) fun a=>?_
  have hlim:=LS.lenM h2
  simp only [LIM] at hlim
  repeat' (first | refine W.run ?_ fun a w G=>?_ | refine W.mv fun a w G=>?_ | refine W.asg fun a w G=>?_ | refine W.bx fun b a w G=>?_ | (refine W.nn hK ?_;clear hK K) | refine W.reg fun K hK=>?_ | refine W.reg1 ?_ | refine W.nl ?_ | refine W.sq fun K hK=>?_ | refine W.ds ?_ (fun β a w G hu=>W.fin ?_ hu) mixedOrders (by kernel_rfl) | refine W.sk ?_ | (refine W.kn hK ?_;clear hK K) | refine W.cd (fun hc=>?_) (fun hc=>?_) | refine W.cb (fun hc=>?_) (fun hc=>?_) | refine W.al fun b a w G=>?_ | refine W.st fun w=>?_ | refine W.stp fun w=>?_ | refine W.ste ?_ fun w=>?_ | refine W.bl ?_ | refine W.bn ?_ | refine W.ex ?_ | refine W.xt ?_ | refine W.xb ?_ | refine W.xo ?_ | refine W.rt ?_ | refine W.tr ?_ | refine W.br ?_ | refine W.rt1 rfl ?_ | refine W.rt2 rfl ?_ ?_ | refine W.rt3 rfl ?_ ?_ ?_ | refine W.lp 10 (α:=Nat) (fun j=>l.length - j) (fun j=>j ≤ l.length ∧ (l.take j).all shT = true) [4,6,9,10,11,12,13,14,15,16,17,18,19,20,21,22,23,24,25,26,27] (fun j=>[(9,NT j)]) (fun j=>[]) (0) ?_ ?_ ?_ fun j hj a w G=>?_ | refine W.ag (x:=j) (j+1) ?_ ?_ ?_ ?_ | clear hK K | clear hu | exact True.intro | exact Nat.le_trans (by clear hp;omega) hp | exact Nat.le_trans (by clear hp;omega) hp.1 | exact Nat.le_trans (by clear hp;omega) hp.2 | (clear hp;omega) | apply And.intro | refine GI.i fun _=>?_ | with_reducible rfl | decide | (simp only [List.length_cons,List.length_nil];omega))
  all_goals first
    | rfl
    | (rw [all_not (show j < l.length by omega) (shortR_t hc)];rfl)
    | exact all_snoc (show j < l.length by omega) hj.2 (shortR_f hc)
    | (rw [all_end (show ¬ j < l.length by omega) hj.2,Bool.true_and])
instance {rg ra rb rc : FR} {l : List (FR × Bool × Int)} {τ1 : MT} [j1 : NR τ1 (PTS [(some 3,RX rg),(some 3,RX ra),(some 3,RX rb),(some 3,RX rc)])] {τ2 : MT} [j2 : NR τ2 (LS (some 5) (l.map BSX))] : Con Try.prog 7 [τ1,τ2] (True) (BT (l.all shT && [rg,ra,rb,rc].all shortR)):=.o2 fun hok h1 h2 hp=>w7.c2 hok (j1.h h1) (j2.h h2) hp
end Go.Proofs.Ytpbkcbnghhodiaa
set_option linter.unusedVariables false
set_option linter.unusedSimpArgs false
set_option maxHeartbeats 4000000
set_option maxRecDepth 100000
set_option synthInstance.maxSize 100000
set_option synthInstance.maxHeartbeats 400000
namespace Go.Proofs.Ytpbkcbnghhodiaa
open Go.RowKit (Below)
attribute [local irreducible] barC trnC btC ciF dsc enR enL cirs exC ofC ofI boC boI boK dirC dirS cirF
theorem ofC_bd {a b c d : FR} {h : Bool} {t : FR} {m : Int} (hc : ciF a b c d ≠ 0) : ofC a b c d h t m = ciF a b c d:=by unfold ofC;rw [if_neg hc]
end Go.Proofs.Ytpbkcbnghhodiaa
namespace Go.Proofs.Ytpbkcbnghhodiaa
theorem sq_nn (z : Rat) : 0 ≤ z * z:=by
  rcases (Rat.le_total : 0 ≤ z ∨ z ≤ 0) with h | h
  · exact Rat.mul_nonneg h h
  · have:=Rat.mul_nonneg (show 0 ≤ -z by grind) (show 0 ≤ -z by grind);grind
def dK (g a b c k : Rat) : Rat:=4 * (b * c) - (b + c - (g * g + a * a - 2 * (g * a * k))) * (b + c - (g * g + a * a - 2 * (g * a * k)))
theorem inv_pos {u : Rat} (h : 0 < u) : ∃ v : Rat,0 < v ∧ u * v = 1:=by
  refine ⟨u⁻¹,?_,Rat.mul_inv_cancel u (by grind)⟩
  exact Rat.inv_pos.2 h
theorem dir_rep (t : Rat) : ∃ v : Rat,0 < v ∧ (1 + t * t) * v = 1 ∧ dirC false t = (1 - t * t) * v ∧ dirS false t = (t + t) * v:=by
  have hu : 0 < 1 + t * t:=by have:=sq_nn t;grind
  obtain ⟨v,hv,e⟩:=inv_pos hu
  have hi : v = (1 + t * t)⁻¹:=by
    have:=Rat.mul_inv_cancel (1 + t * t) (by grind)
    grind
  exact ⟨v,hv,e,by unfold dirC;rw [if_neg (by decide),Rat.div_def,hi],by unfold dirS;rw [if_neg (by decide),Rat.div_def,hi]⟩
theorem dir_sq (h : Bool) (t : Rat) : dirC h t * dirC h t + dirS h t * dirS h t = 1:=by
  cases h with
  | true=>simp [dirC,dirS];grind
  | false=>obtain ⟨v,_,e,h1,h2⟩:=dir_rep t;rw [h1,h2];grind
theorem dirC_anti {s t : Rat} (h : t * t ≤ s * s) : dirC false s ≤ dirC false t:=by
  obtain ⟨v,hv,e,h1,_⟩:=dir_rep t
  obtain ⟨w,hw,f,h2,_⟩:=dir_rep s
  rw [h1,h2]
  have h3:=Rat.mul_nonneg (Rat.mul_nonneg (show 0 ≤ s * s - t * t by grind) (Rat.le_of_lt hv)) (Rat.le_of_lt hw)
  have key : (1 - t * t) * v * ((1 + s * s) * w) - (1 - s * s) * w * ((1 + t * t) * v) = 2 * ((s * s - t * t) * v * w):=by grind
  rw [e,f,Rat.mul_one,Rat.mul_one] at key
  grind
theorem dsc_k (g a b c : FR) (h : Bool) (t : Rat) : dsc g a b c h t = dK g.val a.val b.val c.val (dirC h t):=by
  have e:=dir_sq h t
  unfold dsc discF d2F wayX wayY dK
  generalize dirC h t = C at *;generalize dirS h t = S at *
  grind
theorem dK_mid {g a b c x y k : Rat} (h1 : x ≤ k) (h2 : k ≤ y) (hx : 0 < dK g a b c x) (hy : 0 < dK g a b c y) : 0 < dK g a b c k:=by
  by_cases hxy : x = y
  · obtain rfl : k = x:=by grind
    exact hx
  · have e : (y - x) * dK g a b c k = (y - k) * dK g a b c x + (k - x) * dK g a b c y + (y - x) * ((y - k) * (k - x)) * (2 * (g * a) * (2 * (g * a))):=by unfold dK;grind
    have h3 : 0 ≤ (y - k) * dK g a b c x:=Rat.mul_nonneg (by grind) (Rat.le_of_lt hx)
    have h4 : 0 ≤ (k - x) * dK g a b c y:=Rat.mul_nonneg (by grind) (Rat.le_of_lt hy)
    have h5 : 0 ≤ (y - x) * ((y - k) * (k - x)) * (2 * (g * a) * (2 * (g * a))):=Rat.mul_nonneg (Rat.mul_nonneg (by grind) (Rat.mul_nonneg (by grind) (by grind))) (sq_nn _)
    have h6 : 0 < (y - k) * dK g a b c x + (k - x) * dK g a b c y:=by
      by_cases hk : k = x
      · have:=Rat.mul_pos (show 0 < y - k by grind) hx;grind
      · have:=Rat.mul_pos (show 0 < k - x by grind) hy;grind
    rcases (show 0 < dK g a b c k ∨ dK g a b c k ≤ 0 by grind) with h7 | h7
    · exact h7
    · have:=Rat.mul_nonneg (show 0 ≤ y - x by grind) (show 0 ≤ -dK g a b c k by grind);grind
theorem num_sg (x : Rat) : (x.num.sign = 1 ↔ 0 < x) ∧ (x.num.sign = 0 ↔ x = 0) ∧ (x.num.sign < 0 ↔ x < 0):=by
  have h1:=@rat_pos_iff x;have h2:=@Rat.num_eq_zero x;have h3:=sgn_cases x.num
  refine ⟨by rw [h1];omega,by rw [← h2];omega,?_⟩
  constructor
  · intro h;have : ¬ 0 < x:=fun k=>by have:=h1.1 k;omega
    have : x ≠ 0:=fun e=>by have:=h2.2 e;omega
    grind
  · intro h;have : ¬ 0 < x.num:=fun k=>by have:=h1.2 k;grind
    have : x.num ≠ 0:=fun e=>by have:=h2.1 e;grind
    omega
theorem exC_0 {g a b c : FR} {h : Bool} {t : FR} {m : Int} (e : exC g a b c h t m = 0) : 0 ≤ dsc g a b c h t.val ∧ (dsc g a b c h t.val = 0 ↔ m = 0):=by
  have h3:=num_sg (dsc g a b c h t.val)
  unfold exC exK at e
  split at e
  · cases e
  · rename_i hn
    simp only [Bool.not_eq_true,Bool.or_eq_false_iff,decide_eq_false_iff_not,Bool.not_eq_false',beq_iff_eq,decide_eq_decide] at hn
    refine ⟨?_,by rw [← h3.2.1];exact hn.2⟩
    have:=hn.1.2
    rw [h3.2.2] at this;grind
theorem ofC_0 {g a b c : FR} {h : Bool} {t : FR} {m : Int} (e : ofC g a b c h t m = 0) (hc : ciF g a b c = 0) : trnF h t = true ∧ -1 ≤ m ∧ m ≤ 1 ∧ exC g a b c h t m = 0:=by
  unfold ofC at e
  rw [if_pos hc] at e
  split at e
  · split at e
    · cases e
    · exact ⟨‹_›,by omega,by omega,e⟩
  · cases e
theorem trn_half {h : Bool} {t : FR} (ht : trnF h t = true) : t.ok = true ∧ (h = true → t.val = 0):=by
  unfold trnF at ht
  simp only [Bool.and_eq_true,Bool.or_eq_true,Bool.not_eq_true',decide_eq_true_eq] at ht
  refine ⟨ht.1,fun e=>?_⟩
  rcases ht.2 with h1 | h1
  · rw [e] at h1;cases h1
  · exact (num_sg _).2.1.1 h1
theorem neg_dsc (g a b c : FR) (h : Bool) (t : Rat) : dsc g a b c h (-t) = dsc g a b c h t:=by
  rw [dsc_k,dsc_k]
  congr 1
  unfold dirC;split
  · rfl
  · rw [show -t * -t = t * t by grind]
theorem sq_le {x y : Rat} (hx : 0 ≤ x) (h : x ≤ y) : x * x ≤ y * y:=by
  have:=Rat.mul_nonneg (show 0 ≤ y - x by grind) (show 0 ≤ y + x by grind);grind
theorem dsc_mid {g a b c : FR} {x y z : Rat} (hx : 0 ≤ x) (h1 : x ≤ z) (h2 : z ≤ y) (d1 : 0 < dsc g a b c false x) (d2 : 0 < dsc g a b c false y) : 0 < dsc g a b c false z:=by
  rw [dsc_k] at *
  exact dK_mid (dirC_anti (sq_le (by grind) h2)) (dirC_anti (sq_le hx h1)) d2 d1
theorem dsc_way {g a b c : FR} {x y q : Rat} (hx : 0 < x) (hy : 0 < y) (hq : 0 ≤ q ∧ q ≤ 1) (d1 : 0 < dsc g a b c false x) (d2 : 0 < dsc g a b c false y) : 0 < dsc g a b c false (x + q * (y - x)):=by
  rcases (show x ≤ y ∨ y ≤ x by grind) with h | h
  · have e1:=Rat.mul_nonneg hq.1 (show 0 ≤ y - x by grind)
    have e2:=Rat.mul_nonneg (show 0 ≤ 1 - q by grind) (show 0 ≤ y - x by grind)
    exact dsc_mid (x:=x) (y:=y) (by grind) (by grind) (by grind) d1 d2
  · have e1:=Rat.mul_nonneg hq.1 (show 0 ≤ x - y by grind)
    have e2:=Rat.mul_nonneg (show 0 ≤ 1 - q by grind) (show 0 ≤ x - y by grind)
    exact dsc_mid (x:=y) (y:=x) (by grind) (by grind) (by grind) d2 d1
theorem sgn_mul {x y : Rat} (h : ¬ x.num.sign * y.num.sign ≤ 0) : 0 < x ∧ 0 < y ∨ x < 0 ∧ y < 0:=by
  have a1:=num_sg x;have a2:=num_sg y
  rcases sgn_cases x.num with ⟨h1,h2⟩ | ⟨h1,h2⟩ | ⟨h1,h2⟩ <;> rcases sgn_cases y.num with ⟨h3,h4⟩ | ⟨h3,h4⟩ | ⟨h3,h4⟩ <;> rw [h2,h4] at h
  · exact .inr ⟨a1.2.2.1 (by omega),a2.2.2.1 (by omega)⟩
  · exact absurd h (by decide)
  · exact absurd h (by decide)
  · exact absurd h (by decide)
  · exact absurd h (by decide)
  · exact absurd h (by decide)
  · exact absurd h (by decide)
  · exact absurd h (by decide)
  · exact .inl ⟨a1.1.1 h2,a2.1.1 h4⟩
theorem side_ok {g a b c : FR} {h1 h2 : Bool} {t1 t2 : FR} {m : Int} {q : Rat} (hc : ciF g a b c = 0) (e1 : ofC g a b c h1 t1 m = 0) (e2 : ofC g a b c h2 t2 m = 0) (hm : m ≠ 0) (hs : ¬ t1.val.num.sign * t2.val.num.sign ≤ 0) (hq : 0 ≤ q ∧ q ≤ 1) :
    ofI g a b c h1 t1 m = ofI g a b c h2 t2 m ∧ 0 < dsc g a b c false (t1.val + q * (t2.val - t1.val)):=by
  obtain ⟨a1,a2,a3,a4⟩:=ofC_0 e1 hc
  obtain ⟨b1,b2,b3,b4⟩:=ofC_0 e2 hc
  have hs:=sgn_mul hs
  have k1 : h1 = false:=by cases h1 with
    | false=>rfl
    | true=>have:=(trn_half a1).2 rfl;grind
  have k2 : h2 = false:=by cases h2 with
    | false=>rfl
    | true=>have:=(trn_half b1).2 rfl;grind
  subst k1 k2
  have d1 : 0 < dsc g a b c false t1.val:=by have:=exC_0 a4;have : dsc g a b c false t1.val ≠ 0:=fun e=>hm (this.2.1 e);grind
  have d2 : 0 < dsc g a b c false t2.val:=by have:=exC_0 b4;have : dsc g a b c false t2.val ≠ 0:=fun e=>hm (this.2.1 e);grind
  constructor
  · unfold ofI
    rw [if_pos e1,if_pos e2]
    have e : decide (t1.val.num.sign < 0) = decide (t2.val.num.sign < 0):=by
      refine decide_eq_decide.2 ?_
      rw [(num_sg _).2.2,(num_sg _).2.2];constructor <;> intro k <;> grind
    unfold ofK
    rw [e]
  · rcases hs with ⟨p1,p2⟩ | ⟨p1,p2⟩
    · exact dsc_way p1 p2 hq d1 d2
    · rw [← neg_dsc] at d1 d2 ⊢
      rw [show -(t1.val + q * (t2.val - t1.val)) = -t1.val + q * (-t2.val - -t1.val) by grind]
      exact dsc_way (by grind) (by grind) hq d1 d2
end Go.Proofs.Ytpbkcbnghhodiaa
set_option linter.unusedVariables false
set_option linter.unusedSimpArgs false
set_option maxHeartbeats 4000000
set_option maxRecDepth 100000
set_option synthInstance.maxSize 100000
set_option synthInstance.maxHeartbeats 400000
namespace Go.Proofs.Ytpbkcbnghhodiaa
open Go.RowKit (Below)
attribute [local irreducible] barC trnC btC ciF dsc enR enL cirs exC ofC ofI boC boI boK dirC dirS cirF
end Go.Proofs.Ytpbkcbnghhodiaa
set_option linter.unusedVariables false
set_option linter.unusedSimpArgs false
namespace Go.Proofs.Ytpbkcbnghhodiaa
open Go.RowKit (Below)
class Gnd (ρ : MT) : Prop where
  h : ∀ {v : Value} {G G' : Gh},ρ.t v G → ρ.t v G'
instance Gnd.e {x : Value} : Gnd (.ex x):=⟨fun h=>h⟩
instance Gnd.t2 {τ σ : MT} [h : Gnd τ] [k : Gnd σ] : Gnd (.tup2 τ σ):=⟨fun ⟨x,y,e,h1,h2⟩=>⟨x,y,e,h.h h1,k.h h2⟩⟩
instance Gnd.t3 {τ σ ρ : MT} [h : Gnd τ] [k : Gnd σ] [l : Gnd ρ] : Gnd (.tup3 τ σ ρ):=⟨fun ⟨x,y,z,e,h1,h2,h3⟩=>⟨x,y,z,e,h.h h1,k.h h2,l.h h3⟩⟩
section
variable {P : Program} {W0 : World} {a : Act} {w : World} {G : Gh} {o : Oper} {ρ : MT}
theorem OpR.lendG {f b : Nat} {ty : TypeId} {k : Option Nat} {τ : MT} {args : Array Operand} {ats : Array TypeId} (hok : Gok w G) (ho : o.op = .call { callee := .value (.func f), args := args, argTypes := ats }) (hc : callable P f = true) (hg : Gnd ρ)
    (hb : BX.ok ⟨b,ty,k,τ⟩ W0 w G) (h : ∀ G1 v,Gle G G1 → Gok w G1 → Shaped k v → τ.t v G → G1 b = some (.cells v.cells ty (0,0)) → Calls P f (args.map a.eval) w (Ret w G1 ρ)) : OpR P o a w G ρ:=by
  obtain ⟨h1,h2,v,hv,hs,hvt⟩:=hb
  simp only at h1 h2 hv hs hvt
  have hle : Gle G (Gput G b (.cells v.cells ty (0,0))):=fun c x hc=>by
    unfold Gput;split
    · rename_i e;subst e;rw [h2] at hc;cases hc
    · exact hc
  have hok1 : Gok w (Gput G b (.cells v.cells ty (0,0))):=fun c x hc=>by
    unfold Gput at hc;split at hc
    · rename_i e;subst e;cases hc;exact hv
    · exact hok c x hc
  have hcall:=h _ v hle hok1 hs hvt (by simp [Gput])
  intro Q K hK
  have hr : (execOp a.eval o).run P w = .ok (.enter f (args.map a.eval)) w:=by
    simp [execOp,ho,resolve,Act.eval,Deferred.ofValue,invoke,run_callFunc hc]
  unfold Oper.wp
  rw [hr]
  refine Calls.mono hcall fun e w' he=>?_
  obtain ⟨u,G',rfl,hu,hN⟩:=he
  refine hK u w' (fun c=>if c = b then none else G' c) (hg.h hu) ⟨hN.below,fun c hc=>?_,fun c x hc=>?_,fun c x hc=>?_⟩
  · by_cases e : c = b
    · subst e;simp [h2]
    · simp only [if_neg e];rw [hN.agree c hc];unfold Gput;rw [if_neg e]
  · have e : c ≠ b:=fun e=>by rw [e,h2] at hc;cases hc
    simp only [if_neg e]
    exact hN.le c x (hle c x hc)
  · by_cases e : c = b
    · subst e;simp at hc
    · simp only [if_neg e] at hc;exact hN.ok c x hc
end
theorem Args.mono {G G' : Gh} (hle : Gle G G') : ∀ {vs : List Value} {τs : List MT},Args vs τs G → Args vs τs G'
  | [],[],_=>trivial
  | _ :: _,τ :: _,h=>⟨τ.mono hle h.1,Args.mono hle h.2⟩
  | [],_ :: _,h=>h.elim
  | _ :: _,[],h=>h.elim
class OpdX (L : List (Nat × MT)) (B : List BX) (xs : List Operand) (τs : outParam (List MT)) (u : outParam (List Nat)) (i : outParam Nat) (pre : outParam Prop) : Prop where
  h : ∃ xb,B[i]? = some xb ∧ ∀ {a : Act} {G G1 : Gh} {v : Value},pre → Env L u a G → Gle G G1 → Shaped xb.k v → xb.τ.t v G → G1 xb.b = some (.cells v.cells xb.ty (0,0)) → Args (xs.map a.eval) τs G1
section
variable {P : Program} {L : List (Nat × MT)} {B : List BX} {x : Operand} {ys : List Operand} {u v : List Nat} {t ty : TypeId} {τ τb ρ : MT} {τs : List MT} {n nn c b i f : Nat} {k : Option Nat} {α : Type} {T : α → MT} {xs : List α} {pre p2 : Prop} {ats : Array TypeId}
instance OpdX.hd [h : Opd L x (OSL b n c) u] [hb : Bx B b i ty (some nn) τb] [r : AsR τb k α T xs] [l : OpdL L ys τs v] : OpdX L B (x :: ys) (LS k (xs.map T) :: τs) (u ++ v) i (n = xs.length ∧ n ≤ c ∧ n ≤ LIM):=⟨_,hb.m,fun hp e hle hs ht hG =>
  ⟨ROWS.sl (r.h (MT.mono _ hle ht)) hG (by rw [List.length_map];exact hp.1) hp.2.1 hp.2.2 (h.h e.l),Args.mono hle (l.h e.r)⟩⟩
instance OpdX.tl [h : Opd L x τ u] [l : OpdX L B ys τs v i pre] : OpdX L B (x :: ys) (τ :: τs) (u ++ v) i pre:=by
  obtain ⟨xb,h1,h2⟩:=l.h
  exact ⟨xb,h1,fun hp e hle hs ht hG=>⟨τ.mono hle (h.h e.l),h2 hp e.r hle hs ht hG⟩⟩
instance (priority:=400) Op1.lend [h : OpdX L B ys τs u i p2] [c : Con P f τs pre ρ] [g : Gnd ρ] [kb : Cb P f] : Op1 P L B (.call { callee:=.value (.func f),args:=ys.toArray,argTypes:=ats }) (p2 ∧ pre) ρ (u ++ [1000000 + i]):=⟨fun ho hok e hB hp=>by
  obtain ⟨xb,h1,h2⟩:=h.h
  exact .lendG hok ho kb.h g (hB i xb (by simp) h1) fun G1 v hle hok1 hs ht hG=>by
    rw [List.map_toArray]
    exact c.h hok1 (h2 hp.1 e.l hle hs ht hG) hp.2⟩
instance Op1.sla [e : ArE P t n k] [h : Opd L x (PB b) u] : Op1 P L B (.slice t x none none none) (0 < n) (OSL b n n) u:=⟨fun ho hok e' _ hp=>by
  obtain ⟨e0,h3,h4⟩:=e.h
  exact .slAr hok ho h3 h4 (h.h e') (decide_eq_true hp) rfl⟩
instance LitN.add {z z' : Int} {m m' : Nat} [h : LitN z m] [h' : LitN z' m'] : LitN (z + z') (m + m'):=⟨by rw [h.h,h'.h];omega⟩
instance LitN.mul {z z' : Int} {m m' : Nat} [h : LitN z m] [h' : LitN z' m'] : LitN (z * z') (m * m'):=⟨by rw [h.h,h'.h];exact (Int.natCast_mul _ _).symm⟩
variable {y : Operand} {t' : TypeId} {z z' : Int} {m m' j : Nat}
instance Op1.quoN [h : Opd L x (IT z) u] [h2 : Opd L y (IT z') v] [l : LitN z m] [l' : LitN z' m'] : Op1 P L B (.binOp .quo t x y t') (m' ≠ 0 ∧ m ≤ 9223372036854775807) (NT (m / m')) (u ++ v):=⟨fun ho hok e _ hp=>by
  obtain rfl:=l.h;obtain rfl:=l'.h
  exact .nquo hok ho (h.h e.l) (h2.h e.r) hp.1 (i64_w ⟨Int.le_trans (by decide) (Int.natCast_nonneg _),Int.ofNat_le.2 (Nat.le_trans (Nat.div_le_self m m') hp.2)⟩) rfl⟩
instance Op1.remN [h : Opd L x (IT z) u] [h2 : Opd L y (IT z') v] [l : LitN z m] [l' : LitN z' m'] : Op1 P L B (.binOp .rem t x y t') (m' ≠ 0) (NT (m % m')) (u ++ v):=⟨fun ho hok e _ hp=>by
  obtain rfl:=l.h;obtain rfl:=l'.h
  exact .nrem hok ho (h.h e.l) (h2.h e.r) hp rfl⟩
instance Op1.shlN [h : Opd L x (IT z) u] [h2 : Opd L y (IT z') v] [l : LitN z m] [l' : LitN z' m'] : Op1 P L B (.binOp .shl t x y t') (m' < 64 ∧ m * 2 ^ m' ≤ 9223372036854775807) (NT (m * 2 ^ m')) (u ++ v):=⟨fun ho hok e _ hp=>by
  obtain rfl:=l.h;obtain rfl:=l'.h
  refine .shl hok ho (h.h e.l) (h2.h e.r) (by omega) ?_
  have e1 : (min ((m' : Int).toNat) IntKind.i64.bits) = m':=by simp only [Int.toNat_natCast,IntKind.bits];omega
  have e2 : ((m : Int) * 2 ^ m') = ((m * 2 ^ m' : Nat) : Int):=by simp
  rw [e1,e2,i64_w ⟨by omega,by omega⟩];rfl⟩
instance Op1.maxN [h : Opd L x (IT z) u] [h2 : Opd L y (IT z') v] [l : LitN z m] [l' : LitN z' m'] : Op1 P L B (.call { callee:=.builtin .max,args:=#[x,y],argTypes:=ats }) True (NT (max m m')) (u ++ v):=⟨fun ho hok e _ hp=>by
  obtain rfl:=l.h;obtain rfl:=l'.h
  exact .nmax hok ho (h.h e.l) (h2.h e.r) rfl⟩
class LsOf (τ : MT) (k : Option Nat) (α : outParam Type) (T : outParam (α → MT)) (xs : outParam (List α)) : Prop where
  h : ∀ {v : Value} {G : Gh},τ.t v G → (LS k (xs.map T)).t v G
instance LsOf.ll : LsOf (LS k (xs.map T)) k α T xs:=⟨fun h=>h⟩
instance LsOf.lc : LsOf (LSC k (xs.map T)) k α T xs:=⟨fun h=>h.1⟩
instance Op1.cutHiM [s : SlE P t k] [h : Opd L x τ u] [l : LsOf τ k α T xs] [h2 : Opd L y (IT z) v] [lz : LitN z j] : Op1 P L B (.slice t x none (some y) none) (j ≤ xs.length) (LS k ((xs.take j).map T)) (u ++ v):=⟨fun ho hok e _ hp=>by
  obtain ⟨e',h3,h4⟩:=s.h
  exact .cutHiM hok ho h3 h4 (l.h (h.h e.l)) (h2.h e.r) lz.h hp⟩
instance Op1.cutLoM [s : SlE P t k] [h : Opd L x τ u] [l : LsOf τ k α T xs] [h2 : Opd L y (IT z) v] [lz : LitN z j] : Op1 P L B (.slice t x (some y) none none) (j ≤ xs.length) (LS k ((xs.drop j).map T)) (u ++ v):=⟨fun ho hok e _ hp=>by
  obtain ⟨e',h3,h4⟩:=s.h
  exact .cutLoM hok ho h3 h4 (l.h (h.h e.l)) (h2.h e.r) lz.h hp⟩
instance Op1.cutLHM {y2 : Operand} {z2 : Int} {j2 : Nat} {v2 : List Nat} [s : SlE P t k] [h : Opd L x τ u] [l : LsOf τ k α T xs] [h2 : Opd L y (IT z) v] [lz : LitN z j] [h3 : Opd L y2 (IT z2) v2] [lz2 : LitN z2 j2] : Op1 P L B (.slice t x (some y) (some y2) none) (j ≤ j2 ∧ j2 ≤ xs.length) (LS k (((xs.take j2).drop j).map T)) (u ++ (v ++ v2)):=⟨fun ho hok e _ hp=>by
  obtain ⟨e',h4,h5⟩:=s.h
  exact .cutLHM hok ho h4 h5 (l.h (h.h e.l)) (h2.h e.r.l) lz.h (h3.h e.r.r) lz2.h hp.1 hp.2⟩
instance (priority:=1100) Op1.lenC [s : SlE P t k] [h : Opd L x (LSC k (xs.map T)) u] : Op1 P L B (.call { callee:=.builtin .len,args:=#[x],argTypes:=#[t] }) True (NT xs.length) u:=⟨fun ho hok e _ _=>by obtain ⟨e',h1,h2⟩:=s.h;exact .lenM hok ho h1 (h.h e).1 rfl⟩
instance Op1.ixMC [Inhabited α] [s : SlE P t k] [h : Opd L x (LSC k (xs.map T)) u] [h2 : Opd L y (IT z) v] : Op1 P L B (.indexAddr t x y) (0 ≤ z ∧ z < xs.length) (PE k (T (xs.getD z.toNat default))) (u ++ v):=⟨fun ho hok e _ hp=>by
  obtain ⟨e',h3,h4⟩:=s.h
  exact .ixM hok ho h3 h4 (h.h e.l).1 (h2.h e.r) (i:=z.toNat) (by omega) (by omega)⟩
instance (priority:=1100) Op1.ixMCN [Inhabited α] [s : SlE P t k] [h : Opd L x (LSC k (xs.map T)) u] [h2 : Opd L y (NT j) v] : Op1 P L B (.indexAddr t x y) (j < xs.length) (PE k (T (xs.getD j default))) (u ++ v):=⟨fun ho hok e _ hp=>by
  obtain ⟨e',h3,h4⟩:=s.h
  exact .ixM hok ho h3 h4 (h.h e.l).1 (h2.h e.r) rfl hp⟩
end
section
variable {fs : List (Option Nat × MT)} {n i : Nat} {τ τ' : MT} {k kt : Option Nat}
instance (priority:=500) PrtL.s5 [h : PrtL fs i kt τ] : PrtL ((some 5,τ') :: fs) (i + 5) kt τ:=h.skip rfl
instance (priority:=500) UpdL.s5 {fs' : List (Option Nat × MT)} [h : UpdL fs i kt τ fs'] : UpdL ((some 5,τ') :: fs) (i + 5) kt τ ((some 5,τ') :: fs'):=h.skip rfl
instance ShN.s7 [h : ShN fs n] : ShN ((some 7,τ) :: fs) (n + 7):=⟨by rw [offs_cons,h.h];simp;omega⟩
instance (priority:=500) PrtL.s7 [h : PrtL fs i kt τ] : PrtL ((some 7,τ') :: fs) (i + 7) kt τ:=h.skip rfl
instance (priority:=500) UpdL.s7 {fs' : List (Option Nat × MT)} [h : UpdL fs i kt τ fs'] : UpdL ((some 7,τ') :: fs) (i + 7) kt τ ((some 7,τ') :: fs'):=h.skip rfl
instance ShN.s8 [h : ShN fs n] : ShN ((some 8,τ) :: fs) (n + 8):=⟨by rw [offs_cons,h.h];simp;omega⟩
instance (priority:=500) PrtL.s8 [h : PrtL fs i kt τ] : PrtL ((some 8,τ') :: fs) (i + 8) kt τ:=h.skip rfl
instance (priority:=500) UpdL.s8 {fs' : List (Option Nat × MT)} [h : UpdL fs i kt τ fs'] : UpdL ((some 8,τ') :: fs) (i + 8) kt τ ((some 8,τ') :: fs'):=h.skip rfl
instance ShN.s9 [h : ShN fs n] : ShN ((some 9,τ) :: fs) (n + 9):=⟨by rw [offs_cons,h.h];simp;omega⟩
instance (priority:=500) PrtL.s9 [h : PrtL fs i kt τ] : PrtL ((some 9,τ') :: fs) (i + 9) kt τ:=h.skip rfl
instance (priority:=500) UpdL.s9 {fs' : List (Option Nat × MT)} [h : UpdL fs i kt τ fs'] : UpdL ((some 9,τ') :: fs) (i + 9) kt τ ((some 9,τ') :: fs'):=h.skip rfl
instance ShN.s10 [h : ShN fs n] : ShN ((some 10,τ) :: fs) (n + 10):=⟨by rw [offs_cons,h.h];simp;omega⟩
instance (priority:=500) PrtL.s10 [h : PrtL fs i kt τ] : PrtL ((some 10,τ') :: fs) (i + 10) kt τ:=h.skip rfl
instance (priority:=500) UpdL.s10 {fs' : List (Option Nat × MT)} [h : UpdL fs i kt τ fs'] : UpdL ((some 10,τ') :: fs) (i + 10) kt τ ((some 10,τ') :: fs'):=h.skip rfl
instance ShN.s12 [h : ShN fs n] : ShN ((some 12,τ) :: fs) (n + 12):=⟨by rw [offs_cons,h.h];simp;omega⟩
instance (priority:=500) PrtL.s12 [h : PrtL fs i kt τ] : PrtL ((some 12,τ') :: fs) (i + 12) kt τ:=h.skip rfl
instance (priority:=500) UpdL.s12 {fs' : List (Option Nat × MT)} [h : UpdL fs i kt τ fs'] : UpdL ((some 12,τ') :: fs) (i + 12) kt τ ((some 12,τ') :: fs'):=h.skip rfl
instance ShN.s13 [h : ShN fs n] : ShN ((some 13,τ) :: fs) (n + 13):=⟨by rw [offs_cons,h.h];simp;omega⟩
instance (priority:=500) PrtL.s13 [h : PrtL fs i kt τ] : PrtL ((some 13,τ') :: fs) (i + 13) kt τ:=h.skip rfl
instance (priority:=500) UpdL.s13 {fs' : List (Option Nat × MT)} [h : UpdL fs i kt τ fs'] : UpdL ((some 13,τ') :: fs) (i + 13) kt τ ((some 13,τ') :: fs'):=h.skip rfl
instance ShN.s14 [h : ShN fs n] : ShN ((some 14,τ) :: fs) (n + 14):=⟨by rw [offs_cons,h.h];simp;omega⟩
instance (priority:=500) PrtL.s14 [h : PrtL fs i kt τ] : PrtL ((some 14,τ') :: fs) (i + 14) kt τ:=h.skip rfl
instance (priority:=500) UpdL.s14 {fs' : List (Option Nat × MT)} [h : UpdL fs i kt τ fs'] : UpdL ((some 14,τ') :: fs) (i + 14) kt τ ((some 14,τ') :: fs'):=h.skip rfl
instance ShN.s15 [h : ShN fs n] : ShN ((some 15,τ) :: fs) (n + 15):=⟨by rw [offs_cons,h.h];simp;omega⟩
instance (priority:=500) PrtL.s15 [h : PrtL fs i kt τ] : PrtL ((some 15,τ') :: fs) (i + 15) kt τ:=h.skip rfl
instance (priority:=500) UpdL.s15 {fs' : List (Option Nat × MT)} [h : UpdL fs i kt τ fs'] : UpdL ((some 15,τ') :: fs) (i + 15) kt τ ((some 15,τ') :: fs'):=h.skip rfl
instance ShN.s16 [h : ShN fs n] : ShN ((some 16,τ) :: fs) (n + 16):=⟨by rw [offs_cons,h.h];simp;omega⟩
instance (priority:=500) PrtL.s16 [h : PrtL fs i kt τ] : PrtL ((some 16,τ') :: fs) (i + 16) kt τ:=h.skip rfl
instance (priority:=500) UpdL.s16 {fs' : List (Option Nat × MT)} [h : UpdL fs i kt τ fs'] : UpdL ((some 16,τ') :: fs) (i + 16) kt τ ((some 16,τ') :: fs'):=h.skip rfl
instance ShN.s18 [h : ShN fs n] : ShN ((some 18,τ) :: fs) (n + 18):=⟨by rw [offs_cons,h.h];simp;omega⟩
instance (priority:=500) PrtL.s18 [h : PrtL fs i kt τ] : PrtL ((some 18,τ') :: fs) (i + 18) kt τ:=h.skip rfl
instance (priority:=500) UpdL.s18 {fs' : List (Option Nat × MT)} [h : UpdL fs i kt τ fs'] : UpdL ((some 18,τ') :: fs) (i + 18) kt τ ((some 18,τ') :: fs'):=h.skip rfl
instance ShN.s20 [h : ShN fs n] : ShN ((some 20,τ) :: fs) (n + 20):=⟨by rw [offs_cons,h.h];simp;omega⟩
instance (priority:=500) PrtL.s20 [h : PrtL fs i kt τ] : PrtL ((some 20,τ') :: fs) (i + 20) kt τ:=h.skip rfl
instance (priority:=500) UpdL.s20 {fs' : List (Option Nat × MT)} [h : UpdL fs i kt τ fs'] : UpdL ((some 20,τ') :: fs) (i + 20) kt τ ((some 20,τ') :: fs'):=h.skip rfl
end
end Go.Proofs.Ytpbkcbnghhodiaa
set_option linter.unusedVariables false
set_option linter.unusedSimpArgs false
set_option maxHeartbeats 4000000
set_option maxRecDepth 100000
set_option synthInstance.maxSize 100000
set_option synthInstance.maxHeartbeats 400000
namespace Go.Proofs.Ytpbkcbnghhodiaa
open Go.RowKit (Below)
attribute [local irreducible] barC trnC btC ciF dsc enR enL cirs exC ofC ofI boC boI boK dirC dirS cirF
instance {r : FR} : Con Try.prog 11 [RX r] (shortR r = true) (IT r.val.num.sign):=.o1 fun hok h1 hp=>w11.c1 hok (FX.toQV (RX.toFX h1 hp)) (by decide)
theorem longG {s A B C : Bool} (h : s = false) : ((((!true || !s) || A) || B) || C) = true:=by rw [h];rfl
theorem gi_s {s A B : Bool} (h : s = false) (k : (((!true || !s) || A) || B) = false) : False:=by rw [h] at k;cases k
theorem sgn_bd2 (x y : Int) : -9223372036854775808 ≤ x.sign * y.sign ∧ x.sign * y.sign ≤ 9223372036854775807:=by
  rw [← Int.sign_mul];have:=sgn_cases (x * y);omega
theorem wrap_f (z : Fin 256) : IntKind.i64.wrap ((z.val : Nat) : Int) = ((z.val : Nat) : Int):=i64_w ⟨by omega,by have:=z.isLt;omega⟩
theorem ofC_ci {a b c d : FR} {h : Bool} {t : FR} {m : Int} (e : ofC a b c d h t m = 0) : ciF a b c d = 0:=by
  by_cases hc : ciF a b c d = 0
  · exact hc
  · rw [ofC_bd hc] at e;exact e
theorem ci_bar2 {a b c d : FR} (e : ciF a b c d = 0) : barC [a,b,c,d] = 0:=by
  unfold ciF at e
  split at e
  · assumption
  · omega
theorem way_q (z : Fin 256) : 0 ≤ Rat.divInt (IntKind.i64.wrap ((z.val : Nat) : Int)) 255 ∧ Rat.divInt (IntKind.i64.wrap ((z.val : Nat) : Int)) 255 ≤ 1:=by
  rw [wrap_f,Rat.divInt_eq_div]
  have h1 : (0 : Rat) ≤ (((z.val : Nat) : Int) : Rat):=Rat.intCast_le_intCast.2 (Int.natCast_nonneg _)
  have h2 : (((z.val : Nat) : Int) : Rat) ≤ ((255 : Int) : Rat):=Rat.intCast_le_intCast.2 (by have:=z.isLt;omega)
  have e : ((255 : Int) : Rat) = 255:=rfl
  rw [e] at h2 ⊢
  generalize (((z.val : Nat) : Int) : Rat) = x at *
  constructor <;> grind
theorem side_c {a b c d : FR} {h1 h2 : Bool} {t1 t2 : FR} {m m2 : Int} (hc : (decide (ofC a b c d h1 t1 m ≠ 0) || decide (ofC a b c d h2 t2 m2 ≠ 0)) = false) : ofC a b c d h1 t1 m = 0 ∧ ofC a b c d h2 t2 m2 = 0:=by
  simpa using hc
theorem side_fin {S : Bool} {rg ra rb rc : FR} {hx hy : Bool} {t t2 : FR} {md md2 : Int} {z : Fin 256} (hg : (!true || !S || decide (md ≠ md2) || decide (md = 0) || decide (t.val.num.sign * t2.val.num.sign ≤ 0)) = false)
   (hc : (decide (ofC rg ra rb rc hx t md ≠ 0) || decide (ofC rg ra rb rc hy t2 md2 ≠ 0)) = false) :
   (decide (ofI rg ra rb rc hx t md = ofI rg ra rb rc hy t2 md2) && decide ((if (255 : Int) = 0 then (8 : Int) else 0) = 0) && decide ((0 : Int) = 0) && decide ((dsc rg ra rb rc false (FR.of (t.val + Rat.divInt (IntKind.i64.wrap ((z.val : Nat) : Int)) 255 * (t2.val - t.val))).val).num.sign > 0)) = true:=by
  obtain ⟨e1,e2⟩:=side_c hc
  simp only [Bool.or_eq_false_iff,decide_eq_false_iff_not,Classical.not_not] at hg
  obtain ⟨⟨⟨_,rfl⟩,hm⟩,hs⟩:=hg
  obtain ⟨f1,f2⟩:=side_ok (ofC_ci e1) e1 e2 hm hs (way_q z)
  have f3:=(num_sg _).1.2 f2
  rw [FR.of_val,f1,f3];simp
theorem side_t {x : Rat} : trnF false (FR.of x) = true:=by unfold trnF;rw [FR.of_ok];rfl
theorem longCircuitsSide {rg ra rb rc t t2 : FR} {hx hy : Bool} {md md2 : Int} {z : Fin 256} : Con Try.prog 4 [PTS [(some 12,PTS [(some 3,RX rg),(some 3,RX ra),(some 3,RX rb),(some 3,RX rc)]),(some 5,PTS [(some 4,PTS [(some 3,RX t),(none,BT hx)]),(none,IT md)]),(some 5,PTS [(some 4,PTS [(some 3,RX t2),(none,BT hy)]),(none,IT md2)]),(none,.ex (.int .u8 ((z.val : Nat) : Int)))]] (([(t,hx,md),(t2,hy,md2)].all shT && [rg,ra,rb,rc].all shortR) = false) (BT true):=.o1 fun hok h1 hp=>by
  refine St.enter (N:=117) Try.func4 rfl rfl rfl hok (enter1 h1) fun a=>?_
  repeat' (first | refine W.cbt (longG hp) ?_ | refine W.run ?_ fun a w G=>?_ | refine W.mv fun a w G=>?_ | refine W.asg fun a w G=>?_ | refine W.bx fun b a w G=>?_ | (refine W.nn hK ?_;clear hK K) | refine W.reg fun K hK=>?_ | refine W.reg1 ?_ | refine W.nl ?_ | refine W.sq fun K hK=>?_ | refine W.ds ?_ (fun β a w G hu=>W.fin ?_ hu) mixedOrders (by kernel_rfl) | refine W.sk ?_ | (refine W.kn hK ?_;clear hK K) | refine W.cd (fun hc=>?_) (fun hc=>?_) | refine W.cb (fun hc=>?_) (fun hc=>?_) | refine W.al fun b a w G=>?_ | refine W.st fun w=>?_ | refine W.stp fun w=>?_ | refine W.ste ?_ fun w=>?_ | refine W.bl ?_ | refine W.bn ?_ | refine W.ex ?_ | refine W.xt ?_ | refine W.xb ?_ | refine W.xo ?_ | refine W.rt ?_ | refine W.tr ?_ | refine W.br ?_ | refine W.rt1 rfl ?_ | refine W.rt2 rfl ?_ ?_ | refine W.rt3 rfl ?_ ?_ ?_ | clear hK K | clear hu | exact True.intro | exact Nat.le_trans (by clear hp;omega) hp | exact Nat.le_trans (by clear hp;omega) hp.1 | exact Nat.le_trans (by clear hp;omega) hp.2 | (clear hp;omega) | apply And.intro | refine GI.i fun _=>?_ | with_reducible rfl | decide | (simp only [List.length_cons,List.length_nil];omega))
  all_goals first | exact (gi_s hp (by assumption)).elim | skip
theorem shortCircuitsSide {rg ra rb rc t t2 : FR} {hx hy : Bool} {md md2 : Int} {z : Fin 256} : Con Try.prog 4 [PTS [(some 12,QUD 64 rg ra rb rc),(some 5,BST 64 t hx md),(some 5,BST 64 t2 hy md2),(none,.ex (.int .u8 ((z.val : Nat) : Int)))]] (([(t,hx,md),(t2,hy,md2)].all shT && [rg,ra,rb,rc].all shortR) = true) (BT true):=.o1 fun hok h1 hp=>by
  refine St.enter (N:=117) Try.func4 rfl rfl rfl hok (enter1 h1) fun a=>?_
  repeat' (first | refine W.run ?_ fun a w G=>?_ | refine W.mv fun a w G=>?_ | refine W.asg fun a w G=>?_ | refine W.bx fun b a w G=>?_ | (refine W.nn hK ?_;clear hK K) | refine W.reg fun K hK=>?_ | refine W.reg1 ?_ | refine W.nl ?_ | refine W.sq fun K hK=>?_ | refine W.ds ?_ (fun β a w G hu=>W.fin ?_ hu) mixedOrders (by kernel_rfl) | refine W.sk ?_ | (refine W.kn hK ?_;clear hK K) | refine W.cd (fun hc=>?_) (fun hc=>?_) | refine W.cb (fun hc=>?_) (fun hc=>?_) | refine W.al fun b a w G=>?_ | refine W.st fun w=>?_ | refine W.stp fun w=>?_ | refine W.ste ?_ fun w=>?_ | refine W.bl ?_ | refine W.bn ?_ | refine W.ex ?_ | refine W.xt ?_ | refine W.xb ?_ | refine W.xo ?_ | refine W.rt ?_ | refine W.tr ?_ | refine W.br ?_ | refine W.rt1 rfl ?_ | refine W.rt2 rfl ?_ ?_ | refine W.rt3 rfl ?_ ?_ ?_ | clear hK K | clear hu | exact True.intro | exact Nat.le_trans (by clear hp;omega) hp | exact Nat.le_trans (by clear hp;omega) hp.1 | exact Nat.le_trans (by clear hp;omega) hp.2 | (clear hp;omega) | apply And.intro | refine GI.i fun _=>?_ | with_reducible rfl | decide | (simp only [List.length_cons,List.length_nil];omega))
  all_goals first
    | exact (sgn_bd2 _ _).1
    | exact (sgn_bd2 _ _).2
    | (rw [wrap_f];omega)
    | exact ci_bar2 (ofC_ci (side_c hc).1)
    | exact side_t
    | exact side_fin (by assumption) hc
    | skip
theorem lawCircuitsSide {rg ra rb rc t t2 : FR} {hx hy : Bool} {md md2 : Int} {z : Fin 256} {w : World} {G : Gh} {v1 : Value} (hok : Gok w G) (h1 : (PTS [(some 12,PTS [(some 3,RX rg),(some 3,RX ra),(some 3,RX rb),(some 3,RX rc)]),(some 5,PTS [(some 4,PTS [(some 3,RX t),(none,BT hx)]),(none,IT md)]),(some 5,PTS [(some 4,PTS [(some 3,RX t2),(none,BT hy)]),(none,IT md2)]),(none,.ex (.int .u8 ((z.val : Nat) : Int)))]).t v1 G) : Calls Try.prog 4 #[v1] w (Ret w G (BT true)):=by
  cases hs : ([(t,hx,md),(t2,hy,md2)].all shT && [rg,ra,rb,rc].all shortR) with
  | true =>
    have hq:=hs
    (try simp only [List.all_cons,List.all_nil,Bool.and_true,Bool.and_eq_true,shT] at hq)
    exact shortCircuitsSide.c1 hok (NS.h (τ':=PTS [(some 12,QUD 64 rg ra rb rc),(some 5,BST 64 t hx md),(some 5,BST 64 t2 hy md2),(none,.ex (.int .u8 ((z.val : Nat) : Int)))]) (by (try simp only [and_true,true_and]);grind) h1) hs
  | false=>exact longCircuitsSide.c1 hok h1 hs
end Go.Proofs.Ytpbkcbnghhodiaa
namespace Go.Proofs.Ytpbkcbnghhodiaa
open Go.RowKit (Below)
def G0of (W : World) : Gh:=fun b=>W.heap[b]?
theorem G0of_ok (W : World) : Gok W (G0of W):=fun _ _ h=>h
theorem Gc_G0 {W : World} {b i : Nat} : Gc (G0of W) b i = W.cell? ⟨b,i,none⟩:=by
  unfold Gc G0of World.cell?;cases W.heap[b]? with
  | none=>rfl
  | some o=>cases o <;> rfl
def RdA (P : Program) (W : World) (t : TypeId) (k : Option Nat) (A : MT → Prop) : Prop:=∀ (H : Type) (enc : TypeId × Value → H) (fuel : Nat) (cs : List Value) (x : DataW H × List MemPlace),
  DataW.trod enc P W 0 (fun _=>true) true fuel t cs = some x → (x.1.weights P t).all (· ≤ reachBytes) = true → ∃ (v : Value) (τ : MT),A τ ∧ v.cells.toList = cs ∧ Shaped k v ∧ τ.t v (G0of W)
section
variable {P : Program} {W : World} {t e : TypeId} {k : Option Nat} {A A' : MT → Prop}
theorem RdA.mono (h : RdA P W t k A) (hA : ∀ τ v,A τ → τ.t v (G0of W) → ∃ σ,A' σ ∧ σ.t v (G0of W)) : RdA P W t k A':=fun H enc fuel cs x hx hw=>by
  obtain ⟨v,τ,h1,h2,h3,h4⟩:=h H enc fuel cs x hx hw
  obtain ⟨σ,h5,h6⟩:=hA τ v h1 h4
  exact ⟨v,σ,h5,h2,h3,h6⟩
theorem rd_bool (ht : P.underlying t = some .bool) : RdA P W t none (fun τ=>∃ b,τ = .ex (.bool b)):=fun H enc fuel cs x hx hw=>by
  obtain ⟨b,rfl,rfl⟩:=DataW.trod_bool ht hx
  exact ⟨.bool b,_,⟨b,rfl⟩,rfl,⟨rfl,rfl⟩,rfl⟩
theorem rd_int {kk : IntKind} (ht : P.underlying t = some (.int kk)) : RdA P W t none (fun τ=>∃ z,(Lit.int kk z).wf = true ∧ τ = .ex (.int kk z)):=fun H enc fuel cs x hx hw=>by
  obtain ⟨z,rfl,rfl,h⟩:=DataW.trod_int ht hx
  exact ⟨.int kk z,_,⟨z,h,rfl⟩,rfl,⟨rfl,rfl⟩,rfl⟩
theorem rd_i64 (ht : P.underlying t = some (.int .i64)) : RdA P W t none (fun τ=>∃ z : Int,τ = .ex (.int .i64 z)):=(rd_int ht).mono fun τ v ⟨z,_,e⟩ hv=>⟨τ,⟨z,e⟩,hv⟩
theorem rd_u8 (ht : P.underlying t = some (.int .u8)) : RdA P W t none (fun τ=>∃ z : Fin 256,τ = .ex (.int .u8 ((z.val : Nat) : Int))):=(rd_int ht).mono fun τ v ⟨z,hz,e⟩ hv=>by
  have h0 : (0 : Int) ≤ z:=of_decide_eq_true (Bool.and_eq_true_iff.1 hz).1
  have h1 : z ≤ 255:=of_decide_eq_true (Bool.and_eq_true_iff.1 hz).2
  refine ⟨τ,⟨⟨z.toNat,by omega⟩,?_⟩,hv⟩
  rw [e];show _ = MT.ex (.int .u8 ((z.toNat : Nat) : Int));rw [Int.toNat_of_nonneg h0]
theorem cells_get {a : Addr} {n : Nat} {L : List Value} (h : W.cells? 0 a n = some L) : L.length = n ∧ ∀ j,j < n → W.cell? (a.add j) = L[j]?:=by
  unfold World.cells? at h
  rw [if_pos (Nat.zero_le _)] at h
  exact ⟨by simpa using mapM_some_length h,fun j hj=>mapM_some_get h j j (by simp [hj])⟩
theorem weightsAll_mem {H : Type} {es : List (DataW H)} {d : DataW H} {i : Nat} (hi : es[i]? = some d) : ∀ n ∈ d.weights P e,n ∈ DataW.weightsAll P e es:=by
  induction es generalizing i with
  | nil=>simp at hi
  | cons x r ih =>
    intro n hn
    rw [DataW.weightsAll,List.mem_append]
    cases i with
    | zero=>simp at hi;subst hi;exact .inl hn
    | succ j=>exact .inr (ih (by simpa using hi) n hn)
theorem rd_slice (ht : P.underlying t = some (.slice e)) (hc : P.cellsOf e = k.getD 1) (hc0 : 0 < k.getD 1) (hb : 4 ≤ P.bytesOf e) (h : RdA P W e k A) : RdA P W t none (fun τ=>∃ τs,(∀ σ ∈ τs,A σ) ∧ τ = LS k τs):=fun H enc fuel cs x hx hw=>by
  rcases DataW.trod_slice ht hx with ⟨rfl,rfl⟩ | ⟨a,len,cap,elems,rest,n,rfl,rfl,rfl,hb0,hlc,hcm,hel,hE,_,_⟩
  · exact ⟨.slice none 0 0,LS k [],⟨[],by simp,rfl⟩,rfl,⟨rfl,rfl⟩,LS.nil⟩
  · simp only [DataW.weights,ht,List.all_cons,List.all_append,Bool.and_eq_true,decide_eq_true_eq] at hw
    obtain ⟨hw1,hw2,_⟩:=hw
    have hlim : len ≤ LIM:=by
      have h1 : len * 4 ≤ ((elems.map (·.1)).length + (rest.map (·.1)).length) * P.bytesOf e:=Nat.mul_le_mul (by simp;omega) hb
      have h2 : reachBytes = 140737488351232:=rfl
      simp only [LIM];omega
    have each : ∀ i,∃ (v : Value) (τ : MT),i < len → W.cells? 0 (a.add (i * k.getD 1)) (k.getD 1) = some v.cells.toList ∧ A τ ∧ Shaped k v ∧ τ.t v (G0of W):=fun i=>by
      by_cases hi : i < len
      · have h1:=hE i hi
        rw [List.getElem?_eq_getElem (by omega),Option.bind_eq_some_iff,hc] at h1
        obtain ⟨cs',h2,h3⟩:=h1
        obtain ⟨v,τ,h4,h5,h6,h7⟩:=h H enc n cs' _ h3 (List.all_eq_true.2 fun m hm=>List.all_eq_true.1 hw2 m (weightsAll_mem (i:=i) (by rw [List.getElem?_map,List.getElem?_eq_getElem (by omega)];rfl) m hm))
        exact ⟨v,τ,fun _=>⟨by rw [h5];exact h2,h4,h6,h7⟩⟩
      · exact ⟨undef,.ex undef,fun h=>absurd h hi⟩
    obtain ⟨f,g,hfg⟩ : ∃ (f : Nat → Value) (g : Nat → MT),∀ i,i < len → W.cells? 0 (a.add (i * k.getD 1)) (k.getD 1) = some (f i).cells.toList ∧ A (g i) ∧ Shaped k (f i) ∧ (g i).t (f i) (G0of W):=⟨fun i=>(each i).choose,fun i=>(each i).choose_spec.choose,fun i=>(each i).choose_spec.choose_spec⟩
    refine ⟨.slice (some a) len cap,LS k ((List.range len).map g),⟨_,fun σ hσ=>?_,rfl⟩,rfl,⟨rfl,rfl⟩,LS.of_vals (us:=(List.range len).map f) (A:=some a) (c:=cap) (by simp) (by simpa using hlc) (by simpa using hlim) ⟨by simp,fun i τ u hi hu=>?_⟩ fun i u hu=>?_⟩
    · obtain ⟨i,hi,rfl⟩:=List.mem_map.1 hσ
      exact (hfg i (by simpa using hi)).2.1
    · have hlt : i < len:=by have:=(List.getElem?_eq_some_iff.1 hi).1;simpa using this
      simp [List.getElem?_range hlt] at hi hu
      subst hi;subst hu
      exact (hfg i hlt).2.2
    · have hlt : i < len:=by have:=(List.getElem?_eq_some_iff.1 hu).1;simpa using this
      simp [List.getElem?_range hlt] at hu
      subst hu
      obtain ⟨h1,h2,h3,h4⟩:=hfg i hlt
      obtain ⟨h5,h6⟩:=cells_get h1
      obtain ⟨g5,g6⟩:=cells_get (hfg 0 (by omega)).1
      obtain ⟨b,off,spot⟩:=a
      have h7:=g6 0 hc0
      rw [List.getElem?_eq_getElem (by omega)] at h7
      have hs : spot = none:=by simpa [Addr.add] using World.cell?_spot h7
      subst hs
      refine ⟨b,off,rfl,fun j x hj=>?_⟩
      have hjl : j < k.getD 1:=by have:=(Array.getElem?_eq_some_iff.1 hj).1;rw [← h5,Array.length_toList];exact this
      have h8:=h6 j hjl
      rw [Gc_G0]
      rw [addr_add,addr_add,Array.getElem?_toList,hj] at h8
      exact h8
theorem forall_map' {α : Type} {T : α → MT} {p : α → Prop} {τs : List MT} (h : ∀ σ ∈ τs,∃ x,p x ∧ σ = T x) : ∃ xs : List α,τs = xs.map T ∧ ∀ x ∈ xs,p x:=by
  induction τs with
  | nil=>exact ⟨[],rfl,by simp⟩
  | cons a r ih =>
    obtain ⟨l,rfl,hl⟩:=ih fun σ h'=>h σ (List.mem_cons_of_mem _ h')
    obtain ⟨x,hx,rfl⟩:=h a (List.mem_cons_self ..)
    exact ⟨x :: l,rfl,by simpa using ⟨hx,hl⟩⟩
theorem rd_words (ht : P.underlying t = some (.slice e)) (hu : P.underlying e = some (.int .u32)) (hc : P.cellsOf e = 1) (hb : 4 ≤ P.bytesOf e) : RdA P W t none (fun τ=>∃ l,τ = SL l):=by
  have h1 : RdA P W e none (fun τ=>∃ x : Nat,x < 4294967296 ∧ τ = .ex (u32 x)):=(rd_int hu).mono fun τ v ⟨z,hz,hτ⟩ hv=>by
    subst hτ
    have hm : IntKind.u32.min = 0:=by decide
    have hM : IntKind.u32.max = 4294967295:=by decide
    simp [Lit.wf,hm,hM] at hz
    exact ⟨_,⟨z.toNat,by omega,rfl⟩,by
      have : (z.toNat : Int) = z:=by omega
      show v = .int .u32 (z.toNat : Int);rw [this];exact hv⟩
  refine (rd_slice (k:=none) ht hc (by decide) hb h1).mono fun τ v ⟨τs,hσ,hτ⟩ hv=>?_
  subst hτ
  obtain ⟨l,hl,hlt⟩:=forall_map' hσ
  subst hl
  obtain ⟨A,c,us,h2,h3,h4,h5,h6⟩:=LS.vals hv
  rw [List.length_map] at h2 h3 h4
  refine ⟨_,⟨l,rfl⟩,A,c,h2,h3,h4,hlt,fun i x hi=>?_⟩
  have hil:=(List.getElem?_eq_some_iff.1 hi).1
  have hul : i < us.length:=by rw [h5.1,List.length_map];exact hil
  have hui : us[i]? = some us[i]:=by rw [List.getElem?_eq_getElem hul]
  have h7:=(h5.2 i (.ex (u32 x)) us[i] (by rw [List.getElem?_map,hi];rfl) hui).2
  obtain ⟨b,off,e1,h8⟩:=h6 i us[i] hui
  refine ⟨b,off,e1,?_⟩
  have h9 : us[i] = u32 x:=h7
  rw [h9] at h8
  simpa using h8 0 (u32 x) rfl
def FldOk (P : Program) (W : World) : Nat → List Field → List (Option Nat × (MT → Prop)) → Prop
  | _,[],[]=>True
  | off,f :: fs,a :: As=>f.offset = off ∧ P.cellsOf f.type = a.1.getD 1 ∧ RdA P W f.type a.1 a.2 ∧ FldOk P W (off + a.1.getD 1) fs As
  | _,_,_=>False
def Mt : List (Option Nat × (MT → Prop)) → List (Option Nat × MT) → Prop
  | [],[]=>True
  | a :: As,f :: F=>f.1 = a.1 ∧ a.2 f.2 ∧ Mt As F
  | _,_=>False
def tot (As : List (Option Nat × (MT → Prop))) : Nat:=(As.map fun a=>a.1.getD 1).sum
theorem Mt.tot : ∀ {As : List (Option Nat × (MT → Prop))} {F : List (Option Nat × MT)},Mt As F → (F.map fun f=>f.1.getD 1).sum = Go.Proofs.Ytpbkcbnghhodiaa.tot As
  | [],[],_=>rfl
  | a :: As,f :: F,h=>by
    have:=Mt.tot h.2.2
    simp only [Go.Proofs.Ytpbkcbnghhodiaa.tot,List.map_cons,List.sum_cons,h.1] at this ⊢
    rw [this]
  | [],_ :: _,h=>h.elim
  | _ :: _,[],h=>h.elim
theorem rd_fields {H : Type} {enc : TypeId × Value → H} {n : Nat} {cs : List Value} : ∀ (fs : List Field) (As : List (Option Nat × (MT → Prop))) (xs : List (DataW H × List MemPlace)) (off : Nat), FldOk P W off fs As → xs.length = fs.length →
    (∀ (i : Nat) (f : Field),fs[i]? = some f → DataW.trod enc P W 0 (fun _=>true) true n f.type ((cs.drop f.offset).take (P.cellsOf f.type)) = xs[i]?) → (DataW.weightsEach P (fs.map (·.type)) (xs.map (·.1))).all (· ≤ reachBytes) = true → cs.length = off + tot As →
    ∃ us F,Mt As F ∧ flat us = cs.drop off ∧ us.length = F.length ∧ ∀ (i : Nat) (f : Option Nat × MT) (u : Value),F[i]? = some f → us[i]? = some u → Shaped f.1 u ∧ f.2.t u (G0of W)
  | [],[],xs,off,_,_,_,_,hl=>⟨[],[],trivial,by rw [List.drop_eq_nil_of_le (by rw [hl];simp [tot])];rfl,rfl,fun i f u h=>by simp at h⟩
  | f :: fs,a :: As,[],off,_,hx,_,_,_=>by simp at hx
  | f :: fs,a :: As,x :: xs,off,hF,hx,hT,hw,hl=>by
    obtain ⟨h1,h2,h3,h4⟩:=hF
    simp only [List.map_cons,DataW.weightsEach,List.all_append,Bool.and_eq_true] at hw
    obtain ⟨v,τ,h5,h6,h7,h8⟩:=h3 H enc n _ x (hT 0 f rfl) hw.1
    obtain ⟨us,F,g1,g2,g3,g4⟩:=rd_fields fs As xs (off + a.1.getD 1) h4 (by simpa using hx) (fun i g hg=>by simpa using hT (i + 1) g (by simpa using hg)) hw.2 (by rw [hl];simp [tot];omega)
    refine ⟨v :: us,(a.1,τ) :: F,⟨rfl,h5,g1⟩,?_,by simp [g3],fun i f' u hf hu=>?_⟩
    · rw [flat_cons,h6,g2,h1,h2,← List.drop_drop,List.take_append_drop]
    · cases i with
      | zero=>simp at hf hu;subst hf;subst hu;exact ⟨h7,h8⟩
      | succ i=>exact g4 i f' u (by simpa using hf) (by simpa using hu)
  | [],_ :: _,_,_,h,_,_,_,_=>h.elim
  | _ :: _,[],_,_,h,_,_,_,_=>h.elim
theorem rd_struct {fs : Array Field} {As : List (Option Nat × (MT → Prop))} {n : Nat} (ht : P.underlying t = some (.struct fs)) (hn : P.cellsOf t = n) (hnA : tot As = n) (hF : FldOk P W 0 fs.toList As) : RdA P W t (some n) (fun τ=>∃ F,Mt As F ∧ τ = PTS F):=fun H enc fuel cs x hx hw=>by
  obtain ⟨xs,m,rfl,rfl,hl,hxl,hT⟩:=DataW.trod_struct ht hx
  simp only [DataW.weights,ht] at hw
  obtain ⟨us,F,h1,h2,h3,h4⟩:=rd_fields fs.toList As xs 0 hF (by simpa using hxl) (fun i f hf=>hT i f (by simpa using hf)) hw (by omega)
  have hP : (PTS F).t (.agg (flat us).toArray) (G0of W):=⟨us,rfl,h3,h4⟩
  refine ⟨.agg (flat us).toArray,PTS F,⟨F,h1,rfl⟩,by rw [h2];rfl,PTS.shaped (by unfold offs;rw [List.take_length,h1.tot,hnA]) hP,hP⟩
theorem shaped1 {u : Value} (h : Shaped none u) : u.cells = #[u]:=h.1
theorem PTS.toQR {s : Bool} {p q : List Nat} {v : Value} {G : Gh} (h : (PTS [(none,.ex (.bool s)),(none,SL p),(none,SL q)]).t v G) : (QR s p q).t v G:=by
  obtain ⟨us,rfl,hl,h⟩:=h
  match us,hl,h with
  | [u0,u1,u2],_,h =>
    obtain ⟨a0,b0⟩:=h 0 _ u0 rfl rfl
    obtain ⟨a1,b1⟩:=h 1 _ u1 rfl rfl
    obtain ⟨a2,b2⟩:=h 2 _ u2 rfl rfl
    refine ⟨u1,u2,?_,b1,b2⟩
    have e0 : u0 = .bool s:=b0
    simp only [flat,List.flatMap_cons,List.flatMap_nil,shaped1 a0,shaped1 a1,shaped1 a2]
    rw [e0];rfl
theorem rd_frac {fs : Array Field} {f0 f1 f2 : Field} {tw : TypeId} (ht : P.underlying t = some (.struct fs)) (hf : fs.toList = [f0, f1, f2]) (hn : P.cellsOf t = 3) (h0 : f0.offset = 0 ∧ P.cellsOf f0.type = 1 ∧ P.underlying f0.type = some .bool) (h1 : f1.offset = 1 ∧ f1.type = tw) (h2 : f2.offset = 2 ∧ f2.type = tw)
    (hw : P.underlying tw = some (.slice e) ∧ P.cellsOf tw = 1) (he : P.underlying e = some (.int .u32) ∧ P.cellsOf e = 1 ∧ 4 ≤ P.bytesOf e) : RdA P W t (some 3) (fun τ=>∃ r : FR,τ = QR r.s r.p r.q):=by
  have hW : RdA P W tw none (fun τ=>∃ l,τ = SL l):=rd_words hw.1 he.1 he.2.1 he.2.2
  refine (rd_struct (As:=[(none,fun τ=>∃ b,τ = .ex (.bool b)),(none,fun τ=>∃ l,τ = SL l),(none,fun τ=>∃ l,τ = SL l)]) ht hn rfl (by
    rw [hf];exact ⟨h0.1,h0.2.1,rd_bool h0.2.2,h1.1,by rw [h1.2];exact hw.2,by rw [h1.2];exact hW,h2.1,by rw [h2.2];exact hw.2,by rw [h2.2];exact hW,trivial⟩)).mono fun τ v ⟨F,hM,hτ⟩ hv=>?_
  subst hτ
  match F,hM with
  | [a,b,c],⟨a1,⟨s,a2⟩,b1,⟨p,b2⟩,c1,⟨q,c2⟩,_⟩ =>
    obtain ⟨a0,a'⟩:=a;obtain ⟨b0,b'⟩:=b;obtain ⟨c0,c'⟩:=c
    simp only at a1 a2 b1 b2 c1 c2
    subst a1;subst a2;subst b1;subst b2;subst c1;subst c2
    exact ⟨_,⟨⟨s,p,q⟩,rfl⟩,PTS.toQR hv⟩
theorem rd_arg {H : Type} {enc : TypeId × Value → H} {v : Value} {d : DataW H} {ps : List MemPlace} (h : RdA P W t k A) (hd : DataW.Trod enc P W 0 (fun _ => true) true t v d ps) (hw : (d.weights P t).all (· ≤ reachBytes) = true)
    (hv : match k with | none=>v.cells = #[v] | some _=>∃ cs,v = .agg cs) : ∃ τ,A τ ∧ Shaped k v ∧ τ.t v (G0of W):=by
  obtain ⟨fuel,hf⟩:=hd
  obtain ⟨u,τ,h1,h2,h3,h4⟩:=h H enc fuel _ _ hf hw
  have : u = v:=by
    cases k with
    | none =>
      have h5 : u.cells = #[u]:=h3.1
      rw [h5,hv] at h2
      simpa using h2
    | some n =>
      obtain ⟨cs,rfl⟩:=hv
      obtain ⟨cs',rfl,_⟩:=h3
      have : cs'.toList = cs.toList:=h2
      rw [Array.toList_inj.1 this]
  subst this
  exact ⟨τ,h1,h3,h4⟩
end
end Go.Proofs.Ytpbkcbnghhodiaa
