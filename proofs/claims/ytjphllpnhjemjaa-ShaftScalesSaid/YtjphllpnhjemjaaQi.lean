import Derived.ChangeArms
import Derived.SizedLaws
import Derived.WideShapes
import Derived.Test.YtjphllpnhjemjaaQh
set_option linter.unusedVariables false
set_option linter.unusedSimpArgs false
set_option linter.unusedVariables false
set_option linter.unusedSimpArgs false
set_option maxHeartbeats 4000000
set_option maxRecDepth 100000
set_option synthInstance.maxSize 100000
set_option synthInstance.maxHeartbeats 400000
namespace Go.Proofs.Ytjphllpnhjemjaa
open Go.RowKit (Below)
attribute [local irreducible] Go.Code.wp Go.wpList Go.bodyPost
private theorem gS_ {W0 : World} {G0 : Gh} {N : Nat} {L : List (Nat × MT)} {B : List BX} {a : Act} {w : World} {G : Gh} {q : Prop} (h : St W0 G0 N L B a w G → q) : St W0 G0 N L B a w G → q:=h
private theorem gL_ {p : Prop} {P : Program} {arr : Array Oper} {Q : Exit → Act → World → Prop} {l : List Oper} {a : Act} {w : World} (h : p → wpList P arr Q l a w) : p → wpList P arr Q l a w:=h
private theorem gC_ {p : Prop} {P : Program} {c : Code} {Q : Exit → Act → World → Prop} {a : Act} {w : World} (h : p → c.wp P Q a w) : p → c.wp P Q a w:=h
private theorem mixedOrders : Try.prog.follows .mixedOrders = true:=by kernel_rfl
theorem num_s2 {x : Rat} : x.num.sign < 0 ↔ x < 0:=(num_sg x).2.2
def tgF (l : List WT) (b : List Rat) (x : Rat) (k i : Nat) : Bool:=decide (x.num.sign = 0) || (List.range i).any fun q=>decide ((l.getD q default).2.1 = ((k : Nat) : Int)) && decide ((b.getD q default).num.sign = 0)
theorem tg_0 {l : List WT} {b : List Rat} {x : Rat} {k : Nat} : tgF l b x k 0 = decide (x.num.sign = 0):=by unfold tgF;exact Bool.or_false _
theorem tg_go {l : List WT} {b : List Rat} {x : Rat} {k i : Nat} : (tgF l b x k i || (decide ((l.getD i default).2.1 = ((k : Nat) : Int)) && decide ((b.getD i default).num.sign = 0))) = tgF l b x k (i + 1):=by
  unfold tgF;rw [List.range_succ,List.any_append,← Bool.or_assoc];simp
theorem tg_y {n : Nat} {l : List WT} {p : Rat} {k j : Nat} (hl : OKL n l) (hj : laF n l p j < 0) (hk : k < n) : tgF l (skT l p (roF n l p j).1 l.length) ((roF n l p j).1.getD k default) k l.length = true ∧ 0 ≤ (roF n l p j).1.getD k default:=by
  obtain ⟨h0,h1⟩:=sl_tight hl hj hk
  refine ⟨?_,h0⟩
  unfold tgF
  rw [Bool.or_eq_true,decide_eq_true_eq,sg_0]
  rcases h1 with h1 | ⟨i,hi,ht,hs⟩
  · exact .inl h1
  · right
    rw [List.any_eq_true]
    refine ⟨i,List.mem_range.2 hi,?_⟩
    rw [Bool.and_eq_true,decide_eq_true_eq,decide_eq_true_eq,sg_0,skT_get hi]
    refine ⟨?_,hs⟩
    have:=hl i hi
    unfold okW at this
    unfold wTo at ht
    omega
theorem tg_no {l : List WT} {b : List Rat} {x : Rat} {k i : Nat} (h : tgF l b x k i = true) (h2 : 0 ≤ x) (hc : (!tgF l b x k i || decide (x.num.sign < 0)) = true) : False:=by
  rw [h,Bool.not_true,Bool.false_or,decide_eq_true_eq,num_s2] at hc
  grind
theorem sk_nn {n : Nat} {l : List WT} {p : Rat} {j i : Nat} (hl : OKL n l) (hj : laF n l p j < 0) (hi : i < l.length) : 0 ≤ (skT l p (roF n l p j).1 l.length).getD i default:=by
  rw [skT_get hi]
  exact sl_nn (la_still hl hj).2 hi
instance {n : Int} {l : List WT} : Con Try.prog 7 [IT n,WTS l] (True) (BT ((!lrg l && decide (n ≤ 8)) && decide (chW n l = 0))):=.o2 fun hok h1 h2 hp=>by
  refine St.enter (N:=18) Try.func7 rfl rfl rfl hok (enter2 h1 h2) fun a=>?_
  repeat' (first|((with_reducible refine gS_ ?_);first|((with_reducible refine gL_ ?_);first|refine W.run ?_ fun a w G=>?_|refine W.mv fun a w G=>?_|refine W.asg fun a w G=>?_|refine W.bx fun b a w G=>?_|(refine W.nn hK ?_;clear hK K)|refine W.nl ?_|refine W.al fun b a w G=>?_|refine W.st fun w=>?_|refine W.stp fun w=>?_|refine W.ste ?_ fun w=>?_)|((with_reducible refine gC_ ?_);first|refine W.reg fun K hK=>?_|refine W.reg1 ?_|refine W.sq fun K hK=>?_|refine W.ds ?_ (fun β a w G hu=>W.fin ?_ hu) mixedOrders (by kernel_rfl)|refine W.sk ?_|refine W.cd (fun hc=>?_) (fun hc=>?_)|refine W.cb (fun hc=>?_) (fun hc=>?_)|refine W.bl ?_|refine W.ex ?_|refine W.rt ?_)|((with_reducible refine W.kn hK ?_);clear hK K)|(with_reducible first|refine W.bn ?_|refine W.xt ?_|refine W.xb ?_|refine W.xo ?_|refine W.tr ?_|refine W.br ?_)|refine W.rt1 rfl ?_|refine W.rt2 rfl ?_ ?_|refine W.rt3 rfl ?_ ?_ ?_)|clear hK K|clear hu|exact True.intro|exact Nat.le_trans (by clear hp;omega) hp|exact Nat.le_trans (by clear hp;omega) hp.1|exact Nat.le_trans (by clear hp;omega) hp.2|(clear hp;omega)|apply And.intro|refine GI.i fun _=>?_|with_reducible rfl|decide|(simp only [List.length_cons,List.length_nil];omega))
  all_goals first | omega | rfl | skip
theorem vldB {n : Int} {l : List WT} : Con Try.prog 7 [IT n,WRS l] (lrg l = true ∨ 64 < l.length) (BT false):=.o2 fun hok h1 h2 hp=>by
  refine St.enter (N:=18) Try.func7 rfl rfl rfl hok (enter2 h1 h2) fun a=>?_
  have hv : ((!lrg l && decide (n ≤ 8)) && decide (chW n l = 0)) = false:=by
    rcases hp with hp | hp
    · rw [hp];rfl
    · rw [decide_eq_false (ch_big hp),Bool.and_false]
  repeat' (first|((with_reducible refine gS_ ?_);first|((with_reducible refine gL_ ?_);first|refine W.run ?_ fun a w G=>?_|refine W.mv fun a w G=>?_|refine W.asg fun a w G=>?_|refine W.bx fun b a w G=>?_|(refine W.nn hK ?_;clear hK K)|refine W.nl ?_|refine W.al fun b a w G=>?_|refine W.st fun w=>?_|refine W.stp fun w=>?_|refine W.ste ?_ fun w=>?_)|((with_reducible refine gC_ ?_);first|refine W.reg fun K hK=>?_|refine W.reg1 ?_|refine W.sq fun K hK=>?_|refine W.ds ?_ (fun β a w G hu=>W.fin ?_ hu) mixedOrders (by kernel_rfl)|refine W.sk ?_|refine W.cd (fun hc=>?_) (fun hc=>?_)|refine W.cb (fun hc=>?_) (fun hc=>?_)|refine W.bl ?_|refine W.ex ?_|refine W.rt ?_)|((with_reducible refine W.kn hK ?_);clear hK K)|(with_reducible first|refine W.bn ?_|refine W.xt ?_|refine W.xb ?_|refine W.xo ?_|refine W.tr ?_|refine W.br ?_)|refine W.rt1 rfl ?_|refine W.rt2 rfl ?_ ?_|refine W.rt3 rfl ?_ ?_ ?_)|clear hK K|clear hu|exact True.intro|exact Nat.le_trans (by clear hp;omega) hp|exact Nat.le_trans (by clear hp;omega) hp.1|exact Nat.le_trans (by clear hp;omega) hp.2|(clear hp;omega)|apply And.intro|refine GI.i fun _=>?_|with_reducible rfl|decide|(simp only [List.length_cons,List.length_nil];omega))
  all_goals first
    | omega
    | exact hv
    | exact hv.symm
    | (intro h9;rcases hp with hp | hp <;> first | exact hp | (rw [hp] at h9;simp at h9))
    | (rename_i g9;rcases hp with h8 | h8;(rw [h8] at g9;simp at g9;done);exact h8)
    | (rename_i g9;exact hp.elim (fun h8=>by rw [h8] at g9;simp at g9) fun h8=>h8)
    | skip
instance {n : Int} {l : List WT} : Con Try.prog 7 [IT n,WRS l] (lrg l = true ∨ 64 < l.length) (BT false):=vldB
instance {r : FR} : Con Try.prog 9 [RX r] (lgR r = false) (BT r.ok):=.o1 fun hok h1 hp=>(inferInstance : Con Try.prog 9 [FX 256 r] _ (BT r.ok)).c1 hok (RX.toFX4 h1 hp) (by decide)
instance {r : FR} : Con Try.prog 10 [RX r] (lgR r = false) (IT r.val.num.sign):=.o1 fun hok h1 hp=>(inferInstance : Con Try.prog 10 [FX 256 r] _ (IT r.val.num.sign)).c1 hok (RX.toFX4 h1 hp) (by decide)
instance gTH12_4_2 : GcT 4 2 false 5 [6,15,16,17,18,19,20,21,22,23,24,25,26,27,28,29,30,31,32,33,34,35,36]:=⟨⟩
instance gTH12_4_3 : GcT 4 3 false 6 [15,16,17,18,19,20,21,22,23,24,25,26,27,28,29,30,31,32,33,34,35,36]:=⟨⟩
instance gTH12_4_4 : GcT 4 4 false 38 [39,40,41,42,43,44]:=⟨⟩
instance gTH12_4_5 : GcT 4 5 false 5 [45,46,47,48,49,50,51]:=⟨⟩
instance gTH12_4_6 : GcT 4 6 false 7 [9,52,53,54,55,56,57]:=⟨⟩
instance gTH12_4_7 : GcT 4 7 false 8 [10,52,53,54,55,56,57]:=⟨⟩
instance gTH12_4_8 : GcT 4 8 false 7 [9,64,65,66,67,68,69,70,71,72,73,74]:=⟨⟩
instance gTH12_4_9 : GcT 4 9 false 64 [65,66,67,68,69,70,71,72,73,74]:=⟨⟩
instance gTH12_4_13 : GcT 4 13 false 75 [76,77,78,81,82,83,84,85,86]:=⟨⟩
instance gTH12_4_18 : GcT 4 18 false 87 [88,89,92,93,94,95,96,97]:=⟨⟩
instance gTH12_4_23 : GcT 4 23 false 122 [123,124,125,126,127,128,129,130,131]:=⟨⟩
theorem longShaftTightA {n : Int} {l : List WT} {r : FR} : Con Try.prog 4 [IT n,WRS l,RX r] (lrg l = true ∨ 64 < l.length) (BT true):=.o3 fun hok h1 h2 h3 hp=>by
  refine St.enter (N:=132) Try.func4 rfl rfl rfl hok (enter3 h1 h2 h3) fun a=>?_
  repeat' (first|((with_reducible refine gS_ ?_);first|((with_reducible refine gL_ ?_);first|refine W.run ?_ fun a w G=>?_|refine W.mv fun a w G=>?_|refine W.asg fun a w G=>?_|refine W.bx fun b a w G=>?_|(refine W.nn hK ?_;clear hK K)|refine W.nl ?_|refine W.al fun b a w G=>?_|refine W.st fun w=>?_|refine W.stp fun w=>?_|refine W.ste ?_ fun w=>?_)|((with_reducible refine gC_ ?_);first|refine W.cbt (b:=((((!true || !false) || lgR r) || !r.ok) || decide (r.val.num.sign < 0))) (by simp) ?_|with_reducible refine W.gcc 4 ?_|with_reducible refine W.gcd 4 ?_|refine W.reg fun K hK=>?_|refine W.reg1 ?_|refine W.sq fun K hK=>?_|refine W.ds ?_ (fun β a w G hu=>W.fin ?_ hu) mixedOrders (by kernel_rfl)|refine W.sk ?_|refine W.cd (fun hc=>?_) (fun hc=>?_)|refine W.cb (fun hc=>?_) (fun hc=>?_)|refine W.bl ?_|refine W.ex ?_|refine W.rt ?_)|((with_reducible refine W.kn hK ?_);clear hK K)|(with_reducible first|refine W.bn ?_|refine W.xt ?_|refine W.xb ?_|refine W.xo ?_|refine W.tr ?_|refine W.br ?_)|refine W.rt1 rfl ?_|refine W.rt2 rfl ?_ ?_|refine W.rt3 rfl ?_ ?_ ?_)|clear hK K|clear hu|exact True.intro|exact Nat.le_trans (by clear hp;omega) hp|exact Nat.le_trans (by clear hp;omega) hp.1|exact Nat.le_trans (by clear hp;omega) hp.2|(clear hp;omega)|apply And.intro|refine GI.i fun _=>?_|with_reducible rfl|decide|(simp only [List.length_cons,List.length_nil];omega))
  all_goals first
    | omega
    | rfl
    | assumption
    | (intro h9;simpa using h9)
    | (rename_i g9;simp only [Bool.or_eq_false_iff] at g9;first | exact g9.2 | exact g9.1.2 | exact g9.1.1.2)
    | skip
theorem longShaftTightB {n : Int} {l : List WT} {r : FR} : Con Try.prog 4 [IT n,WTS l,RX r] (((((!true || !((!lrg l && decide (n ≤ 8)) && decide (chW n l = 0))) || lgR r) || !r.ok) || decide (r.val.num.sign < 0)) = true) (BT true):=.o3 fun hok h1 h2 h3 hp=>by
  refine St.enter (N:=132) Try.func4 rfl rfl rfl hok (enter3 h1 h2 h3) fun a=>?_
  repeat' (first|((with_reducible refine gS_ ?_);first|((with_reducible refine gL_ ?_);first|refine W.run ?_ fun a w G=>?_|refine W.mv fun a w G=>?_|refine W.asg fun a w G=>?_|refine W.bx fun b a w G=>?_|(refine W.nn hK ?_;clear hK K)|refine W.nl ?_|refine W.al fun b a w G=>?_|refine W.st fun w=>?_|refine W.stp fun w=>?_|refine W.ste ?_ fun w=>?_)|((with_reducible refine gC_ ?_);first|refine W.cbt hp ?_|with_reducible refine W.gcc 4 ?_|with_reducible refine W.gcd 4 ?_|refine W.reg fun K hK=>?_|refine W.reg1 ?_|refine W.sq fun K hK=>?_|refine W.ds ?_ (fun β a w G hu=>W.fin ?_ hu) mixedOrders (by kernel_rfl)|refine W.sk ?_|refine W.cd (fun hc=>?_) (fun hc=>?_)|refine W.cb (fun hc=>?_) (fun hc=>?_)|refine W.bl ?_|refine W.ex ?_|refine W.rt ?_)|((with_reducible refine W.kn hK ?_);clear hK K)|(with_reducible first|refine W.bn ?_|refine W.xt ?_|refine W.xb ?_|refine W.xo ?_|refine W.tr ?_|refine W.br ?_)|refine W.rt1 rfl ?_|refine W.rt2 rfl ?_ ?_|refine W.rt3 rfl ?_ ?_ ?_)|clear hK K|clear hu|exact True.intro|exact Nat.le_trans (by clear hp;omega) hp|exact Nat.le_trans (by clear hp;omega) hp.1|exact Nat.le_trans (by clear hp;omega) hp.2|(clear hp;omega)|apply And.intro|refine GI.i fun _=>?_|with_reducible rfl|decide|(simp only [List.length_cons,List.length_nil];omega))
  all_goals first
    | omega
    | rfl
    | assumption
    | (intro h9;simpa using h9)
    | (rename_i g9;simp only [Bool.or_eq_false_iff] at g9;first | exact g9.2 | exact g9.1.2 | exact g9.1.1.2)
    | skip
theorem gt4 {n : Int} {l : List WT} {r : FR} (h : ((((!true || !((!lrg l && decide (n ≤ 8)) && decide (chW n l = 0))) || lgR r) || !r.ok) || decide (r.val.num.sign < 0)) = false) : lrg l = false ∧ n ≤ 8 ∧ chW n l = 0 ∧ lgR r = false ∧ nnR r = true:=by
  have h2 : nnR r = true:=nn_f (by simp only [Bool.or_eq_false_iff] at h ⊢;exact ⟨h.1.2,h.2⟩)
  simp only [Bool.not_true,Bool.false_or,Bool.or_eq_false_iff,Bool.not_eq_false',Bool.and_eq_true,Bool.not_eq_true',decide_eq_true_eq] at h
  exact ⟨h.1.1.1.1.1,h.1.1.1.1.2,h.1.1.1.2,h.1.1.2,h2⟩
theorem shortShaftTightC {n : Int} {l : List WT} {r : FR} : Con Try.prog 4 [IT n,WTS l,FX 256 r] (((((!true || !((!lrg l && decide (n ≤ 8)) && decide (chW n l = 0))) || lgR r) || !r.ok) || decide (r.val.num.sign < 0)) = false ∧ rsF n.toNat l r.val (n.toNat + 1) 0 = []) (BT true):=.o3 fun hok h1 h2 h3 hp=>by
  refine St.enter (N:=132) Try.func4 rfl rfl rfl hok (enter3 h1 h2 h3) fun a=>?_
  have e0:=hp.1
  have eg:=gt4 e0
  have hz:=nnz eg.2.2.1
  have e1:=eg.2.2.1
  have e6:=hp.2
  have e7:=rsC_n e6
  have e2:=(st_rs e1 eg.2.2.2.2).1.trans e7
  repeat' (first|((with_reducible refine gS_ ?_);first|((with_reducible refine gL_ ?_);first|refine W.run ?_ fun a w G=>?_|refine W.mv fun a w G=>?_|refine W.asg fun a w G=>?_|refine W.bx fun b a w G=>?_|(refine W.nn hK ?_;clear hK K)|refine W.nl ?_|refine W.al fun b a w G=>?_|refine W.st fun w=>?_|refine W.stp fun w=>?_|refine W.ste ?_ fun w=>?_)|((with_reducible refine gC_ ?_);first|with_reducible refine W.cbt (by first|assumption|(simp [e0,e2];done)|fail) ?_|with_reducible refine W.cbf (by first|assumption|(simp [e0,e2];done)|fail) ?_|with_reducible refine W.gcc 4 ?_|with_reducible refine W.gcd 4 ?_|refine W.reg fun K hK=>?_|refine W.reg1 ?_|refine W.sq fun K hK=>?_|refine W.ds ?_ (fun β a w G hu=>W.fin ?_ hu) mixedOrders (by kernel_rfl)|refine W.sk ?_|refine W.cd (fun hc=>?_) (fun hc=>?_)|refine W.cb (fun hc=>?_) (fun hc=>?_)|refine W.bl ?_|refine W.ex ?_|refine W.rt ?_)|((with_reducible refine W.kn hK ?_);clear hK K)|(with_reducible first|refine W.bn ?_|refine W.xt ?_|refine W.xb ?_|refine W.xo ?_|refine W.tr ?_|refine W.br ?_)|refine W.rt1 rfl ?_|refine W.rt2 rfl ?_ ?_|refine W.rt3 rfl ?_ ?_ ?_)|clear hK K|clear hu|exact True.intro|exact Nat.le_trans (by clear hp;omega) hp|exact Nat.le_trans (by clear hp;omega) hp.1|exact Nat.le_trans (by clear hp;omega) hp.2|(clear hp;omega)|apply And.intro|refine GI.i fun _=>?_|with_reducible rfl|decide|(simp only [List.length_cons,List.length_nil];omega))
  all_goals first
    | omega
    | (simp [e0,e2];done)
    | omega
    | rfl
    | assumption
    | (intro h9;simpa using h9)
    | (rename_i g9;simp only [Bool.or_eq_false_iff] at g9;first | exact g9.2 | exact g9.1.2 | exact g9.1.1.2)
    | skip
theorem shortShaftTightE {n : Int} {l : List WT} {r : FR} : Con Try.prog 4 [IT n,WTS l,FX 256 r] (((((!true || !((!lrg l && decide (n ≤ 8)) && decide (chW n l = 0))) || lgR r) || !r.ok) || decide (r.val.num.sign < 0)) = false ∧ ¬ rsF n.toNat l r.val (n.toNat + 1) 0 = []) (BT true):=.o3 fun hok h1 h2 h3 hp=>by
  refine St.enter (N:=132) Try.func4 rfl rfl rfl hok (enter3 h1 h2 h3) fun a=>?_
  have e0:=hp.1
  have eg:=gt4 e0
  have hz:=nnz eg.2.2.1
  have e1:=eg.2.2.1
  have e6:=hp.2
  have e7:=rsC_y e6
  have e2:=(st_rs e1 eg.2.2.2.2).1.trans e7
  obtain ⟨_,_,e3,j0,e8,e9⟩:=st_0 e2
  have e4:=sk_y e2
  have e5 : (skL n l r).length = l.length:=by rw [e4,skT_len]
  have ekk:=fun k hk=>tg_y (k:=k) hz.2.2.2.2.1 e9 hk
  rw [← e8,← e4] at ekk
  have enn:=fun i hi=>sk_nn (i:=i) hz.2.2.2.2.1 e9 hi
  rw [← e8,← e4] at enn
  repeat' (first|((with_reducible refine gS_ ?_);first|((with_reducible refine gL_ ?_);first|refine W.run ?_ fun a w G=>?_|refine W.mv fun a w G=>?_|refine W.asg fun a w G=>?_|refine W.bx fun b a w G=>?_|(refine W.nn hK ?_;clear hK K)|refine W.nl ?_|refine W.al fun b a w G=>?_|refine W.st fun w=>?_|refine W.stp fun w=>?_|refine W.ste ?_ fun w=>?_)|((with_reducible refine gC_ ?_);first|with_reducible refine W.cbt (by first|assumption|(simp [e0,e2,e3,e5,hz.1];done)|fail) ?_|with_reducible refine W.cbf (by first|assumption|(simp [e0,e2,e3,e5,hz.1];done)|fail) ?_|with_reducible refine W.gcc 4 ?_|with_reducible refine W.gcd 4 ?_|refine W.reg fun K hK=>?_|refine W.reg1 ?_|refine W.sq fun K hK=>?_|refine W.ds ?_ (fun β a w G hu=>W.fin ?_ hu) mixedOrders (by kernel_rfl)|refine W.sk ?_|refine W.cd (fun hc=>?_) (fun hc=>?_)|refine W.cb (fun hc=>?_) (fun hc=>?_)|refine W.bl ?_|refine W.ex ?_|refine W.rt ?_)|((with_reducible refine W.kn hK ?_);clear hK K)|(with_reducible first|refine W.bn ?_|refine W.xt ?_|refine W.xb ?_|refine W.xo ?_|refine W.tr ?_|refine W.br ?_)|refine W.rt1 rfl ?_|refine W.rt2 rfl ?_ ?_|refine W.rt3 rfl ?_ ?_ ?_)|refine W.lp 75 (α:=Nat) (fun j=>l.length - j) (fun j=>j ≤ l.length) [6,11,75,76,77,78,79,80,81,82,83,84,85,86] (fun j=>[(11,NT j)]) (fun j=>[]) (0) ?_ ?_ ?_ fun j hj a w G=>?_|refine W.ag (x:=j) (j+1) ?_ ?_ ?_ ?_|refine W.lp 87 (α:=Nat) (fun k=>n.toNat - k) (fun k=>k ≤ n.toNat) [6,12,13,14,87,88,89,90,91,92,93,94,95,96,97,98,99,100,101,102,103,104,105,106,107,108,109,110,111,112,113,114,115,116,117,118,119,120,121,122,123,124,125,126,127,128,129,130,131] (fun k=>[(12,NT k)]) (fun k=>[]) (0) ?_ ?_ ?_ fun k hk a w G=>?_|refine W.ag (x:=k) (k+1) ?_ ?_ ?_ ?_|refine W.lp 98 (α:=Nat) (fun i=>l.length - i) (fun i=>i ≤ l.length) [13,14,98,99,100,101,102,103,104,105,106,107,108,109,110,111,112,113,114,115,116,117,118,119,120,121] (fun i=>[(14,NT i),(13,BT (tgF l (skL n l r) ((stL n l r).getD k default) k i))]) (fun i=>[]) (0) ?_ ?_ ?_ fun i hi a w G=>?_|refine W.ag (x:=i) (i+1) ?_ ?_ ?_ ?_|clear hK K|clear hu|exact True.intro|exact Nat.le_trans (by clear hp;omega) hp|exact Nat.le_trans (by clear hp;omega) hp.1|exact Nat.le_trans (by clear hp;omega) hp.2|(clear hp;omega)|apply And.intro|refine GI.i fun _=>?_|with_reducible rfl|decide|(simp only [List.length_cons,List.length_nil];omega))
  all_goals first
    | omega
    | (simp [e0,e2,e3,e5,hz.1];done)
    | omega
    | rfl
    | assumption
    | (intro h9;simpa using h9)
    | (rename_i g9;simp only [Bool.or_eq_false_iff] at g9;first | exact g9.2 | exact g9.1.2 | exact g9.1.1.2)
    | (have h9:=enn j (by omega);have:=num_s2.1 (by assumption);grind)
    | (have ei : i = l.length := by omega
       subst ei
       exact (tg_no (ekk k (by omega)).1 (ekk k (by omega)).2 (by assumption)).elim)
    | exact tg_0.symm
    | exact tg_0
    | exact tg_go
    | exact tg_go.symm
    | skip
theorem lawShaftTight {n : Int} {l : List WT} {r : FR} {w : World} {G : Gh} {v1 v2 v3 : Value} (hok : Gok w G) (h1 : (IT n).t v1 G) (h2 : (WRS l).t v2 G) (h3 : (RX r).t v3 G) : Calls Try.prog 4 #[v1,v2,v3] w (Ret w G (BT true)):=by
  by_cases hA : lrg l = true ∨ 64 < l.length
  · exact longShaftTightA.c3 hok h1 h2 h3 hA
  · have hl0 : lrg l = false:=by cases e : lrg l with | true=>exact absurd (.inl e) hA | false=>rfl
    have hl : l.length ≤ 16:=Classical.byContradiction fun e=>hA (.inr (lrg_b hl0 e))
    have h2':=WRS.to h2 (lrg_s hl0 hl)
    cases hs : ((((!true || !((!lrg l && decide (n ≤ 8)) && decide (chW n l = 0))) || lgR r) || !r.ok) || decide (r.val.num.sign < 0)) with
    | true=>exact longShaftTightB.c3 hok h1 h2' h3 hs
    | false =>
      have eg:=gt4 hs
      have h3':=RX.toFX4 h3 eg.2.2.2.1
      by_cases hr : rsF n.toNat l r.val (n.toNat + 1) 0 = []
      · exact shortShaftTightC.c3 hok h1 h2' h3' ⟨hs,hr⟩
      · exact shortShaftTightE.c3 hok h1 h2' h3' ⟨hs,hr⟩
end Go.Proofs.Ytjphllpnhjemjaa
set_option linter.unusedVariables false
set_option linter.unusedSimpArgs false
namespace Go.Proofs.Ytjphllpnhjemjaa
open Go.RowKit (Below)
def EF (k : Option Nat) (b i off : Nat) : MT:=.ex (.pointer (some ⟨b,i * k.getD 1 + off,none⟩))
theorem ROWS.part {k kt : Option Nat} {τs : List MT} {σ τ : MT} {i off : Nat} (hi : τs[i]? = some σ) (hk : ∃ m,k = some m) (hp : Prt σ off kt τ) : Prt (ROWS k τs) (i * k.getD 1 + off) kt τ:=⟨fun {v k0 G} ht _=>by
  obtain ⟨us,r,e,hE⟩:=ht
  subst e
  have hlt : i < us.length:=by rw [hE.1];exact (List.getElem?_eq_some_iff.1 hi).1
  obtain ⟨h1,h2⟩:=hE.2 i σ us[i] hi (List.getElem?_eq_getElem hlt)
  obtain ⟨u,hs,hu,hc⟩:=hp.h h2 h1
  refine ⟨u,hs,hu,fun j x hx=>?_⟩
  have h3:=hc j x hx
  have hj : off + j < k.getD 1:=by
    rw [← shaped_size h1]
    exact (Array.getElem?_eq_some_iff.1 h3).1
  have h4:=flat_get hE.sizes (List.getElem?_eq_getElem hlt) hj
  show (flat us ++ r).toArray[_]? = some x
  rw [List.getElem?_toArray,List.getElem?_append_left,Nat.add_assoc,h4,h3]
  rw [flat_len hE.sizes]
  have:=Nat.mul_le_mul_right (k.getD 1) (show i + 1 ≤ us.length from hlt)
  rw [Nat.succ_mul] at this
  omega⟩
theorem shaped_upd {n off : Nat} {kt : Option Nat} {cs : Array Value} {y : Value} (hc : Shaped (some n) (.agg cs)) (hs : Shaped kt y) (hn : off + kt.getD 1 ≤ n) : Shaped (some n) (.agg (cs.toList.take off ++ y.cells.toList ++ cs.toList.drop (off + kt.getD 1)).toArray):=by
  obtain ⟨cs',e1,hcs,hone⟩:=hc
  injection e1 with e1
  subst e1
  have hl : y.cells.toList.length = kt.getD 1:=by simpa using shaped_size hs
  refine ⟨_,rfl,?_,fun c hc=>?_⟩
  · simp at hl ⊢;omega
  · simp only [List.mem_append] at hc
    rcases hc with (hc | hc) | hc
    · exact hone c (List.mem_of_mem_take hc)
    · exact shaped_cells hs c hc
    · exact hone c (List.mem_of_mem_drop hc)
theorem take_part {α : Type} {cs ci ys : List α} {a k off m : Nat} (h1 : ci = (cs.drop a).take k) (h2 : off + m ≤ k) : cs.take a ++ (ci.take off ++ ys ++ ci.drop (off + m)) ++ cs.drop (a + k) = cs.take (a + off) ++ ys ++ cs.drop (a + off + m):=by
  subst h1
  rw [List.take_add,List.take_take,Nat.min_eq_left (by omega)]
  have e : cs.drop (a + off + m) = ((cs.drop a).take k).drop (off + m) ++ cs.drop (a + k):=by
    rw [← List.drop_drop (i:=k) (j:=a),show a + off + m = a + (off + m) by omega,← List.drop_drop (i:=off + m) (j:=a)]
    conv=>lhs;rw [← List.take_append_drop k (cs.drop a)]
    rw [List.drop_append]
    rcases Nat.lt_or_ge (cs.drop a).length k with hk | hk
    · have e1 : (cs.drop a).drop k = []:=List.drop_eq_nil_of_le (by omega)
      rw [e1,List.drop_nil,List.append_nil]
    · rw [List.length_take,Nat.min_eq_left hk,show off + m - k = 0 by omega,List.drop_zero]
  rw [e]
  simp only [List.append_assoc]
section
variable {P : Program} {L : List (Nat × MT)} {B B' : List BX} {x y : Operand} {u v : List Nat} {t ty : TypeId} {τ τ' τb σ : MT} {n c b i j off : Nat} {k kt : Option Nat} {α : Type} {T : α → MT} {xs : List α} {z : α}
instance Op1.fldO {s f : Nat} [ko : FO P s f off] [h : Opd L x (EP k b i) u] : Op1 P L B (.fieldAddr s x f) True (EF k b i off) u:=⟨fun ho hok e _ _=>.fldA hok ho (h.h e) ko.h rfl⟩
instance Op1.ldf {kn : Nat} [h : Opd L x (EF (some kn) b i off) u] [hb : Bx B b c ty (some n) (ROWS (some kn) (xs.map T))] [ih : Inhabited α] [hT : TyS P t kt] [hz : NZ kt] [hp : Prt (T (xs.getD i default)) off kt τ] : Op1 P L B (.load t x) (i < xs.length) τ (u ++ [1000000 + c]) :=
  ⟨fun ho hok e hB hi=>prt_load hok ho hT.h hz.h (h.h e.l) (hB c _ (by simp) hb.m) (ROWS.part (k:=some kn) (i:=i) (σ:=T (xs.getD i default)) (by rw [List.getElem?_map,List.getElem?_eq_getElem hi,List.getD_eq_getElem?_getD,List.getElem?_eq_getElem hi];rfl) ⟨kn,rfl⟩ hp)⟩
instance Sto.f {kn : Nat} [hx : Opd L x (EF (some kn) b i off) u] [hb : Bx B b j ty (some n) (ROWS (some kn) (xs.map T))] [ih : Inhabited α] [hT : TyS P t kt] [hy : Opd L y τ v] [hs : ShK τ kt] [hu : Upd (T (xs.getD i default)) off kt τ σ] [ha : AsT σ T z] : Sto P L B t x y j (ROWS (some kn) ((xs.set i z).map T)) (i < xs.length ∧ off + kt.getD 1 ≤ kn) (u ++ v):=⟨_,hb.m,fun {a w G v0} hp hE h1 h2 h3=>by
  obtain ⟨hi,hoff⟩:=hp
  have h2':=h2
  obtain ⟨cs,rfl,_,_⟩:=h2'
  have hv:=hy.h hE.r
  have hsy:=hs.h hv
  have h3':=h3
  obtain ⟨us,r,e,hEl⟩:=h3'
  injection e with e
  have hlt : i < us.length:=by rw [hEl.1,List.length_map];exact hi
  obtain ⟨g1,g2⟩:=hEl.2 i (T (xs.getD i default)) us[i] (by rw [List.getElem?_map,List.getElem?_eq_getElem hi,List.getD_eq_getElem?_getD,List.getElem?_eq_getElem hi];rfl) (List.getElem?_eq_getElem hlt)
  have g1':=g1
  obtain ⟨ci,hci,hcn,_⟩:=cells_one g1'
  rw [hci] at g1 g2
  have hnew:=hu.h g2 hsy hv
  have hsh:=shaped_upd g1 hsy hoff
  have hr:=ROWS.set (P:=P) h3 h2 hsh (ha.h hnew) (by rw [List.length_map];exact hi)
  have hn : i * kn + kn ≤ n:=hr.1
  obtain ⟨h4,h5⟩:=part_store (P:=P) (hx.h hE.l) hT.h hsy h1 h2 (show i * (some kn).getD 1 + off + kt.getD 1 ≤ n by show i * kn + off + kt.getD 1 ≤ n;omega) rfl
  refine ⟨_,h4,?_,h5⟩
  have hsz : ∀ q ∈ us,q.cells.size = kn:=hEl.sizes
  have hcidef : ci.toList = (cs.toList.drop (i * kn)).take kn:=by
    apply List.ext_getElem?
    intro m
    rw [List.getElem?_take]
    by_cases hm : m < kn
    · rw [if_pos hm,List.getElem?_drop,e]
      have h6:=flat_get hsz (List.getElem?_eq_getElem hlt) hm
      have hl:=flat_len hsz
      have:=Nat.mul_le_mul_right kn (show i + 1 ≤ us.length from hlt)
      rw [Nat.succ_mul] at this
      show ci.toList[m]? = (flat us ++ r)[i * kn + m]?
      rw [List.getElem?_append_left (by omega),h6,hci]
      show ci.toList[m]? = ci[m]?
      simp
    · rw [if_neg hm]
      exact List.getElem?_eq_none (by simpa using (by omega : ci.size ≤ m))
  have hkey:=take_part (cs:=cs.toList) (ci:=ci.toList) (ys:=(a.eval y).cells.toList) (a:=i * kn) (k:=kn) (off:=off) (m:=kt.getD 1) hcidef hoff
  rw [List.map_set]
  have h7:=hr.2
  show (ROWS (some kn) ((xs.map T).set i (T z))).t (.agg (cs.toList.take (i * kn + off) ++ (a.eval y).cells.toList ++ cs.toList.drop (i * kn + off + kt.getD 1)).toArray) G
  rw [← hkey]
  exact h7⟩
end
section
variable {P : Program} {W0 : World} {G0 : Gh} {N : Nat} {L : List (Nat × MT)} {B : List BX} {a : Act} {w : World} {G : Gh} {Q : Exit → Act → World → Prop} {rest : List Oper} {arr : Array Oper} {k : Option Nat} {e t ty : TypeId} {d by0 : Nat} {z0 : Value} {pos : String} {aft : Array Edge} {τs : List MT} {own : List BX} {V : Value}
theorem W.bu0 {k : Option Nat} {B2 : List BX → List BX} [el : ElS P t e k by0 z0] [ap : ∀ own', AppX B own' (B2 own')] (K : ∀ V own a w G, OWNS k e V own [] → St W0 G0 N ((d, .ex V) :: L) (B2 own) a w G → wpList P arr Q rest a w) (hdN : (decide (d < N)) = true := by rfl) (hf : fresh d L = true := by rfl) :
    St W0 G0 N L B a w G → wpList P arr Q (⟨some d,.buildSlice t 0 #[],ty,pos,aft,none⟩ :: rest) a w:=fun S =>
  wpList_plain rfl fun K' hK=>S.bu0w rfl rfl el.h1 el.h2 hdN hf fun V own a w G hO S=>hK _ _ (K V own a w G hO (by rw [← (ap own).h];exact S))
theorem own_pos (h : OWNS k e V own τs) (hn : 0 < τs.length) : ∃ b c,V = .slice (some ⟨b,0,none⟩) τs.length c ∧ own = [⟨b,e,some (c * k.getD 1),ROWS k τs⟩] ∧ τs.length ≤ c:=by
  rcases h with ⟨_,_,h0⟩ | h
  · subst h0;exact absurd hn (Nat.lt_irrefl 0)
  · exact h
end
end Go.Proofs.Ytjphllpnhjemjaa
set_option linter.unusedVariables false
set_option linter.unusedSimpArgs false
set_option maxHeartbeats 4000000
set_option maxRecDepth 100000
set_option synthInstance.maxSize 100000
set_option synthInstance.maxHeartbeats 400000
namespace Go.Proofs.Ytjphllpnhjemjaa
open Go.RowKit (Below)
attribute [local irreducible] Go.Code.wp Go.wpList Go.bodyPost
theorem rx_q4 {r : FR} {v : Value} {G : Gh} (h : (RX r).t v G) (hs : lgR r = false) : qb (64 + 64) r.val:=by
  have hs:=of_decide_eq_false hs
  obtain ⟨x,y,e,hp,hq⟩:=h
  have hv : ∀ {l : List Nat},wfl l → l.length ≤ 4 → Go.Proofs.Ytjphllpnhjemjaa.val l < 2 ^ (64 + 64):=fun {l} hw hl=>Nat.lt_of_lt_of_le (val_lt hw) (by have:=Nat.pow_le_pow_right (show 0 < 2 by decide) (show 32 * l.length ≤ 64 + 64 by omega);first | exact this | (rw [← Nat.pow_mul];exact this) | (refine Nat.le_trans ?_ this;rw [Nat.pow_mul];exact Nat.le_refl _))
  exact FX.qb (n:=64 + 64) (v:=v) (G:=G) ⟨by decide,hv (SL.wf hp) (by omega),hv (SL.wf hq) (by omega),x,y,e,hp,hq⟩
theorem fs_zero {n : Int} {l : List WT} (h : ∀ i,i < l.length → gdW n (l.getD i default) = 0) : fsW n l = 0:=by
  induction l with
  | nil=>rfl
  | cons w l ih =>
    have h0 : gdW n w = 0:=h 0 (by simp)
    show (if gdW n w = 0 then _ else _) = _
    rw [if_pos h0]
    exact ih fun i hi=>h (i + 1) (by simpa using hi)
theorem ch_sc {n : Int} {a : Rat} {l : List WT} (h : chW n l = 0) : chW n (scL a l) = 0:=by
  have hk:=ch_ok h
  have hf : fsW n l = 0:=by
    unfold chW at h
    rw [if_neg (by omega),if_neg (by omega)] at h
    exact h
  unfold chW
  rw [if_neg (by omega),sc_len,if_neg (by omega)]
  refine fs_zero fun i hi=>?_
  rw [sc_len] at hi
  have h1:=fs_all hf i hi
  rw [sc_get hi]
  unfold gdW scW at *
  rw [FR.of_ok]
  simp only
  split at h1
  · cases h1
  · rename_i h2
    rw [if_neg h2]
    split at h1
    · rename_i h3;rw [if_pos (by first | exact ⟨rfl,h3.2⟩ | exact ⟨trivial,h3.2⟩)]
    · cases h1
theorem lc_sc {n : Int} {a : Rat} {l : List WT} (ha : 0 < a) (h : chW n l = 0) : lcE n (scL a l) = lcE n l ∧ lcP n (scL a l) = lcP n l * a ∧ lcS n (scL a l) = (lcS n l).map (· * a):=by
  have hz:=nnz h
  have hs:=ls_sc ha hz.2.2.2.2.1 (tnn_of h) hz.2.1
  unfold lcE lcP lcS
  rw [if_pos h,if_pos h,if_pos h,if_pos (ch_sc h),if_pos (ch_sc h),if_pos (ch_sc h)]
  exact hs
theorem lcS_le {n : Int} {l : List WT} (h : chW n l = 0) : (lcS n l).length ≤ 16:=by
  have hz:=nnz h
  unfold lcS lsS
  rw [if_pos h]
  split
  · by_cases e : rsF n.toNat l (itF n.toNat l (jsF n.toNat l)).1 (n.toNat + 1) 0 = []
    · rw [rx_rs hz.2.2.2.2.1,e];simp
    · rw [rx_rs hz.2.2.2.2.1,rs_len hz.2.2.2.2.1 e];exact hz.2.2.1
  · simp
theorem rat_no {x y : Rat} {b : Bool} (hc : (!decide (FR.of x = FR.of y) || b) = true) (h : x = y) (hb : b = false) : False:=by
  rw [h,hb,decide_eq_true rfl] at hc;cases hc
theorem rat_no1 {x y : Rat} (hc : (!decide (FR.of x = FR.of y)) = true) (h : x = y) : False:=by
  rw [h,decide_eq_true rfl] at hc;cases hc
def scJ (a : Rat) (l : List WT) (j : Nat) : List WT:=(scL a l).take j ++ l.drop j
section
variable {a : Rat} {l : List WT} {j : Nat}
theorem scJ_0 : scJ a l 0 = l:=rfl
theorem scJ_len : (scJ a l j).length = l.length:=by unfold scJ;rw [List.length_append,List.length_take,List.length_drop,sc_len];omega
theorem scJ_end : scJ a l l.length = scL a l:=by unfold scJ;rw [List.drop_length,List.append_nil,List.take_of_length_le (by rw [sc_len];exact Nat.le_refl _)]
theorem scJ_at (h : j < l.length) : (scJ a l j).getD j default = l.getD j default:=by
  unfold scJ
  rw [List.getD_eq_getElem?_getD,List.getD_eq_getElem?_getD,List.getElem?_append_right (by rw [List.length_take,sc_len];omega),List.length_take,sc_len,Nat.min_eq_left (by omega),Nat.sub_self,List.getElem?_drop,Nat.add_zero]
theorem scJ_go (h : j < l.length) : (scJ a l j).set j (scW a (l.getD j default)) = scJ a l (j + 1):=by
  unfold scJ
  have e1 : (scL a l).take (j + 1) = (scL a l).take j ++ [scW a (l.getD j default)]:=by
    rw [List.take_add_one,← sc_get h,List.getD_eq_getElem?_getD,List.getElem?_eq_getElem (by rw [sc_len];exact h)];rfl
  have hl : ((scL a l).take j).length = j:=by rw [List.length_take,sc_len];omega
  rw [e1,List.append_assoc,List.set_append_right _ _ (by omega),hl,Nat.sub_self,List.drop_eq_getElem_cons h]
  rfl
end
instance {p q s : Int} {x : Rat} : AsT (PTS [(none,IT p),(none,IT q),(some 3,QC 256 x),(none,IT s)]) WTX (p,q,FR.of x,s):=⟨fun h=>wtx_mk (Nat.le_refl _) h⟩
instance : ZV ⟨some 6,.agg #[.int .i64 0,.int .i64 0,.bool false,.slice none 0 0,.slice none 0 0,.int .i64 0],PTS [(none,IT 0),(none,IT 0),(some 3,FX 1 default),(none,IT 0)]⟩:=ZV.pts [⟨none,.int .i64 0,IT 0⟩,⟨none,.int .i64 0,IT 0⟩,⟨some 3,.agg #[.bool false,.slice none 0 0,.slice none 0 0],FX 1 default⟩,⟨none,.int .i64 0,IT 0⟩] inferInstance rfl rfl rfl
theorem wtx_q4 {l : List WT} (hs : ∀ w ∈ l,lgR w.2.2.1 = false) {v : Value} {G : Gh} (h : (WRS l).t v G) : ∀ j,j < l.length → qb (64 + 64) (l.getD j default).2.2.1.val:=fun j hj=>by
  obtain ⟨A,c,us,h1,h2,h3,h4,h5⟩:=LS.vals h
  have hju : j < us.length:=by rw [h4.1,List.length_map];exact hj
  have h6:=(h4.2 j (WRX (l.getD j default)) us[j] (by rw [List.getElem?_map,List.getElem?_eq_getElem hj];simp [hj]) (List.getElem?_eq_getElem hju)).2
  obtain ⟨us',e1,hl,hE⟩:=h6
  have hm : lgR (l.getD j default).2.2.1 = false:=hs _ (by rw [List.getD_eq_getElem?_getD,List.getElem?_eq_getElem hj];exact List.getElem_mem hj)
  match us',hl,hE with
  | [a,b,c,d],_,hE=>exact rx_q4 (hE 2 _ c rfl rfl).2 hm
instance (priority:=2000) {r s : FR} : Con Try.prog 11 [FX 256 r,FX 256 s] (qb (64 + 64) r.val ∧ qb (64 + 64) s.val) (QC 256 (r.val * s.val)):=.o2 fun hok h1 h2 hp=>by
  have h:=(inferInstance : Con Try.prog 11 [QV 256 r.val,QV 256 s.val] _ (QC (256 + 256) (r.val * s.val))).c2 hok (FX.toQV h1) (FX.toQV h2) (by decide)
  exact Calls.mono h fun e w' ⟨v,G',e1,hv,hn⟩=>⟨v,G',e1,QC.re ((qb.mul hp.1 hp.2).up (by decide)) hv,hn⟩
instance gTH14_3_2 : GcT 3 2 false 5 [6,14,15,16,17,18,19,20,21,22,23,24,25,26,27,28,29,30,31,32,33,34,35]:=⟨⟩
instance gTH14_3_3 : GcT 3 3 false 6 [14,15,16,17,18,19,20,21,22,23,24,25,26,27,28,29,30,31,32,33,34,35]:=⟨⟩
instance gTH14_3_9 : GcT 3 9 false 37 [38,39,57,58,59,60,61,62]:=⟨⟩
instance gTH14_3_10 : GcT 3 10 false 7 [63,64,65,66,67,68]:=⟨⟩
instance gTH14_3_11 : GcT 3 11 false 5 [9,11,69,70,71,72,73,74]:=⟨⟩
instance gTH14_3_12 : GcT 3 12 false 10 [12,69,70,71,72,73,74]:=⟨⟩
instance gTH14_3_13 : GcT 3 13 false 5 [9,11,80,81,82,83,84,85,86,87,88,89,90,91,92,93,94,95,96]:=⟨⟩
instance gTH14_3_14 : GcT 3 14 false 80 [81,82,83,84,85,86,87,88,89,90,91,92,93,94,95,96]:=⟨⟩
instance gTH14_3_18 : GcT 3 18 false 97 [98,99,100,101,104,105,106,107,108,109,110,111,112,113,114,115,116,117]:=⟨⟩
theorem longShaftScalesA {n : Int} {l : List WT} {r : FR} : Con Try.prog 3 [IT n,WRS l,RX r] (lrg l = true ∨ 64 < l.length) (BT true):=.o3 fun hok h1 h2 h3 hp=>by
  refine St.enter (N:=118) Try.func3 rfl rfl rfl hok (enter3 h1 h2 h3) fun a=>?_
  repeat' (first|((with_reducible refine gS_ ?_);first|((with_reducible refine gL_ ?_);first|refine W.run ?_ fun a w G=>?_|refine W.mv fun a w G=>?_|refine W.asg fun a w G=>?_|refine W.bx fun b a w G=>?_|(refine W.nn hK ?_;clear hK K)|refine W.nl ?_|refine W.al fun b a w G=>?_|refine W.st fun w=>?_|refine W.stp fun w=>?_|refine W.ste ?_ fun w=>?_)|((with_reducible refine gC_ ?_);first|refine W.cbt (b:=((((!true || !false) || lgR r) || !r.ok) || decide (r.val.num.sign ≤ 0))) (by simp) ?_|with_reducible refine W.gcc 3 ?_|with_reducible refine W.gcd 3 ?_|refine W.reg fun K hK=>?_|refine W.reg1 ?_|refine W.sq fun K hK=>?_|refine W.ds ?_ (fun β a w G hu=>W.fin ?_ hu) mixedOrders (by kernel_rfl)|refine W.sk ?_|refine W.cd (fun hc=>?_) (fun hc=>?_)|refine W.cb (fun hc=>?_) (fun hc=>?_)|refine W.bl ?_|refine W.ex ?_|refine W.rt ?_)|((with_reducible refine W.kn hK ?_);clear hK K)|(with_reducible first|refine W.bn ?_|refine W.xt ?_|refine W.xb ?_|refine W.xo ?_|refine W.tr ?_|refine W.br ?_)|refine W.rt1 rfl ?_|refine W.rt2 rfl ?_ ?_|refine W.rt3 rfl ?_ ?_ ?_)|clear hK K|clear hu|exact True.intro|exact Nat.le_trans (by clear hp;omega) hp|exact Nat.le_trans (by clear hp;omega) hp.1|exact Nat.le_trans (by clear hp;omega) hp.2|(clear hp;omega)|apply And.intro|refine GI.i fun _=>?_|with_reducible rfl|decide|(simp only [List.length_cons,List.length_nil];omega))
  all_goals first
    | omega
    | rfl
    | assumption
    | (intro h9;simpa using h9)
    | (rename_i g9;simp only [Bool.or_eq_false_iff] at g9;first | exact g9.2 | exact g9.1.2 | exact g9.1.1.2)
    | skip
theorem longShaftScalesB {n : Int} {l : List WT} {r : FR} : Con Try.prog 3 [IT n,WTS l,RX r] (((((!true || !((!lrg l && decide (n ≤ 8)) && decide (chW n l = 0))) || lgR r) || !r.ok) || decide (r.val.num.sign ≤ 0)) = true) (BT true):=.o3 fun hok h1 h2 h3 hp=>by
  refine St.enter (N:=118) Try.func3 rfl rfl rfl hok (enter3 h1 h2 h3) fun a=>?_
  repeat' (first|((with_reducible refine gS_ ?_);first|((with_reducible refine gL_ ?_);first|refine W.run ?_ fun a w G=>?_|refine W.mv fun a w G=>?_|refine W.asg fun a w G=>?_|refine W.bx fun b a w G=>?_|(refine W.nn hK ?_;clear hK K)|refine W.nl ?_|refine W.al fun b a w G=>?_|refine W.st fun w=>?_|refine W.stp fun w=>?_|refine W.ste ?_ fun w=>?_)|((with_reducible refine gC_ ?_);first|refine W.cbt hp ?_|with_reducible refine W.gcc 3 ?_|with_reducible refine W.gcd 3 ?_|refine W.reg fun K hK=>?_|refine W.reg1 ?_|refine W.sq fun K hK=>?_|refine W.ds ?_ (fun β a w G hu=>W.fin ?_ hu) mixedOrders (by kernel_rfl)|refine W.sk ?_|refine W.cd (fun hc=>?_) (fun hc=>?_)|refine W.cb (fun hc=>?_) (fun hc=>?_)|refine W.bl ?_|refine W.ex ?_|refine W.rt ?_)|((with_reducible refine W.kn hK ?_);clear hK K)|(with_reducible first|refine W.bn ?_|refine W.xt ?_|refine W.xb ?_|refine W.xo ?_|refine W.tr ?_|refine W.br ?_)|refine W.rt1 rfl ?_|refine W.rt2 rfl ?_ ?_|refine W.rt3 rfl ?_ ?_ ?_)|clear hK K|clear hu|exact True.intro|exact Nat.le_trans (by clear hp;omega) hp|exact Nat.le_trans (by clear hp;omega) hp.1|exact Nat.le_trans (by clear hp;omega) hp.2|(clear hp;omega)|apply And.intro|refine GI.i fun _=>?_|with_reducible rfl|decide|(simp only [List.length_cons,List.length_nil];omega))
  all_goals first
    | omega
    | rfl
    | assumption
    | (intro h9;simpa using h9)
    | (rename_i g9;simp only [Bool.or_eq_false_iff] at g9;first | exact g9.2 | exact g9.1.2 | exact g9.1.1.2)
    | skip
theorem gs4 {n : Int} {l : List WT} {r : FR} (h : ((((!true || !((!lrg l && decide (n ≤ 8)) && decide (chW n l = 0))) || lgR r) || !r.ok) || decide (r.val.num.sign ≤ 0)) = false) : lrg l = false ∧ n ≤ 8 ∧ chW n l = 0 ∧ lgR r = false ∧ r.ok = true ∧ 0 < r.val:=by
  simp only [Bool.not_true,Bool.false_or,Bool.or_eq_false_iff,Bool.not_eq_false',Bool.and_eq_true,Bool.not_eq_true',decide_eq_true_eq,decide_eq_false_iff_not] at h
  obtain ⟨⟨⟨h1,h2⟩,h3⟩,h4⟩:=h
  refine ⟨h1.1.1,h1.1.2,h1.2,h2,h3,?_⟩
  have h8:=num_sg r.val
  by_cases e : r.val < 0
  · have:=h8.2.2.2 e;omega
  · by_cases e2 : r.val = 0
    · have:=h8.2.1.2 e2;omega
    · grind
theorem shortShaftScalesF {n : Int} {l : List WT} {r : FR} : Con Try.prog 3 [IT n,WTS l,FX 256 r] (((((!true || !((!lrg l && decide (n ≤ 8)) && decide (chW n l = 0))) || lgR r) || !r.ok) || decide (r.val.num.sign ≤ 0)) = false ∧ (∀ j,j < l.length → qb (64 + 64) (l.getD j default).2.2.1.val) ∧ qb (64 + 64) r.val ∧ 0 < l.length) (BT true):=.o3 fun hok h1 h2 h3 hp=>by
  refine St.enter (N:=118) Try.func3 rfl rfl rfl hok (enter3 h1 h2 h3) fun a=>?_
  have e0:=hp.1
  have eg:=gs4 e0
  have hz:=nnz eg.2.2.1
  have hlc:=lc_sc eg.2.2.2.2.2 eg.2.2.1
  rw [← scJ_end (a:=r.val) (l:=l)] at hlc
  have hsl:=lcS_le eg.2.2.1
  have hq1:=hp.2.1
  have hq2:=hp.2.2.1
  have hlen:=hp.2.2.2
  have own37 : OwnAt 37:=⟨⟩
  have own39 : OwnAt 39:=⟨⟩
  repeat' (first|((with_reducible refine gS_ ?_);first|((with_reducible refine gL_ ?_);first|refine W.run ?_ fun a w G=>?_|refine W.mv fun a w G=>?_|refine W.asg fun a w G=>?_|refine W.bx fun b a w G=>?_|(refine W.nn hK ?_;clear hK K)|refine W.nl ?_|refine W.al fun b a w G=>?_|refine W.st fun w=>?_|refine W.stp fun w=>?_|refine W.ste ?_ fun w=>?_)|((with_reducible refine gC_ ?_);first|with_reducible refine W.cbf e0 ?_|with_reducible refine W.gcc 3 ?_|with_reducible refine W.gcd 3 ?_|refine W.reg fun K hK=>?_|refine W.reg1 ?_|refine W.sq fun K hK=>?_|refine W.ds ?_ (fun β a w G hu=>W.fin ?_ hu) mixedOrders (by kernel_rfl)|refine W.sk ?_|refine W.cd (fun hc=>?_) (fun hc=>?_)|refine W.cb (fun hc=>?_) (fun hc=>?_)|refine W.bl ?_|refine W.ex ?_|refine W.rt ?_)|((with_reducible refine W.kn hK ?_);clear hK K)|(with_reducible first|refine W.bn ?_|refine W.xt ?_|refine W.xb ?_|refine W.xo ?_|refine W.tr ?_|refine W.br ?_)|refine W.rt1 rfl ?_|refine W.rt2 rfl ?_ ?_|refine W.rt3 rfl ?_ ?_ ?_)|refine W.bu0 (k:=some 6) (fun V own a w G hO=>?_)|refine W.ap (mt:=PTS [(none,IT 0),(none,IT 0),(some 3,FX 1 default),(none,IT 0)]) (T:=WTX) (xs:=[]) hO ?_ fun V own a w G hO=>?_|((have h8 : OWNS (some 6) _ V own (List.map WTX ([] ++ l)):=hO);(have h9 : 0 < (List.map WTX ([] ++ l)).length:=by simpa using hlen);obtain ⟨b2,c2,rfl,rfl,hcc⟩:=own_pos h8 h9)|((have hjl : j = l.length:=by omega);subst hjl)|refine W.fz 65 ?_ fun G=>?_|refine W.lp 40 (α:=Nat) (fun j=>l.length - j) (fun j=>j ≤ l.length) [8,40,41,42,43,44,45,46,47,48,49,50,51,52,53,54,55,56] (fun j=>[(8,NT j)]) (fun j=>[(7,ROWS (some 6) ((scJ r.val l j).map WTX))]) (0) ?_ ?_ ?_ fun j hj a w G=>?_|refine W.ag (x:=j) (j+1) ?_ ?_ ?_ ?_|refine W.lp 97 (α:=Nat) (fun k=>(lcS n l).length - k) (fun k=>k ≤ (lcS n l).length) [6,13,97,98,99,100,101,102,103,104,105,106,107,108,109,110,111,112,113,114,115,116,117] (fun k=>[(13,NT k)]) (fun k=>[]) (0) ?_ ?_ ?_ fun k hk a w G=>?_|refine W.ag (x:=k) (k+1) ?_ ?_ ?_ ?_|clear hK K|clear hu|exact True.intro|exact Nat.le_trans (by clear hp;omega) hp|exact Nat.le_trans (by clear hp;omega) hp.1|exact Nat.le_trans (by clear hp;omega) hp.2|(clear hp;omega)|apply And.intro|refine GI.i fun _=>?_|with_reducible rfl|decide|(simp only [List.length_cons,List.length_nil];omega))
  all_goals (try simp only [List.nil_append,List.length_nil,Nat.zero_add,List.length_map,scJ_len,LIM] at *)
  all_goals (try ((have hjl : j = l.length:=(by omega));subst hjl))
  all_goals (try have hat:=scJ_at (a:=r.val) (l:=l) (j:=j) (by omega))
  all_goals first
    | omega
    | rfl
    | (rw [hat];exact (hq1 j (by omega)).1)
    | (rw [hat];exact (hq1 j (by omega)).2)
    | (rw [hat];exact scJ_go (by omega))
    | exact hq2.1
    | exact hq2.2
    | exact decide_eq_true hlc.1.symm
    | (exact (rat_no (by assumption) hlc.2.1 (by rw [hlc.2.2,List.length_map];exact decide_eq_false (by simp))).elim)
    | (exact (rat_no (by assumption) hlc.2.1 (decide_eq_false (by simp))).elim)
    | (exact (rat_no1 (by assumption) ((congrArg (fun s=>List.getD s k default) hlc.2.2).trans smap_get)).elim)
    | (rw [hlc.2.2,List.length_map];omega)
    | (exact (rat_no1 (by assumption) (by rw [hlc.2.2];exact smap_get)).elim)
    | skip
instance : SzK (some 6) (.agg #[.int .i64 0,.int .i64 0,.bool false,.slice none 0 0,.slice none 0 0,.int .i64 0]):=⟨(inferInstance : ZV ⟨some 6,.agg #[.int .i64 0,.int .i64 0,.bool false,.slice none 0 0,.slice none 0 0,.int .i64 0],PTS [(none,IT 0),(none,IT 0),(some 3,FX 1 default),(none,IT 0)]⟩).s⟩
instance (priority:=1200) {P : Program} {L : List (Nat × MT)} {B : List BX} {t e0 by0 kn : Nat} {z0 : Value} [e : ElS P t e0 (some kn) by0 z0] : Op1 P L B (.buildSlice t 0 #[]) True (LSC (some kn) []) []:=⟨fun ho hok _ _ _ Q K hK=>OpR.build0 hok ho e.h1 e.h2 Q K fun v w' G' hv hn=>hK v w' G' (by obtain ⟨b,rfl⟩:=hv;exact ⟨⟨some b,0,rfl,Nat.le_refl _,Nat.zero_le _,fun i x h=>by simp at h⟩,b,rfl⟩) hn⟩
instance {α : Type} {T : α → MT} : AsTL [] T []:=⟨rfl,fun i τ h=>by simp at h⟩
theorem shortShaftScalesN {n : Int} {r : FR} : Con Try.prog 3 [IT n,WTS [],FX 256 r] (((((!true || !((!lrg [] && decide (n ≤ 8)) && decide (chW n [] = 0))) || lgR r) || !r.ok) || decide (r.val.num.sign ≤ 0)) = false ∧ (∀ j,j < ([] : List WT).length → qb (64 + 64) (([] : List WT).getD j default).2.2.1.val) ∧ qb (64 + 64) r.val) (BT true):=.o3 fun hok h1 h2 h3 hp=>by
  refine St.enter (N:=118) Try.func3 rfl rfl rfl hok (enter3 h1 h2 h3) fun a=>?_
  have e0:=hp.1
  have eg:=gs4 e0
  have hz:=nnz eg.2.2.1
  have hlc:=lc_sc eg.2.2.2.2.2 eg.2.2.1
  have hsl:=lcS_le eg.2.2.1
  rw [show scL r.val [] = [] from rfl] at hlc
  repeat' (first|((with_reducible refine gS_ ?_);first|((with_reducible refine gL_ ?_);first|refine W.run ?_ fun a w G=>?_|refine W.mv fun a w G=>?_|refine W.asg fun a w G=>?_|refine W.bx fun b a w G=>?_|(refine W.nn hK ?_;clear hK K)|refine W.nl ?_|refine W.al fun b a w G=>?_|refine W.st fun w=>?_|refine W.stp fun w=>?_|refine W.ste ?_ fun w=>?_)|((with_reducible refine gC_ ?_);first|with_reducible refine W.cbf e0 ?_|with_reducible refine W.cbt (by first|assumption|(simp [List.nil_append,List.length_nil,Nat.not_lt_zero];done)|fail) ?_|with_reducible refine W.cbf (by first|assumption|(simp [List.nil_append,List.length_nil,Nat.not_lt_zero];done)|fail) ?_|with_reducible refine W.gcc 3 ?_|with_reducible refine W.gcd 3 ?_|refine W.reg fun K hK=>?_|refine W.reg1 ?_|refine W.sq fun K hK=>?_|refine W.ds ?_ (fun β a w G hu=>W.fin ?_ hu) mixedOrders (by kernel_rfl)|refine W.sk ?_|refine W.cd (fun hc=>?_) (fun hc=>?_)|refine W.cb (fun hc=>?_) (fun hc=>?_)|refine W.bl ?_|refine W.ex ?_|refine W.rt ?_)|((with_reducible refine W.kn hK ?_);clear hK K)|(with_reducible first|refine W.bn ?_|refine W.xt ?_|refine W.xb ?_|refine W.xo ?_|refine W.tr ?_|refine W.br ?_)|refine W.rt1 rfl ?_|refine W.rt2 rfl ?_ ?_|refine W.rt3 rfl ?_ ?_ ?_)|refine W.lp 40 (α:=Nat) (fun j=>0 - j) (fun j=>j ≤ 0) [8,40,41,42,43,44,45,46,47,48,49,50,51,52,53,54,55,56] (fun j=>[(8,NT j)]) (fun j=>[]) (0) ?_ ?_ ?_ fun j hj a w G=>?_|refine W.ag (x:=j) (j+1) ?_ ?_ ?_ ?_|refine W.lp 97 (α:=Nat) (fun k=>(lcS n []).length - k) (fun k=>k ≤ (lcS n []).length) [6,13,97,98,99,100,101,102,103,104,105,106,107,108,109,110,111,112,113,114,115,116,117] (fun k=>[(13,NT k)]) (fun k=>[]) (0) ?_ ?_ ?_ fun k hk a w G=>?_|refine W.ag (x:=k) (k+1) ?_ ?_ ?_ ?_|clear hK K|clear hu|exact True.intro|exact Nat.le_trans (by clear hp;omega) hp|exact Nat.le_trans (by clear hp;omega) hp.1|exact Nat.le_trans (by clear hp;omega) hp.2|(clear hp;omega)|apply And.intro|refine GI.i fun _=>?_|with_reducible rfl|decide|(simp only [List.length_cons,List.length_nil];omega))
  all_goals (try simp only [List.nil_append,List.length_nil,Nat.zero_add,List.length_map,LIM] at *)
  all_goals first
    | omega
    | rfl
    | exact decide_eq_true hlc.1.symm
    | (exact (rat_no (by assumption) hlc.2.1 (by rw [hlc.2.2,List.length_map];exact decide_eq_false (by simp))).elim)
    | (exact (rat_no (by assumption) hlc.2.1 (decide_eq_false (by simp))).elim)
    | (exact (rat_no1 (by assumption) ((congrArg (fun s=>List.getD s k default) hlc.2.2).trans smap_get)).elim)
    | (rw [hlc.2.2,List.length_map];omega)
    | (exact (rat_no1 (by assumption) (by rw [hlc.2.2];exact smap_get)).elim)
    | skip
theorem lawShaftScales {n : Int} {l : List WT} {r : FR} {w : World} {G : Gh} {v1 v2 v3 : Value} (hok : Gok w G) (h1 : (IT n).t v1 G) (h2 : (WRS l).t v2 G) (h3 : (RX r).t v3 G) : Calls Try.prog 3 #[v1,v2,v3] w (Ret w G (BT true)):=by
  by_cases hA : lrg l = true ∨ 64 < l.length
  · exact longShaftScalesA.c3 hok h1 h2 h3 hA
  · have hl0 : lrg l = false:=by cases e : lrg l with | true=>exact absurd (.inl e) hA | false=>rfl
    have hl : l.length ≤ 16:=Classical.byContradiction fun e=>hA (.inr (lrg_b hl0 e))
    have hls:=lrg_s hl0 hl
    have h2':=WRS.to h2 hls
    cases hs : ((((!true || !((!lrg l && decide (n ≤ 8)) && decide (chW n l = 0))) || lgR r) || !r.ok) || decide (r.val.num.sign ≤ 0)) with
    | true=>exact longShaftScalesB.c3 hok h1 h2' h3 hs
    | false =>
      have eg:=gs4 hs
      have h3':=RX.toFX4 h3 eg.2.2.2.1
      have hq:=wtx_q4 hls h2
      have hr:=rx_q4 h3 eg.2.2.2.1
      rcases Nat.eq_zero_or_pos l.length with e | e
      · obtain rfl:=List.length_eq_zero_iff.1 e
        exact shortShaftScalesN.c3 hok h1 h2' h3' ⟨hs,hq,hr⟩
      · exact shortShaftScalesF.c3 hok h1 h2' h3' ⟨hs,hq,hr,e⟩
end Go.Proofs.Ytjphllpnhjemjaa
namespace Go.Proofs.Ytjphllpnhjemjaa
open Go.RowKit (Below)
def G0of (W : World) : Gh:=fun b=>W.heap[b]?
theorem G0of_ok (W : World) : Gok W (G0of W):=fun _ _ h=>h
theorem Gc_G0 {W : World} {b i : Nat} : Gc (G0of W) b i = W.cell? ⟨b,i,none⟩:=by
  unfold Gc G0of World.cell?;cases W.heap[b]? with
  | none=>rfl
  | some o=>cases o <;> rfl
def RdA (P : Program) (W : World) (t : TypeId) (k : Option Nat) (A : MT → Prop) : Prop:=∀ (H : Type) (enc : TypeId × Value → H) (fuel : Nat) (cs : List Value) (x : DataW H × List MemPlace),
  DataW.trod enc P W 0 (fun _=>true) true fuel t cs = some x → (x.1.weights P t).all (· ≤ reachBytes) = true → ∃ (v : Value) (τ : MT),A τ ∧ v.cells.toList = cs ∧ Shaped k v ∧ τ.t v (G0of W)
section
variable {P : Program} {W : World} {t e : TypeId} {k : Option Nat} {A A' : MT → Prop}
theorem RdA.mono (h : RdA P W t k A) (hA : ∀ τ v,A τ → τ.t v (G0of W) → ∃ σ,A' σ ∧ σ.t v (G0of W)) : RdA P W t k A':=fun H enc fuel cs x hx hw=>by
  obtain ⟨v,τ,h1,h2,h3,h4⟩:=h H enc fuel cs x hx hw
  obtain ⟨σ,h5,h6⟩:=hA τ v h1 h4
  exact ⟨v,σ,h5,h2,h3,h6⟩
theorem rd_bool (ht : P.underlying t = some .bool) : RdA P W t none (fun τ=>∃ b,τ = .ex (.bool b)):=fun H enc fuel cs x hx hw=>by
  obtain ⟨b,rfl,rfl⟩:=DataW.trod_bool ht hx
  exact ⟨.bool b,_,⟨b,rfl⟩,rfl,⟨rfl,rfl⟩,rfl⟩
theorem rd_int {kk : IntKind} (ht : P.underlying t = some (.int kk)) : RdA P W t none (fun τ=>∃ z,(Lit.int kk z).wf = true ∧ τ = .ex (.int kk z)):=fun H enc fuel cs x hx hw=>by
  obtain ⟨z,rfl,rfl,h⟩:=DataW.trod_int ht hx
  exact ⟨.int kk z,_,⟨z,h,rfl⟩,rfl,⟨rfl,rfl⟩,rfl⟩
theorem rd_i64 (ht : P.underlying t = some (.int .i64)) : RdA P W t none (fun τ=>∃ z : Int,τ = .ex (.int .i64 z)):=(rd_int ht).mono fun τ v ⟨z,_,e⟩ hv=>⟨τ,⟨z,e⟩,hv⟩
theorem rd_u8 (ht : P.underlying t = some (.int .u8)) : RdA P W t none (fun τ=>∃ z : Fin 256,τ = .ex (.int .u8 ((z.val : Nat) : Int))):=(rd_int ht).mono fun τ v ⟨z,hz,e⟩ hv=>by
  have h0 : (0 : Int) ≤ z:=of_decide_eq_true (Bool.and_eq_true_iff.1 hz).1
  have h1 : z ≤ 255:=of_decide_eq_true (Bool.and_eq_true_iff.1 hz).2
  refine ⟨τ,⟨⟨z.toNat,by omega⟩,?_⟩,hv⟩
  rw [e];show _ = MT.ex (.int .u8 ((z.toNat : Nat) : Int));rw [Int.toNat_of_nonneg h0]
theorem cells_get {a : Addr} {n : Nat} {L : List Value} (h : W.cells? 0 a n = some L) : L.length = n ∧ ∀ j,j < n → W.cell? (a.add j) = L[j]?:=by
  unfold World.cells? at h
  rw [if_pos (Nat.zero_le _)] at h
  exact ⟨by simpa using mapM_some_length h,fun j hj=>mapM_some_get h j j (by simp [hj])⟩
theorem weightsAll_mem {H : Type} {es : List (DataW H)} {d : DataW H} {i : Nat} (hi : es[i]? = some d) : ∀ n ∈ d.weights P e,n ∈ DataW.weightsAll P e es:=by
  induction es generalizing i with
  | nil=>simp at hi
  | cons x r ih =>
    intro n hn
    rw [DataW.weightsAll,List.mem_append]
    cases i with
    | zero=>simp at hi;subst hi;exact .inl hn
    | succ j=>exact .inr (ih (by simpa using hi) n hn)
theorem rd_sliceB (ht : P.underlying t = some (.slice e)) (hc : P.cellsOf e = k.getD 1) (hc0 : 0 < k.getD 1) (hb : 4 ≤ P.bytesOf e) (h : RdA P W e k A) : RdA P W t none (fun τ=>∃ τs,(∀ σ ∈ τs,A σ) ∧ τs.length * P.bytesOf e ≤ 140737488351232 ∧ τ = LS k τs):=fun H enc fuel cs x hx hw=>by
  rcases DataW.trod_slice ht hx with ⟨rfl,rfl⟩ | ⟨a,len,cap,elems,rest,n,rfl,rfl,rfl,hb0,hlc,hcm,hel,hE,_,_⟩
  · exact ⟨.slice none 0 0,LS k [],⟨[],by simp,by simp,rfl⟩,rfl,⟨rfl,rfl⟩,LS.nil⟩
  · simp only [DataW.weights,ht,List.all_cons,List.all_append,Bool.and_eq_true,decide_eq_true_eq] at hw
    obtain ⟨hw1,hw2,_⟩:=hw
    have hlim : len ≤ LIM:=by
      have h1 : len * 4 ≤ ((elems.map (·.1)).length + (rest.map (·.1)).length) * P.bytesOf e:=Nat.mul_le_mul (by simp;omega) hb
      have h2 : reachBytes = 140737488351232:=rfl
      simp only [LIM];omega
    have hby : len * P.bytesOf e ≤ 140737488351232:=by
      have h1 : len * P.bytesOf e ≤ ((elems.map (·.1)).length + (rest.map (·.1)).length) * P.bytesOf e:=Nat.mul_le_mul_right _ (by simp;omega)
      have h2 : reachBytes = 140737488351232:=rfl
      omega
    have each : ∀ i,∃ (v : Value) (τ : MT),i < len → W.cells? 0 (a.add (i * k.getD 1)) (k.getD 1) = some v.cells.toList ∧ A τ ∧ Shaped k v ∧ τ.t v (G0of W):=fun i=>by
      by_cases hi : i < len
      · have h1:=hE i hi
        rw [List.getElem?_eq_getElem (by omega),Option.bind_eq_some_iff,hc] at h1
        obtain ⟨cs',h2,h3⟩:=h1
        obtain ⟨v,τ,h4,h5,h6,h7⟩:=h H enc n cs' _ h3 (List.all_eq_true.2 fun m hm=>List.all_eq_true.1 hw2 m (weightsAll_mem (i:=i) (by rw [List.getElem?_map,List.getElem?_eq_getElem (by omega)];rfl) m hm))
        exact ⟨v,τ,fun _=>⟨by rw [h5];exact h2,h4,h6,h7⟩⟩
      · exact ⟨undef,.ex undef,fun h=>absurd h hi⟩
    obtain ⟨f,g,hfg⟩ : ∃ (f : Nat → Value) (g : Nat → MT),∀ i,i < len → W.cells? 0 (a.add (i * k.getD 1)) (k.getD 1) = some (f i).cells.toList ∧ A (g i) ∧ Shaped k (f i) ∧ (g i).t (f i) (G0of W):=⟨fun i=>(each i).choose,fun i=>(each i).choose_spec.choose,fun i=>(each i).choose_spec.choose_spec⟩
    refine ⟨.slice (some a) len cap,LS k ((List.range len).map g),⟨_,fun σ hσ=>?_,by simpa using hby,rfl⟩,rfl,⟨rfl,rfl⟩,LS.of_vals (us:=(List.range len).map f) (A:=some a) (c:=cap) (by simp) (by simpa using hlc) (by simpa using hlim) ⟨by simp,fun i τ u hi hu=>?_⟩ fun i u hu=>?_⟩
    · obtain ⟨i,hi,rfl⟩:=List.mem_map.1 hσ
      exact (hfg i (by simpa using hi)).2.1
    · have hlt : i < len:=by have:=(List.getElem?_eq_some_iff.1 hi).1;simpa using this
      simp [List.getElem?_range hlt] at hi hu
      subst hi;subst hu
      exact (hfg i hlt).2.2
    · have hlt : i < len:=by have:=(List.getElem?_eq_some_iff.1 hu).1;simpa using this
      simp [List.getElem?_range hlt] at hu
      subst hu
      obtain ⟨h1,h2,h3,h4⟩:=hfg i hlt
      obtain ⟨h5,h6⟩:=cells_get h1
      obtain ⟨g5,g6⟩:=cells_get (hfg 0 (by omega)).1
      obtain ⟨b,off,spot⟩:=a
      have h7:=g6 0 hc0
      rw [List.getElem?_eq_getElem (by omega)] at h7
      have hs : spot = none:=by simpa [Addr.add] using World.cell?_spot h7
      subst hs
      refine ⟨b,off,rfl,fun j x hj=>?_⟩
      have hjl : j < k.getD 1:=by have:=(Array.getElem?_eq_some_iff.1 hj).1;rw [← h5,Array.length_toList];exact this
      have h8:=h6 j hjl
      rw [Gc_G0]
      rw [addr_add,addr_add,Array.getElem?_toList,hj] at h8
      exact h8
theorem rd_slice (ht : P.underlying t = some (.slice e)) (hc : P.cellsOf e = k.getD 1) (hc0 : 0 < k.getD 1) (hb : 4 ≤ P.bytesOf e) (h : RdA P W e k A) : RdA P W t none (fun τ=>∃ τs,(∀ σ ∈ τs,A σ) ∧ τ = LS k τs) :=
  (rd_sliceB ht hc hc0 hb h).mono fun τ v ⟨τs,h1,_,h2⟩ hv=>⟨τ,⟨τs,h1,h2⟩,hv⟩
theorem forall_map {α : Type} {T : α → MT} {τs : List MT} (h : ∀ σ ∈ τs,∃ x,σ = T x) : ∃ xs : List α,τs = xs.map T:=by
  induction τs with
  | nil=>exact ⟨[],rfl⟩
  | cons a r ih =>
    obtain ⟨l,rfl⟩:=ih fun σ h'=>h σ (List.mem_cons_of_mem _ h')
    obtain ⟨x,rfl⟩:=h a (List.mem_cons_self ..)
    exact ⟨x :: l,rfl⟩
theorem forall_map' {α : Type} {T : α → MT} {p : α → Prop} {τs : List MT} (h : ∀ σ ∈ τs,∃ x,p x ∧ σ = T x) : ∃ xs : List α,τs = xs.map T ∧ ∀ x ∈ xs,p x:=by
  induction τs with
  | nil=>exact ⟨[],rfl,by simp⟩
  | cons a r ih =>
    obtain ⟨l,rfl,hl⟩:=ih fun σ h'=>h σ (List.mem_cons_of_mem _ h')
    obtain ⟨x,hx,rfl⟩:=h a (List.mem_cons_self ..)
    exact ⟨x :: l,rfl,by simpa using ⟨hx,hl⟩⟩
theorem rd_words (ht : P.underlying t = some (.slice e)) (hu : P.underlying e = some (.int .u32)) (hc : P.cellsOf e = 1) (hb : 4 ≤ P.bytesOf e) : RdA P W t none (fun τ=>∃ l,τ = SL l):=by
  have h1 : RdA P W e none (fun τ=>∃ x : Nat,x < 4294967296 ∧ τ = .ex (u32 x)):=(rd_int hu).mono fun τ v ⟨z,hz,hτ⟩ hv=>by
    subst hτ
    have hm : IntKind.u32.min = 0:=by decide
    have hM : IntKind.u32.max = 4294967295:=by decide
    simp [Lit.wf,hm,hM] at hz
    exact ⟨_,⟨z.toNat,by omega,rfl⟩,by
      have : (z.toNat : Int) = z:=by omega
      show v = .int .u32 (z.toNat : Int);rw [this];exact hv⟩
  refine (rd_slice (k:=none) ht hc (by decide) hb h1).mono fun τ v ⟨τs,hσ,hτ⟩ hv=>?_
  subst hτ
  obtain ⟨l,hl,hlt⟩:=forall_map' hσ
  subst hl
  obtain ⟨A,c,us,h2,h3,h4,h5,h6⟩:=LS.vals hv
  rw [List.length_map] at h2 h3 h4
  refine ⟨_,⟨l,rfl⟩,A,c,h2,h3,h4,hlt,fun i x hi=>?_⟩
  have hil:=(List.getElem?_eq_some_iff.1 hi).1
  have hul : i < us.length:=by rw [h5.1,List.length_map];exact hil
  have hui : us[i]? = some us[i]:=by rw [List.getElem?_eq_getElem hul]
  have h7:=(h5.2 i (.ex (u32 x)) us[i] (by rw [List.getElem?_map,hi];rfl) hui).2
  obtain ⟨b,off,e1,h8⟩:=h6 i us[i] hui
  refine ⟨b,off,e1,?_⟩
  have h9 : us[i] = u32 x:=h7
  rw [h9] at h8
  simpa using h8 0 (u32 x) rfl
def FldOk (P : Program) (W : World) : Nat → List Field → List (Option Nat × (MT → Prop)) → Prop
  | _,[],[]=>True
  | off,f :: fs,a :: As=>f.offset = off ∧ P.cellsOf f.type = a.1.getD 1 ∧ RdA P W f.type a.1 a.2 ∧ FldOk P W (off + a.1.getD 1) fs As
  | _,_,_=>False
def Mt : List (Option Nat × (MT → Prop)) → List (Option Nat × MT) → Prop
  | [],[]=>True
  | a :: As,f :: F=>f.1 = a.1 ∧ a.2 f.2 ∧ Mt As F
  | _,_=>False
def tot (As : List (Option Nat × (MT → Prop))) : Nat:=(As.map fun a=>a.1.getD 1).sum
theorem Mt.tot : ∀ {As : List (Option Nat × (MT → Prop))} {F : List (Option Nat × MT)},Mt As F → (F.map fun f=>f.1.getD 1).sum = Go.Proofs.Ytjphllpnhjemjaa.tot As
  | [],[],_=>rfl
  | a :: As,f :: F,h=>by
    have:=Mt.tot h.2.2
    simp only [Go.Proofs.Ytjphllpnhjemjaa.tot,List.map_cons,List.sum_cons,h.1] at this ⊢
    rw [this]
  | [],_ :: _,h=>h.elim
  | _ :: _,[],h=>h.elim
theorem rd_fields {H : Type} {enc : TypeId × Value → H} {n : Nat} {cs : List Value} : ∀ (fs : List Field) (As : List (Option Nat × (MT → Prop))) (xs : List (DataW H × List MemPlace)) (off : Nat), FldOk P W off fs As → xs.length = fs.length →
    (∀ (i : Nat) (f : Field),fs[i]? = some f → DataW.trod enc P W 0 (fun _=>true) true n f.type ((cs.drop f.offset).take (P.cellsOf f.type)) = xs[i]?) → (DataW.weightsEach P (fs.map (·.type)) (xs.map (·.1))).all (· ≤ reachBytes) = true → cs.length = off + tot As →
    ∃ us F,Mt As F ∧ flat us = cs.drop off ∧ us.length = F.length ∧ ∀ (i : Nat) (f : Option Nat × MT) (u : Value),F[i]? = some f → us[i]? = some u → Shaped f.1 u ∧ f.2.t u (G0of W)
  | [],[],xs,off,_,_,_,_,hl=>⟨[],[],trivial,by rw [List.drop_eq_nil_of_le (by rw [hl];simp [tot])];rfl,rfl,fun i f u h=>by simp at h⟩
  | f :: fs,a :: As,[],off,_,hx,_,_,_=>by simp at hx
  | f :: fs,a :: As,x :: xs,off,hF,hx,hT,hw,hl=>by
    obtain ⟨h1,h2,h3,h4⟩:=hF
    simp only [List.map_cons,DataW.weightsEach,List.all_append,Bool.and_eq_true] at hw
    obtain ⟨v,τ,h5,h6,h7,h8⟩:=h3 H enc n _ x (hT 0 f rfl) hw.1
    obtain ⟨us,F,g1,g2,g3,g4⟩:=rd_fields fs As xs (off + a.1.getD 1) h4 (by simpa using hx) (fun i g hg=>by simpa using hT (i + 1) g (by simpa using hg)) hw.2 (by rw [hl];simp [tot];omega)
    refine ⟨v :: us,(a.1,τ) :: F,⟨rfl,h5,g1⟩,?_,by simp [g3],fun i f' u hf hu=>?_⟩
    · rw [flat_cons,h6,g2,h1,h2,← List.drop_drop,List.take_append_drop]
    · cases i with
      | zero=>simp at hf hu;subst hf;subst hu;exact ⟨h7,h8⟩
      | succ i=>exact g4 i f' u (by simpa using hf) (by simpa using hu)
  | [],_ :: _,_,_,h,_,_,_,_=>h.elim
  | _ :: _,[],_,_,h,_,_,_,_=>h.elim
theorem rd_struct {fs : Array Field} {As : List (Option Nat × (MT → Prop))} {n : Nat} (ht : P.underlying t = some (.struct fs)) (hn : P.cellsOf t = n) (hnA : tot As = n) (hF : FldOk P W 0 fs.toList As) : RdA P W t (some n) (fun τ=>∃ F,Mt As F ∧ τ = PTS F):=fun H enc fuel cs x hx hw=>by
  obtain ⟨xs,m,rfl,rfl,hl,hxl,hT⟩:=DataW.trod_struct ht hx
  simp only [DataW.weights,ht] at hw
  obtain ⟨us,F,h1,h2,h3,h4⟩:=rd_fields fs.toList As xs 0 hF (by simpa using hxl) (fun i f hf=>hT i f (by simpa using hf)) hw (by omega)
  have hP : (PTS F).t (.agg (flat us).toArray) (G0of W):=⟨us,rfl,h3,h4⟩
  refine ⟨.agg (flat us).toArray,PTS F,⟨F,h1,rfl⟩,by rw [h2];rfl,PTS.shaped (by unfold offs;rw [List.take_length,h1.tot,hnA]) hP,hP⟩
theorem shaped1 {u : Value} (h : Shaped none u) : u.cells = #[u]:=h.1
theorem PTS.toQR {s : Bool} {p q : List Nat} {v : Value} {G : Gh} (h : (PTS [(none,.ex (.bool s)),(none,SL p),(none,SL q)]).t v G) : (QR s p q).t v G:=by
  obtain ⟨us,rfl,hl,h⟩:=h
  match us,hl,h with
  | [u0,u1,u2],_,h =>
    obtain ⟨a0,b0⟩:=h 0 _ u0 rfl rfl
    obtain ⟨a1,b1⟩:=h 1 _ u1 rfl rfl
    obtain ⟨a2,b2⟩:=h 2 _ u2 rfl rfl
    refine ⟨u1,u2,?_,b1,b2⟩
    have e0 : u0 = .bool s:=b0
    simp only [flat,List.flatMap_cons,List.flatMap_nil,shaped1 a0,shaped1 a1,shaped1 a2]
    rw [e0];rfl
theorem rd_frac {fs : Array Field} {f0 f1 f2 : Field} {tw : TypeId} (ht : P.underlying t = some (.struct fs)) (hf : fs.toList = [f0, f1, f2]) (hn : P.cellsOf t = 3) (h0 : f0.offset = 0 ∧ P.cellsOf f0.type = 1 ∧ P.underlying f0.type = some .bool) (h1 : f1.offset = 1 ∧ f1.type = tw) (h2 : f2.offset = 2 ∧ f2.type = tw)
    (hw : P.underlying tw = some (.slice e) ∧ P.cellsOf tw = 1) (he : P.underlying e = some (.int .u32) ∧ P.cellsOf e = 1 ∧ 4 ≤ P.bytesOf e) : RdA P W t (some 3) (fun τ=>∃ r : FR,τ = QR r.s r.p r.q):=by
  have hW : RdA P W tw none (fun τ=>∃ l,τ = SL l):=rd_words hw.1 he.1 he.2.1 he.2.2
  refine (rd_struct (As:=[(none,fun τ=>∃ b,τ = .ex (.bool b)),(none,fun τ=>∃ l,τ = SL l),(none,fun τ=>∃ l,τ = SL l)]) ht hn rfl (by
    rw [hf];exact ⟨h0.1,h0.2.1,rd_bool h0.2.2,h1.1,by rw [h1.2];exact hw.2,by rw [h1.2];exact hW,h2.1,by rw [h2.2];exact hw.2,by rw [h2.2];exact hW,trivial⟩)).mono fun τ v ⟨F,hM,hτ⟩ hv=>?_
  subst hτ
  match F,hM with
  | [a,b,c],⟨a1,⟨s,a2⟩,b1,⟨p,b2⟩,c1,⟨q,c2⟩,_⟩ =>
    obtain ⟨a0,a'⟩:=a;obtain ⟨b0,b'⟩:=b;obtain ⟨c0,c'⟩:=c
    simp only at a1 a2 b1 b2 c1 c2
    subst a1;subst a2;subst b1;subst b2;subst c1;subst c2
    exact ⟨_,⟨⟨s,p,q⟩,rfl⟩,PTS.toQR hv⟩
theorem rd_list {α : Type} {T : α → MT} (ht : P.underlying t = some (.slice e)) (hc : P.cellsOf e = k.getD 1) (hc0 : 0 < k.getD 1) (hb : 4 ≤ P.bytesOf e) (h : RdA P W e k (fun τ=>∃ x,τ = T x)) : RdA P W t none (fun τ=>∃ xs : List α,τ = LS k (xs.map T)) :=
  (rd_slice ht hc hc0 hb h).mono fun τ v ⟨τs,hσ,hτ⟩ hv=>by
    obtain ⟨xs,rfl⟩:=forall_map hσ
    subst hτ
    exact ⟨_,⟨xs,rfl⟩,hv⟩
theorem rd_listB {α : Type} {T : α → MT} {c : Nat} (ht : P.underlying t = some (.slice e)) (hc : P.cellsOf e = k.getD 1) (hc0 : 0 < k.getD 1) (hb : 4 ≤ P.bytesOf e) (hbc : P.bytesOf e = c) (h : RdA P W e k (fun τ=>∃ x,τ = T x)) : RdA P W t none (fun τ=>∃ xs : { xs : List α // xs.length * c ≤ 140737488351232 },τ = LS k (xs.1.map T)) :=
  (rd_sliceB ht hc hc0 hb h).mono fun τ v ⟨τs,hσ,hl,hτ⟩ hv=>by
    obtain ⟨xs,rfl⟩:=forall_map hσ
    subst hτ
    rw [List.length_map,hbc] at hl
    exact ⟨_,⟨⟨xs,hl⟩,rfl⟩,hv⟩
theorem rd_arg {H : Type} {enc : TypeId × Value → H} {v : Value} {d : DataW H} {ps : List MemPlace} (h : RdA P W t k A) (hd : DataW.Trod enc P W 0 (fun _ => true) true t v d ps) (hw : (d.weights P t).all (· ≤ reachBytes) = true)
    (hv : match k with | none=>v.cells = #[v] | some _=>∃ cs,v = .agg cs) : ∃ τ,A τ ∧ Shaped k v ∧ τ.t v (G0of W):=by
  obtain ⟨fuel,hf⟩:=hd
  obtain ⟨u,τ,h1,h2,h3,h4⟩:=h H enc fuel _ _ hf hw
  have : u = v:=by
    cases k with
    | none =>
      have h5 : u.cells = #[u]:=h3.1
      rw [h5,hv] at h2
      simpa using h2
    | some n =>
      obtain ⟨cs,rfl⟩:=hv
      obtain ⟨cs',rfl,_⟩:=h3
      have : cs'.toList = cs.toList:=h2
      rw [Array.toList_inj.1 this]
  subst this
  exact ⟨τ,h1,h3,h4⟩
end
end Go.Proofs.Ytjphllpnhjemjaa
