import Derived.ChangeArms
import Derived.SizedLaws
import Derived.WideShapes
import Derived.Test.YtnjbcjmkkejfpaaGreatDoorQh
set_option linter.unusedVariables false
set_option linter.unusedSimpArgs false
set_option linter.unusedVariables false
set_option linter.unusedSimpArgs false
set_option maxHeartbeats 4000000
set_option maxRecDepth 100000
set_option synthInstance.maxSize 100000
set_option synthInstance.maxHeartbeats 400000
namespace Go.Proofs.YtnjbcjmkkejfpaaGreatDoor
open Go.RowKit (Below)
attribute [local irreducible] Go.Code.wp Go.wpList Go.bodyPost
private theorem gS_ {W0 : World} {G0 : Gh} {N : Nat} {L : List (Nat × MT)} {B : List BX} {a : Act} {w : World} {G : Gh} {q : Prop} (h : St W0 G0 N L B a w G → q) : St W0 G0 N L B a w G → q:=h
private theorem gL_ {p : Prop} {P : Program} {arr : Array Oper} {Q : Exit → Act → World → Prop} {l : List Oper} {a : Act} {w : World} (h : p → wpList P arr Q l a w) : p → wpList P arr Q l a w:=h
private theorem gC_ {p : Prop} {P : Program} {c : Code} {Q : Exit → Act → World → Prop} {a : Act} {w : World} (h : p → c.wp P Q a w) : p → c.wp P Q a w:=h
private theorem mixedOrders : Tryz.prog.follows .mixedOrders = true:=by kernel_rfl
theorem gd1 {s : Bool} {p : Prop} [Decidable p] (h : (!true || !s || decide p) = false) : ¬ p:=fun e=>by rw [decide_eq_true e] at h;simp at h
theorem short1 {s1 : Bool} (h : s1 = true) : (!true || !s1) = false:=by cases s1 <;> simp_all
theorem long1_0 {s1 : Bool} (h : s1 = false) : (!true || !s1) = true:=by cases s1 <;> simp_all
theorem gi1_0 {s1 : Bool} (h : s1 = false) (g : (!true || !s1) = false) : False:=by cases s1 <;> simp_all
theorem long1_1 {s1 A1 : Bool} (h : s1 = false) : ((!true || !s1) || A1) = true:=by cases s1 <;> simp_all
theorem gi1_1 {s1 A1 : Bool} (h : s1 = false) (g : ((!true || !s1) || A1) = false) : False:=by cases s1 <;> simp_all
theorem long1_2 {s1 A1 A2 : Bool} (h : s1 = false) : (((!true || !s1) || A1) || A2) = true:=by cases s1 <;> simp_all
theorem gi1_2 {s1 A1 A2 : Bool} (h : s1 = false) (g : (((!true || !s1) || A1) || A2) = false) : False:=by cases s1 <;> simp_all
theorem long1_3 {s1 A1 A2 A3 : Bool} (h : s1 = false) : ((((!true || !s1) || A1) || A2) || A3) = true:=by cases s1 <;> simp_all
theorem gi1_3 {s1 A1 A2 A3 : Bool} (h : s1 = false) (g : ((((!true || !s1) || A1) || A2) || A3) = false) : False:=by cases s1 <;> simp_all
theorem long1_4 {s1 A1 A2 A3 A4 : Bool} (h : s1 = false) : (((((!true || !s1) || A1) || A2) || A3) || A4) = true:=by cases s1 <;> simp_all
theorem gi1_4 {s1 A1 A2 A3 A4 : Bool} (h : s1 = false) (g : (((((!true || !s1) || A1) || A2) || A3) || A4) = false) : False:=by cases s1 <;> simp_all
theorem long1_5 {s1 A1 A2 A3 A4 A5 : Bool} (h : s1 = false) : ((((((!true || !s1) || A1) || A2) || A3) || A4) || A5) = true:=by cases s1 <;> simp_all
theorem gi1_5 {s1 A1 A2 A3 A4 A5 : Bool} (h : s1 = false) (g : ((((((!true || !s1) || A1) || A2) || A3) || A4) || A5) = false) : False:=by cases s1 <;> simp_all
theorem long1_6 {s1 A1 A2 A3 A4 A5 A6 : Bool} (h : s1 = false) : (((((((!true || !s1) || A1) || A2) || A3) || A4) || A5) || A6) = true:=by cases s1 <;> simp_all
theorem gi1_6 {s1 A1 A2 A3 A4 A5 A6 : Bool} (h : s1 = false) (g : (((((((!true || !s1) || A1) || A2) || A3) || A4) || A5) || A6) = false) : False:=by cases s1 <;> simp_all
theorem short2 {s1 s2 : Bool} (h : (s1 && s2) = true) : ((!true || !s1) || !s2) = false:=by cases s1 <;> cases s2 <;> simp_all
theorem long2_0 {s1 s2 : Bool} (h : (s1 && s2) = false) : ((!true || !s1) || !s2) = true:=by cases s1 <;> cases s2 <;> simp_all
theorem gi2_0 {s1 s2 : Bool} (h : (s1 && s2) = false) (g : ((!true || !s1) || !s2) = false) : False:=by cases s1 <;> cases s2 <;> simp_all
theorem long2_1 {s1 s2 A1 : Bool} (h : (s1 && s2) = false) : (((!true || !s1) || !s2) || A1) = true:=by cases s1 <;> cases s2 <;> simp_all
theorem gi2_1 {s1 s2 A1 : Bool} (h : (s1 && s2) = false) (g : (((!true || !s1) || !s2) || A1) = false) : False:=by cases s1 <;> cases s2 <;> simp_all
theorem long2_2 {s1 s2 A1 A2 : Bool} (h : (s1 && s2) = false) : ((((!true || !s1) || !s2) || A1) || A2) = true:=by cases s1 <;> cases s2 <;> simp_all
theorem gi2_2 {s1 s2 A1 A2 : Bool} (h : (s1 && s2) = false) (g : ((((!true || !s1) || !s2) || A1) || A2) = false) : False:=by cases s1 <;> cases s2 <;> simp_all
theorem long2_3 {s1 s2 A1 A2 A3 : Bool} (h : (s1 && s2) = false) : (((((!true || !s1) || !s2) || A1) || A2) || A3) = true:=by cases s1 <;> cases s2 <;> simp_all
theorem gi2_3 {s1 s2 A1 A2 A3 : Bool} (h : (s1 && s2) = false) (g : (((((!true || !s1) || !s2) || A1) || A2) || A3) = false) : False:=by cases s1 <;> cases s2 <;> simp_all
theorem long2_4 {s1 s2 A1 A2 A3 A4 : Bool} (h : (s1 && s2) = false) : ((((((!true || !s1) || !s2) || A1) || A2) || A3) || A4) = true:=by cases s1 <;> cases s2 <;> simp_all
theorem gi2_4 {s1 s2 A1 A2 A3 A4 : Bool} (h : (s1 && s2) = false) (g : ((((((!true || !s1) || !s2) || A1) || A2) || A3) || A4) = false) : False:=by cases s1 <;> cases s2 <;> simp_all
theorem long2_5 {s1 s2 A1 A2 A3 A4 A5 : Bool} (h : (s1 && s2) = false) : (((((((!true || !s1) || !s2) || A1) || A2) || A3) || A4) || A5) = true:=by cases s1 <;> cases s2 <;> simp_all
theorem gi2_5 {s1 s2 A1 A2 A3 A4 A5 : Bool} (h : (s1 && s2) = false) (g : (((((((!true || !s1) || !s2) || A1) || A2) || A3) || A4) || A5) = false) : False:=by cases s1 <;> cases s2 <;> simp_all
theorem long2_6 {s1 s2 A1 A2 A3 A4 A5 A6 : Bool} (h : (s1 && s2) = false) : ((((((((!true || !s1) || !s2) || A1) || A2) || A3) || A4) || A5) || A6) = true:=by cases s1 <;> cases s2 <;> simp_all
theorem gi2_6 {s1 s2 A1 A2 A3 A4 A5 A6 : Bool} (h : (s1 && s2) = false) (g : ((((((((!true || !s1) || !s2) || A1) || A2) || A3) || A4) || A5) || A6) = false) : False:=by cases s1 <;> cases s2 <;> simp_all
theorem short3 {s1 s2 s3 : Bool} (h : ((s1 && s2) && s3) = true) : (((!true || !s1) || !s2) || !s3) = false:=by cases s1 <;> cases s2 <;> cases s3 <;> simp_all
theorem long3_0 {s1 s2 s3 : Bool} (h : ((s1 && s2) && s3) = false) : (((!true || !s1) || !s2) || !s3) = true:=by cases s1 <;> cases s2 <;> cases s3 <;> simp_all
theorem gi3_0 {s1 s2 s3 : Bool} (h : ((s1 && s2) && s3) = false) (g : (((!true || !s1) || !s2) || !s3) = false) : False:=by cases s1 <;> cases s2 <;> cases s3 <;> simp_all
theorem long3_1 {s1 s2 s3 A1 : Bool} (h : ((s1 && s2) && s3) = false) : ((((!true || !s1) || !s2) || !s3) || A1) = true:=by cases s1 <;> cases s2 <;> cases s3 <;> simp_all
theorem gi3_1 {s1 s2 s3 A1 : Bool} (h : ((s1 && s2) && s3) = false) (g : ((((!true || !s1) || !s2) || !s3) || A1) = false) : False:=by cases s1 <;> cases s2 <;> cases s3 <;> simp_all
theorem long3_2 {s1 s2 s3 A1 A2 : Bool} (h : ((s1 && s2) && s3) = false) : (((((!true || !s1) || !s2) || !s3) || A1) || A2) = true:=by cases s1 <;> cases s2 <;> cases s3 <;> simp_all
theorem gi3_2 {s1 s2 s3 A1 A2 : Bool} (h : ((s1 && s2) && s3) = false) (g : (((((!true || !s1) || !s2) || !s3) || A1) || A2) = false) : False:=by cases s1 <;> cases s2 <;> cases s3 <;> simp_all
theorem long3_3 {s1 s2 s3 A1 A2 A3 : Bool} (h : ((s1 && s2) && s3) = false) : ((((((!true || !s1) || !s2) || !s3) || A1) || A2) || A3) = true:=by cases s1 <;> cases s2 <;> cases s3 <;> simp_all
theorem gi3_3 {s1 s2 s3 A1 A2 A3 : Bool} (h : ((s1 && s2) && s3) = false) (g : ((((((!true || !s1) || !s2) || !s3) || A1) || A2) || A3) = false) : False:=by cases s1 <;> cases s2 <;> cases s3 <;> simp_all
theorem long3_4 {s1 s2 s3 A1 A2 A3 A4 : Bool} (h : ((s1 && s2) && s3) = false) : (((((((!true || !s1) || !s2) || !s3) || A1) || A2) || A3) || A4) = true:=by cases s1 <;> cases s2 <;> cases s3 <;> simp_all
theorem gi3_4 {s1 s2 s3 A1 A2 A3 A4 : Bool} (h : ((s1 && s2) && s3) = false) (g : (((((((!true || !s1) || !s2) || !s3) || A1) || A2) || A3) || A4) = false) : False:=by cases s1 <;> cases s2 <;> cases s3 <;> simp_all
theorem long3_5 {s1 s2 s3 A1 A2 A3 A4 A5 : Bool} (h : ((s1 && s2) && s3) = false) : ((((((((!true || !s1) || !s2) || !s3) || A1) || A2) || A3) || A4) || A5) = true:=by cases s1 <;> cases s2 <;> cases s3 <;> simp_all
theorem gi3_5 {s1 s2 s3 A1 A2 A3 A4 A5 : Bool} (h : ((s1 && s2) && s3) = false) (g : ((((((((!true || !s1) || !s2) || !s3) || A1) || A2) || A3) || A4) || A5) = false) : False:=by cases s1 <;> cases s2 <;> cases s3 <;> simp_all
theorem long3_6 {s1 s2 s3 A1 A2 A3 A4 A5 A6 : Bool} (h : ((s1 && s2) && s3) = false) : (((((((((!true || !s1) || !s2) || !s3) || A1) || A2) || A3) || A4) || A5) || A6) = true:=by cases s1 <;> cases s2 <;> cases s3 <;> simp_all
theorem gi3_6 {s1 s2 s3 A1 A2 A3 A4 A5 A6 : Bool} (h : ((s1 && s2) && s3) = false) (g : (((((((((!true || !s1) || !s2) || !s3) || A1) || A2) || A3) || A4) || A5) || A6) = false) : False:=by cases s1 <;> cases s2 <;> cases s3 <;> simp_all
attribute [local irreducible] barC trnC btC dirC dirS dsc ouE ouR ouL ouX ouY ouMX ouMY oaE oaR oaL
theorem shO {A B : Bool} (h : (A && B) = true) : ((!true || !A) || !B) = false:=by cases A <;> cases B <;> simp_all
theorem loO {A B : Bool} (h : (A && B) = false) : ((!true || !A) || !B) = true:=by cases A <;> cases B <;> simp_all
section
variable {a b c d t : FR} {h : Bool}
theorem ouL_t (g a b c : FR) (h : Bool) (t : Rat) : (ouL g a b c h t).length ≤ 2:=by
  unfold ouL;split
  · split
    · exact Nat.le_succ 1
    · exact Nat.le_refl 2
  · exact Nat.zero_le _
theorem oa_n (h1 : ¬ btC [a,b,c,d] h t = 0) : oaE a b c d h t = btC [a,b,c,d] h t ∧ oaR a b c d h t = [] ∧ oaL a b c d h t = []:=by
  unfold oaE oaR oaL;rw [if_neg h1,if_neg h1,if_neg h1];exact ⟨rfl,rfl,rfl⟩
theorem oa_y (h1 : btC [a,b,c,d] h t = 0) : oaE a b c d h t = ouE a b c d h t.val ∧ oaR a b c d h t = ouR a b c d h t.val ∧ oaL a b c d h t = ouL a b c d h t.val:=by
  unfold oaE oaR oaL;rw [if_pos h1,if_pos h1,if_pos h1];exact ⟨rfl,rfl,rfl⟩
theorem oa_b (h1 : ¬ barC [a,b,c,d] = 0) : oaE a b c d h t = barC [a,b,c,d] ∧ oaR a b c d h t = [] ∧ oaL a b c d h t = []:=by
  have e:=bt_3 (h:=h) (t:=t) h1
  rw [e] at h1 ⊢
  exact oa_n h1
theorem oa_2 (h1 : barC [a,b,c,d] = 0) (h2 : trnF h t = false) : oaE a b c d h t = 2 ∧ oaR a b c d h t = [] ∧ oaL a b c d h t = []:=by
  have e : btC [a,b,c,d] h t = 2:=by rw [← bt_t h1];unfold trnC;rw [h2];rfl
  have:=oa_n (a:=a) (b:=b) (c:=c) (d:=d) (h:=h) (t:=t) (by rw [e];decide)
  rw [e] at this;exact this
end
instance gTO5_3_2 : GcT 3 2 false 2 [3,4,12,13,14,15,16,17,18,19,20,21,22,23]:=⟨⟩
instance gTO5_3_3 : GcT 3 3 false 4 [12,13,14,15,16,17,18,19,20,21,22,23]:=⟨⟩
instance gTO5_3_4 : GcT 3 4 false 25 [26,27,28,29,30,31]:=⟨⟩
instance gTO5_3_7 : GcT 3 7 false 32 [33,34,35,36,37,38,39,40]:=⟨⟩
instance gTO5_3_10 : GcT 3 10 false 2 [3,41,42,58,59,60,61,62,63,64]:=⟨⟩
instance gTO5_3_11 : GcT 3 11 false 5 [6,7,8,9,10,65,66,67,68,69,70,71,72,73,74,75,76,77,78,79,80,81]:=⟨⟩
instance gTO5_3_12 : GcT 3 12 false 5 [7,8,9,65,66,67,68,69,70,71,72,73,74,75,76,77,78,79,80,81]:=⟨⟩
instance gTO5_3_16 : GcT 3 16 false 11 [85,86,87,88,89,90,91,92,93,94,95,96,97,98,99,100,101,102,103,104,105,106,107,108,109,110,111,112,113,114,115,116,117,118,119,120,121,122,123,124,125,126,127,128,129]:=⟨⟩
theorem shortOutputEndsB {rg ra rb rc t : FR} {h : Bool} : ConT Tryz.prog 3 [QUD 64 rg ra rb rc,TRN 64 t h] (([rg,ra,rb,rc].all shortR && shortR t) = true ∧ (¬ barC [rg,ra,rb,rc] = 0)) (BT true):=.o2 fun hok ht h1 h2 hp=>by
  refine St.enter (N:=131) Tryz.func3 rfl rfl rfl hok (enter2 h1 h2) fun a=>?_
  refine W.tab ht ?_
  have e0:=shO hp.1
  have e1:=hp.2
  have e2:=(oa_b (h:=h) (t:=t) e1).1
  have e3:=(oa_b (h:=h) (t:=t) e1).2.1
  have e4:=(oa_b (h:=h) (t:=t) e1).2.2
  repeat' (first|((with_reducible refine gS_ ?_);first|((with_reducible refine gL_ ?_);first|refine W.run ?_ fun a w G=>?_|refine W.mv fun a w G=>?_|refine W.asg fun a w G=>?_|refine W.bx fun b a w G=>?_|(refine W.nn hK ?_;clear hK K)|refine W.nl ?_|refine W.al fun b a w G=>?_|refine W.st fun w=>?_|refine W.stp fun w=>?_|refine W.ste ?_ fun w=>?_)|((with_reducible refine gC_ ?_);first|with_reducible refine W.cbt (by first|assumption|(simp [e0,e1,e2,e3,e4];done)|fail) ?_|with_reducible refine W.cbf (by first|assumption|(simp [e0,e1,e2,e3,e4];done)|fail) ?_|with_reducible refine W.gcc 3 ?_|with_reducible refine W.gcd 3 ?_|refine W.reg fun K hK=>?_|refine W.reg1 ?_|refine W.sq fun K hK=>?_|refine W.ds ?_ (fun β a w G hu=>W.fin ?_ hu) mixedOrders (by kernel_rfl)|refine W.sk ?_|refine W.cd (fun hc=>?_) (fun hc=>?_)|refine W.cb (fun hc=>?_) (fun hc=>?_)|refine W.bl ?_|refine W.ex ?_|refine W.rt ?_)|((with_reducible refine W.kn hK ?_);clear hK K)|(with_reducible first|refine W.bn ?_|refine W.xt ?_|refine W.xb ?_|refine W.xo ?_|refine W.tr ?_|refine W.br ?_)|refine W.rt1 rfl ?_|refine W.rt2 rfl ?_ ?_|refine W.rt3 rfl ?_ ?_ ?_)|clear hK K|clear hu|exact True.intro|exact Nat.le_trans (by clear hp;omega) hp|exact Nat.le_trans (by clear hp;omega) hp.1|exact Nat.le_trans (by clear hp;omega) hp.2|(clear hp;omega)|apply And.intro|refine GI.i fun _=>?_|with_reducible rfl|decide|(simp only [List.length_cons,List.length_nil];omega))
  all_goals first
    | omega
    | (simp [e0,e1,e2,e3,e4];done)
    | exact e1
    | rfl
    | (rw [e4] at hc;have h2l:=ouL_t rg ra rb rc h t.val;omega)
    | skip
theorem shortOutputEndsC {rg ra rb rc t : FR} {h : Bool} : ConT Tryz.prog 3 [QUD 64 rg ra rb rc,TRN 64 t h] (([rg,ra,rb,rc].all shortR && shortR t) = true ∧ (barC [rg,ra,rb,rc] = 0 ∧ trnF h t = false)) (BT true):=.o2 fun hok ht h1 h2 hp=>by
  refine St.enter (N:=131) Tryz.func3 rfl rfl rfl hok (enter2 h1 h2) fun a=>?_
  refine W.tab ht ?_
  have e0:=shO hp.1
  have e1:=hp.2.1
  have e5:=hp.2.2
  have e2:=(oa_2 e1 e5).1
  have e3:=(oa_2 e1 e5).2.1
  have e4:=(oa_2 e1 e5).2.2
  repeat' (first|((with_reducible refine gS_ ?_);first|((with_reducible refine gL_ ?_);first|refine W.run ?_ fun a w G=>?_|refine W.mv fun a w G=>?_|refine W.asg fun a w G=>?_|refine W.bx fun b a w G=>?_|(refine W.nn hK ?_;clear hK K)|refine W.nl ?_|refine W.al fun b a w G=>?_|refine W.st fun w=>?_|refine W.stp fun w=>?_|refine W.ste ?_ fun w=>?_)|((with_reducible refine gC_ ?_);first|with_reducible refine W.cbt (by first|assumption|(simp [e0,e1,e2,e3,e4,e5];done)|fail) ?_|with_reducible refine W.cbf (by first|assumption|(simp [e0,e1,e2,e3,e4,e5];done)|fail) ?_|with_reducible refine W.gcc 3 ?_|with_reducible refine W.gcd 3 ?_|refine W.reg fun K hK=>?_|refine W.reg1 ?_|refine W.sq fun K hK=>?_|refine W.ds ?_ (fun β a w G hu=>W.fin ?_ hu) mixedOrders (by kernel_rfl)|refine W.sk ?_|refine W.cd (fun hc=>?_) (fun hc=>?_)|refine W.cb (fun hc=>?_) (fun hc=>?_)|refine W.bl ?_|refine W.ex ?_|refine W.rt ?_)|((with_reducible refine W.kn hK ?_);clear hK K)|(with_reducible first|refine W.bn ?_|refine W.xt ?_|refine W.xb ?_|refine W.xo ?_|refine W.tr ?_|refine W.br ?_)|refine W.rt1 rfl ?_|refine W.rt2 rfl ?_ ?_|refine W.rt3 rfl ?_ ?_ ?_)|clear hK K|clear hu|exact True.intro|exact Nat.le_trans (by clear hp;omega) hp|exact Nat.le_trans (by clear hp;omega) hp.1|exact Nat.le_trans (by clear hp;omega) hp.2|(clear hp;omega)|apply And.intro|refine GI.i fun _=>?_|with_reducible rfl|decide|(simp only [List.length_cons,List.length_nil];omega))
  all_goals first
    | omega
    | (simp [e0,e1,e2,e3,e4,e5];done)
    | exact e1
    | rfl
    | (rw [e4] at hc;have h2l:=ouL_t rg ra rb rc h t.val;omega)
    | skip
theorem shortOutputEndsD {rg ra rb rc t : FR} {h : Bool} : ConT Tryz.prog 3 [QUD 64 rg ra rb rc,TRN 64 t h] (([rg,ra,rb,rc].all shortR && shortR t) = true ∧ (barC [rg,ra,rb,rc] = 0 ∧ trnF h t = true)) (BT true):=.o2 fun hok ht h1 h2 hp=>by
  refine St.enter (N:=131) Tryz.func3 rfl rfl rfl hok (enter2 h1 h2) fun a=>?_
  refine W.tab ht ?_
  have e0:=shO hp.1
  have e1:=hp.2.1
  have e5:=hp.2.2
  have e2:=(oa_y (bt_0 e1 e5)).1
  have e3:=(oa_y (bt_0 e1 e5)).2.1
  have e4:=(oa_y (bt_0 e1 e5)).2.2
  repeat' (first|((with_reducible refine gS_ ?_);first|((with_reducible refine gL_ ?_);first|refine W.run ?_ fun a w G=>?_|refine W.mv fun a w G=>?_|refine W.asg fun a w G=>?_|refine W.bx fun b a w G=>?_|(refine W.nn hK ?_;clear hK K)|refine W.nl ?_|refine W.al fun b a w G=>?_|refine W.st fun w=>?_|refine W.stp fun w=>?_|refine W.ste ?_ fun w=>?_)|((with_reducible refine gC_ ?_);first|with_reducible refine W.cbt (by first|assumption|(simp [e0,e1,e2,e3,e4,e5];done)|fail) ?_|with_reducible refine W.cbf (by first|assumption|(simp [e0,e1,e2,e3,e4,e5];done)|fail) ?_|with_reducible refine W.gcc 3 ?_|with_reducible refine W.gcd 3 ?_|refine W.reg fun K hK=>?_|refine W.reg1 ?_|refine W.sq fun K hK=>?_|refine W.ds ?_ (fun β a w G hu=>W.fin ?_ hu) mixedOrders (by kernel_rfl)|refine W.sk ?_|refine W.cd (fun hc=>?_) (fun hc=>?_)|refine W.cb (fun hc=>?_) (fun hc=>?_)|refine W.bl ?_|refine W.ex ?_|refine W.rt ?_)|((with_reducible refine W.kn hK ?_);clear hK K)|(with_reducible first|refine W.bn ?_|refine W.xt ?_|refine W.xb ?_|refine W.xo ?_|refine W.tr ?_|refine W.br ?_)|refine W.rt1 rfl ?_|refine W.rt2 rfl ?_ ?_|refine W.rt3 rfl ?_ ?_ ?_)|refine W.lp 85 (α:=Nat) (fun j=>(ouL rg ra rb rc h t.val).length - j) (fun j=>j ≤ (ouL rg ra rb rc h t.val).length) [4,11,84,85,86,87,88,89,90,91,92,93,94,95,96,97,98,99,100,101,102,103,104,105,106,107,108,109,110,111,112,113,114,115,116,117,118,119,120,121,122,123,124,125,126,127,128,129,130] (fun j=>[(84,NT j)]) (fun j=>[]) (0) ?_ ?_ ?_ fun j hj a w G=>?_|refine W.ag (x:=j) (j+1) ?_ ?_ ?_ ?_|clear hK K|clear hu|exact True.intro|exact Nat.le_trans (by clear hp;omega) hp|exact Nat.le_trans (by clear hp;omega) hp.1|exact Nat.le_trans (by clear hp;omega) hp.2|(clear hp;omega)|apply And.intro|refine GI.i fun _=>?_|with_reducible rfl|decide|(simp only [List.length_cons,List.length_nil];omega))
  all_goals first
    | omega
    | (simp [e0,e1,e2,e3,e4,e5];done)
    | exact e1
    | rfl
    | (rw [e4] at hc;have h2l:=ouL_t rg ra rb rc h t.val;omega)
    | skip
theorem longOutputEnds {rg ra rb rc t : FR} {h : Bool} : ConT Tryz.prog 3 [PTS [(some 3,RX rg),(some 3,RX ra),(some 3,RX rb),(some 3,RX rc)],PTS [(some 3,RX t),(none,BT h)]] (([rg,ra,rb,rc].all shortR && shortR t) = false) (BT true):=.o2 fun hok ht h1 h2 hp=>by
  refine St.enter (N:=131) Tryz.func3 rfl rfl rfl hok (enter2 h1 h2) fun a=>?_
  refine W.tab ht ?_
  repeat' (first|refine W.cbt (long2_0 hp) ?_|((with_reducible refine gS_ ?_);first|((with_reducible refine gL_ ?_);first|refine W.run ?_ fun a w G=>?_|refine W.mv fun a w G=>?_|refine W.asg fun a w G=>?_|refine W.bx fun b a w G=>?_|(refine W.nn hK ?_;clear hK K)|refine W.nl ?_|refine W.al fun b a w G=>?_|refine W.st fun w=>?_|refine W.stp fun w=>?_|refine W.ste ?_ fun w=>?_)|((with_reducible refine gC_ ?_);first|refine W.reg fun K hK=>?_|refine W.reg1 ?_|refine W.sq fun K hK=>?_|refine W.ds ?_ (fun β a w G hu=>W.fin ?_ hu) mixedOrders (by kernel_rfl)|refine W.sk ?_|refine W.cd (fun hc=>?_) (fun hc=>?_)|refine W.cb (fun hc=>?_) (fun hc=>?_)|refine W.bl ?_|refine W.ex ?_|refine W.rt ?_)|((with_reducible refine W.kn hK ?_);clear hK K)|(with_reducible first|refine W.bn ?_|refine W.xt ?_|refine W.xb ?_|refine W.xo ?_|refine W.tr ?_|refine W.br ?_)|refine W.rt1 rfl ?_|refine W.rt2 rfl ?_ ?_|refine W.rt3 rfl ?_ ?_ ?_)|clear hK K|clear hu|exact True.intro|exact Nat.le_trans (by clear hp;omega) hp|exact Nat.le_trans (by clear hp;omega) hp.1|exact Nat.le_trans (by clear hp;omega) hp.2|(clear hp;omega)|apply And.intro|refine GI.i fun _=>?_|with_reducible rfl|decide|(simp only [List.length_cons,List.length_nil];omega))
  all_goals skip
theorem lawOutputEnds {rg ra rb rc t : FR} {h : Bool} {w : World} {G : Gh} {v1 v2 : Value} (hok : Gok w G) (ht : TAB G) (h1 : (PTS [(some 3,RX rg),(some 3,RX ra),(some 3,RX rb),(some 3,RX rc)]).t v1 G) (h2 : (PTS [(some 3,RX t),(none,BT h)]).t v2 G) : Calls Tryz.prog 3 #[v1,v2] w (Ret w G (BT true)):=by
  cases hs : ([rg,ra,rb,rc].all shortR && shortR t) with
  | true =>
    have hq:=hs
    (try simp only [shortF,List.all_cons,List.all_nil,Bool.and_true,Bool.and_eq_true] at hq)
    have hcs : (¬ barC [rg,ra,rb,rc] = 0) ∨ (barC [rg,ra,rb,rc] = 0 ∧ trnF h t = false) ∨ (barC [rg,ra,rb,rc] = 0 ∧ trnF h t = true):=by
      by_cases e : barC [rg,ra,rb,rc] = 0
      · cases e2 : trnF h t with
        | false=>exact .inr (.inl ⟨e,rfl⟩)
        | true=>exact .inr (.inr ⟨e,rfl⟩)
      · exact .inl e
    rcases hcs with hcs | hcs | hcs
    · exact shortOutputEndsB.c2 hok ht (NS.h (τ':=QUD 64 rg ra rb rc) (by (try simp only [and_true,true_and]);grind) h1) (NS.h (τ':=TRN 64 t h) (by (try simp only [and_true,true_and]);grind) h2) ⟨hs,hcs⟩
    · exact shortOutputEndsC.c2 hok ht (NS.h (τ':=QUD 64 rg ra rb rc) (by (try simp only [and_true,true_and]);grind) h1) (NS.h (τ':=TRN 64 t h) (by (try simp only [and_true,true_and]);grind) h2) ⟨hs,hcs⟩
    · exact shortOutputEndsD.c2 hok ht (NS.h (τ':=QUD 64 rg ra rb rc) (by (try simp only [and_true,true_and]);grind) h1) (NS.h (τ':=TRN 64 t h) (by (try simp only [and_true,true_and]);grind) h2) ⟨hs,hcs⟩
  | false=>exact longOutputEnds.c2 hok ht h1 h2 hs
end Go.Proofs.YtnjbcjmkkejfpaaGreatDoor
namespace Go.Proofs.YtnjbcjmkkejfpaaGreatDoor
open Go.RowKit (Below)
theorem md4_lt (k : Int) : md4 k < 4:=by
  have h : md4 k = (k % 4).toNat:=rfl
  omega
theorem tmod4 (k : Int) : k.tmod 4 = k % 4 ∨ (k.tmod 4 = k % 4 - 4 ∧ k % 4 ≠ 0):=by
  rw [Int.tmod_eq_emod]
  split
  · left;omega
  · rename_i h
    right
    have h2 : ¬ (4 : Int) ∣ k:=fun h3=>h (.inr h3)
    refine ⟨by simp,fun h3=>h2 (Int.dvd_of_emod_eq_zero h3)⟩
theorem tmod4_bd (k : Int) : -9223372036854775808 ≤ k.tmod 4 + 4 ∧ k.tmod 4 + 4 ≤ 9223372036854775807:=by
  have:=tmod4 k;omega
theorem md4_eq (k : Int) : (k.tmod 4 + 4).tmod 4 = ((md4 k : Nat) : Int):=by
  have h:=tmod4 k
  have h1 : (k.tmod 4 + 4).tmod 4 = (k.tmod 4 + 4) % 4:=Int.tmod_eq_emod_of_nonneg (by omega)
  rw [h1]
  have h2 : ((md4 k : Nat) : Int) = k % 4:=by unfold md4;exact Int.toNat_of_nonneg (Int.emod_nonneg k (by decide))
  rw [h2]
  omega
def invL (l : List FR) (m n : Nat) : List FR:=(List.range n).map fun j=>FR.of ((l.getD ((j + m) % 4) default).val)
theorem inv_next {l : List FR} {m n : Nat} : invL l m n ++ [FR.of ((l.getD ((n + m) % 4) default).val)] = invL l m (n + 1):=by unfold invL;rw [List.range_succ,List.map_append];rfl
theorem inv_len {l : List FR} {m n : Nat} : (invL l m n).length = n:=by unfold invL;simp
theorem inv_at {l : List FR} {k : Int} {j : Nat} (h : chkF l = 0) (hj : j < 4) : (invL l (md4 k) 4).getD j default = invF l k j:=by
  unfold invF invL;rw [if_pos h]
  rw [List.getD_eq_getElem?_getD,List.getElem?_map,List.getElem?_range hj];rfl
theorem inv_bad {l : List FR} {k : Int} {j : Nat} (h : chkF l ≠ 0) : default = invF l k j:=by unfold invF;rw [if_neg h]
end Go.Proofs.YtnjbcjmkkejfpaaGreatDoor
namespace Go.Proofs.YtnjbcjmkkejfpaaGreatDoor
theorem fr_self {r : FR} (hw : wfl r.p ∧ wfl r.q) (hok : r.ok = true) : FR.of r.val = r:=by
  obtain ⟨s,p,q⟩:=r
  have hw : wfl p ∧ wfl q:=hw
  have hok : qok s p q = true:=hok
  by_cases hp : p.length = 0
  · have e:=List.length_eq_zero_iff.1 hp
    subst e
    have h : qok s [] q = true:=hok
    have hv : FR.val ⟨s,[],q⟩ = 0:=qval_nil rfl
    unfold qok at h
    split at h
    · rename_i k
      obtain rfl:=k.2
      rw [hv]
      have : s = false:=by simpa using h
      subst this
      unfold FR.of dwords
      rw [if_pos rfl,show (0 : Rat).num.natAbs = 0 from rfl,words_zero];rfl
    · simp at h
  · obtain ⟨_,h3,h4,h5,h6⟩:=qval_parts hw hok hp
    have hp0 : val p ≠ 0:=fun e=>ne_of_len hp (val_eq_zero h3 e)
    have hne : FR.val ⟨s,p,q⟩ ≠ 0:=fun e=>by
      have h5' : (FR.val ⟨s,p,q⟩).num = sg s (val p):=h5
      rw [e] at h5'
      have:=congrArg Int.natAbs h5'
      rw [sg_abs] at this;exact hp0 this.symm
    have hs : decide (FR.val ⟨s,p,q⟩ < 0) = s:=by
      have h5' : (FR.val ⟨s,p,q⟩).num = sg s (val p):=h5
      have h7 : FR.val ⟨s,p,q⟩ < 0 ↔ (FR.val ⟨s,p,q⟩).num < 0:=by
        rw [← Rat.not_le,← Rat.num_nonneg];omega
      rw [Bool.eq_iff_iff,decide_eq_true_iff,h7,h5']
      cases s <;> simp [sg] <;> omega
    unfold FR.of dwords
    rw [if_neg hne,hs]
    have e1 : (FR.val ⟨s,p,q⟩).num.natAbs = val p:=(congrArg Int.natAbs h5).trans sg_abs
    have e2 : (FR.val ⟨s,p,q⟩).den = val q:=h6
    rw [e1,e2,words_val hw.1 h3,words_val hw.2 h4]
theorem FX.self {n : Nat} {r : FR} {v : Value} {G : Gh} (h : (FX n r).t v G) (hok : r.ok = true) : (FX n (FR.of r.val)).t v G:=FX.eq h (fr_self (QR.wf (FX.qr h)) hok).symm
theorem FX.inv {n : Nat} {ra rb rc rd : FR} {k : Int} {j : Nat} {v : Value} {G : Gh} (hck : chkF [ra,rb,rc,rd] = 0) (h : (FX n ([ra,rb,rc,rd].getD ((j + md4 k) % 4) default)).t v G) : (FX n (invF [ra,rb,rc,rd] k j)).t v G:=by
  have hp:=chk_pos hck
  unfold invF;rw [if_pos hck]
  refine FX.self h ?_
  have hlt : (j + md4 k) % 4 < [ra,rb,rc,rd].length:=Nat.mod_lt _ (by decide)
  have hm : [ra,rb,rc,rd].getD ((j + md4 k) % 4) default ∈ [ra,rb,rc,rd]:=by
    rw [List.getD_eq_getElem?_getD,List.getElem?_eq_getElem hlt];exact List.getElem_mem hlt
  have:=List.all_eq_true.1 hp _ hm
  unfold posR at this
  exact (Bool.and_eq_true_iff.1 this).1
section
variable {a b c d A B C D : Rat}
theorem sums_cmp (ha : 0 ≤ a) (hb : 0 ≤ b) (hc : 0 ≤ c) (hd : 0 ≤ d) (hA : (A = a ∧ B = b) ∨ (A = b ∧ B = a)) (hC : (C = c ∧ D = d) ∨ (C = d ∧ D = c)) : sumsF A B C D = compareF [a,b] [c,d]:=by
  rw [cmp4 ha hb hc hd]
  rcases hA with ⟨rfl,rfl⟩ | ⟨rfl,rfl⟩ <;> rcases hC with ⟨rfl,rfl⟩ | ⟨rfl,rfl⟩
  · rw [sums_four ha hb hc hd]
  · rw [sums_four ha hb hd hc,RR.add_comm (rt C)]
  · rw [sums_four hb ha hc hd,RR.add_comm (rt A)]
  · rw [sums_four hb ha hd hc,RR.add_comm (rt A),RR.add_comm (rt C)]
theorem mm_t (h : cmpQ a b < 0) : maxQ a b = b ∧ minQ a b = a:=by
  have:=cmpQ_lt0.1 h
  exact ⟨max_le (by grind),min_le (by grind)⟩
theorem mm_f (h : ¬ cmpQ a b < 0) : maxQ a b = a ∧ minQ a b = b:=by
  rw [cmpQ_lt0] at h
  unfold maxQ minQ
  refine ⟨if_pos (Rat.not_lt.1 h),?_⟩
  split <;> grind
theorem sums_cmp2 (ha : 0 ≤ a) (hb : 0 ≤ b) (hc : 0 ≤ c) (hd : 0 ≤ d) (hA : maxQ a b = A ∧ minQ a b = B) (hC : maxQ c d = C ∧ minQ c d = D) : sumsF A D B C = compareF [maxQ a b,minQ c d] [minQ a b,maxQ c d]:=by
  have n1 : 0 ≤ maxQ a b:=by unfold maxQ;split <;> assumption
  have n2 : 0 ≤ minQ a b:=by unfold minQ;split <;> assumption
  have n3 : 0 ≤ maxQ c d:=by unfold maxQ;split <;> assumption
  have n4 : 0 ≤ minQ c d:=by unfold minQ;split <;> assumption
  rw [← hA.1,← hA.2,← hC.1,← hC.2,sums_four n1 n4 n2 n3,cmp4 n1 n4 n2 n3]
end
theorem rrot_t {l : List FR} {k : Nat} (c : compareF [(l.getD k default).val, (l.getD ((k + 3) % 4) default).val] [(l.getD ((k + 1) % 4) default).val, (l.getD ((k + 2) % 4) default).val] ≤ 0) :
    decide (compareF [maxQ (l.getD k default).val (l.getD ((k + 3) % 4) default).val,minQ (l.getD ((k + 1) % 4) default).val (l.getD ((k + 2) % 4) default).val] [minQ (l.getD k default).val (l.getD ((k + 3) % 4) default).val,maxQ (l.getD ((k + 1) % 4) default).val (l.getD ((k + 2) % 4) default).val] ≥ 0) = rotL l k:=by
  unfold rotL;rw [decide_eq_true c,Bool.true_and]
theorem rrot_f {l : List FR} {k : Nat} (c : ¬ compareF [(l.getD k default).val,(l.getD ((k + 3) % 4) default).val] [(l.getD ((k + 1) % 4) default).val,(l.getD ((k + 2) % 4) default).val] ≤ 0) : false = rotL l k:=by
  unfold rotL;rw [decide_eq_false c,Bool.false_and]
theorem rotF_in2 {l : List FR} {k : Int} (h : chkF l = 0) (hk : 0 ≤ k ∧ k ≤ 3) : rotF l k = rotL l k.toNat:=rotF_ok (by omega) hk
end Go.Proofs.YtnjbcjmkkejfpaaGreatDoor
set_option linter.unusedVariables false
set_option linter.unusedSimpArgs false
set_option maxHeartbeats 4000000
set_option maxRecDepth 100000
set_option synthInstance.maxSize 100000
set_option synthInstance.maxHeartbeats 400000
namespace Go.Proofs.YtnjbcjmkkejfpaaGreatDoor
open Go.RowKit (Below)
attribute [local irreducible] Go.Code.wp Go.wpList Go.bodyPost
attribute [local irreducible] barC trnC btC dirC dirS dsc ouE ouR ouL ouX ouY ouMX ouMY oaE oaR oaL okV quF
section
variable {g a b c t : FR} {h : Bool}
theorem quF_0 (hb : barC [g,a,b,c] = 0) : quF [g,a,b,c] 0 = FR.of (g.val * g.val) ∧ quF [g,a,b,c] 1 = FR.of (a.val * a.val) ∧ quF [g,a,b,c] 2 = FR.of b.val ∧ quF [g,a,b,c] 3 = FR.of c.val:=by
  unfold quF;simp only [if_pos hb];exact ⟨rfl,rfl,rfl,rfl⟩
theorem fr_00 : FR.of 0 = (default : FR):=by
  have e1 : (FR.of 0).p = []:=words_zero
  have e2 : (FR.of 0).q = []:=by show dwords 0 = [];simp [dwords]
  have e3 : (FR.of 0).s = false:=by show decide ((0 : Rat) < 0) = false;decide
  show FR.mk (FR.of 0).s (FR.of 0).p (FR.of 0).q = FR.mk false [] []
  rw [e1,e2,e3]
theorem of_self {n : Nat} {g a b c : FR} {v : Value} {G : Gh} (h : (QUD n g a b c).t v G) (hb : barC [g,a,b,c] = 0) : FR.of b.val = b ∧ FR.of c.val = c:=by
  have hk:=bar_pos hb
  simp only [List.all_cons,List.all_nil,Bool.and_true,Bool.and_eq_true,posR] at hk
  obtain ⟨us,_,hl,hE⟩:=h
  match us,hl with
  | [u1,u2,u3,u4],_=>exact ⟨fr_self (QR.wf (FX.qr (hE 2 _ u3 rfl rfl).2)) hk.2.2.1.1,fr_self (QR.wf (FX.qr (hE 3 _ u4 rfl rfl).2)) hk.2.2.2.1⟩
theorem bt_22 (h1 : barC [g,a,b,c] = 0) (h2 : trnF h t = false) : btC [g,a,b,c] h t = 2:=by
  rw [← bt_t h1];unfold trnC;rw [h2];rfl
end
instance gTO6_4_2 : GcT 4 2 false 2 [3,4,14,15,16,17,18,19,20,21,22,23,24,25]:=⟨⟩
instance gTO6_4_3 : GcT 4 3 false 4 [14,15,16,17,18,19,20,21,22,23,24,25]:=⟨⟩
instance gTO6_4_5 : GcT 4 5 false 27 [28,29,30,31,32,33,34,35,36,37]:=⟨⟩
instance gTO6_4_6 : GcT 4 6 false 38 [39,40,41,42,43]:=⟨⟩
instance gTO6_4_8 : GcT 4 8 false 2 [3,5,6,7,8,9,10,11,44,45,46,47,48,49,50]:=⟨⟩
instance gTO6_4_9 : GcT 4 9 false 44 [45,46,47,48,49,50]:=⟨⟩
instance gTO6_4_13 : GcT 4 13 false 2 [3,5,6,7,8,9,10,11,12,51,52,86,87,88,89,90,91,92,93,94,95,96,97,98,99,100,101,102,103,104,105,106,107,108,109,110,111,112,113,114,115,116,117,118,119,120,121]:=⟨⟩
instance gTO6_4_14 : GcT 4 14 false 5 [6,11,12,51,52,86,87,88,89,90,91,92,93,94,95,96,97,98,99,100,101,102,103,104,105,106,107,108,109,110,111,112,113,114,115,116,117,118,119,120,121]:=⟨⟩
instance gTO6_4_17 : GcT 4 17 false 122 [123,124,142,143,144]:=⟨⟩
theorem shortOutputChecksB {rg ra rb rc t : FR} {h : Bool} : ConT Tryz.prog 4 [QUD 64 rg ra rb rc,TRN 64 t h] (([rg,ra,rb,rc].all shortR && shortR t) = true ∧ (¬ barC [rg,ra,rb,rc] = 0)) (BT true):=.o2 fun hok ht h1 h2 hp=>by
  refine St.enter (N:=172) Tryz.func4 rfl rfl rfl hok (enter2 h1 h2) fun a=>?_
  refine W.tab ht ?_
  have e0:=shO hp.1
  have e1:=hp.2
  have e2:=(bt_3 (h:=h) (t:=t) e1).symm
  have e3 : ∀ x,okV (barC [rg,ra,rb,rc]) x = 0:=fun x=>okV_n e1
  have e4 : ∀ j,quF [rg,ra,rb,rc] j = default:=fun j=>(qu_bad e1).symm
  repeat' (first|((with_reducible refine gS_ ?_);first|((with_reducible refine gL_ ?_);first|refine W.run ?_ fun a w G=>?_|refine W.mv fun a w G=>?_|refine W.asg fun a w G=>?_|refine W.bx fun b a w G=>?_|(refine W.nn hK ?_;clear hK K)|refine W.nl ?_|refine W.al fun b a w G=>?_|refine W.st fun w=>?_|refine W.stp fun w=>?_|refine W.ste ?_ fun w=>?_)|((with_reducible refine gC_ ?_);first|with_reducible refine W.cbt (by first|assumption|(simp [e0,e1,e2,e3,e4,fr_00];done)|fail) ?_|with_reducible refine W.cbf (by first|assumption|(simp [e0,e1,e2,e3,e4,fr_00];done)|fail) ?_|with_reducible refine W.gcc 4 ?_|with_reducible refine W.gcd 4 ?_|refine W.reg fun K hK=>?_|refine W.reg1 ?_|refine W.sq fun K hK=>?_|refine W.ds ?_ (fun β a w G hu=>W.fin ?_ hu) mixedOrders (by kernel_rfl)|refine W.sk ?_|refine W.cd (fun hc=>?_) (fun hc=>?_)|refine W.cb (fun hc=>?_) (fun hc=>?_)|refine W.bl ?_|refine W.ex ?_|refine W.rt ?_)|((with_reducible refine W.kn hK ?_);clear hK K)|(with_reducible first|refine W.bn ?_|refine W.xt ?_|refine W.xb ?_|refine W.xo ?_|refine W.tr ?_|refine W.br ?_)|refine W.rt1 rfl ?_|refine W.rt2 rfl ?_ ?_|refine W.rt3 rfl ?_ ?_ ?_)|clear hK K|clear hu|exact True.intro|exact Nat.le_trans (by clear hp;omega) hp|exact Nat.le_trans (by clear hp;omega) hp.1|exact Nat.le_trans (by clear hp;omega) hp.2|(clear hp;omega)|apply And.intro|refine GI.i fun _=>?_|with_reducible rfl|decide|(simp only [List.length_cons,List.length_nil];omega))
  all_goals first
    | omega
    | (simp [e0,e1,e2,e3,e4,fr_00];done)
    | exact e1
    | exact e5
    | rfl
    | skip
theorem shortOutputChecksC {rg ra rb rc t : FR} {h : Bool} : ConT Tryz.prog 4 [QUD 64 rg ra rb rc,TRN 64 t h] (([rg,ra,rb,rc].all shortR && shortR t) = true ∧ (barC [rg,ra,rb,rc] = 0 ∧ trnF h t = false)) (BT true):=.o2 fun hok ht h1 h2 hp=>by
  refine St.enter (N:=172) Tryz.func4 rfl rfl rfl hok (enter2 h1 h2) fun a=>?_
  refine W.tab ht ?_
  have e0:=shO hp.1
  have e1:=hp.2.1
  have e5:=hp.2.2
  have e2:=bt_22 e1 e5
  have e3 : ∀ x,okV 2 x = 0:=fun x=>okV_n (by decide)
  have e4:=quF_0 e1
  have e6:=of_self h1 e1
  repeat' (first|((with_reducible refine gS_ ?_);first|((with_reducible refine gL_ ?_);first|refine W.run ?_ fun a w G=>?_|refine W.mv fun a w G=>?_|refine W.asg fun a w G=>?_|refine W.bx fun b a w G=>?_|(refine W.nn hK ?_;clear hK K)|refine W.nl ?_|refine W.al fun b a w G=>?_|refine W.st fun w=>?_|refine W.stp fun w=>?_|refine W.ste ?_ fun w=>?_)|((with_reducible refine gC_ ?_);first|with_reducible refine W.cbt (by first|assumption|(simp [e0,e1,e2,e3,e4.1,e4.2.1,e4.2.2.1,e4.2.2.2,e5,e6.1,e6.2,fr_00];done)|fail) ?_|with_reducible refine W.cbf (by first|assumption|(simp [e0,e1,e2,e3,e4.1,e4.2.1,e4.2.2.1,e4.2.2.2,e5,e6.1,e6.2,fr_00];done)|fail) ?_|with_reducible refine W.gcc 4 ?_|with_reducible refine W.gcd 4 ?_|refine W.reg fun K hK=>?_|refine W.reg1 ?_|refine W.sq fun K hK=>?_|refine W.ds ?_ (fun β a w G hu=>W.fin ?_ hu) mixedOrders (by kernel_rfl)|refine W.sk ?_|refine W.cd (fun hc=>?_) (fun hc=>?_)|refine W.cb (fun hc=>?_) (fun hc=>?_)|refine W.bl ?_|refine W.ex ?_|refine W.rt ?_)|((with_reducible refine W.kn hK ?_);clear hK K)|(with_reducible first|refine W.bn ?_|refine W.xt ?_|refine W.xb ?_|refine W.xo ?_|refine W.tr ?_|refine W.br ?_)|refine W.rt1 rfl ?_|refine W.rt2 rfl ?_ ?_|refine W.rt3 rfl ?_ ?_ ?_)|clear hK K|clear hu|exact True.intro|exact Nat.le_trans (by clear hp;omega) hp|exact Nat.le_trans (by clear hp;omega) hp.1|exact Nat.le_trans (by clear hp;omega) hp.2|(clear hp;omega)|apply And.intro|refine GI.i fun _=>?_|with_reducible rfl|decide|(simp only [List.length_cons,List.length_nil];omega))
  all_goals first
    | omega
    | (simp [e0,e1,e2,e3,e4.1,e4.2.1,e4.2.2.1,e4.2.2.2,e5,e6.1,e6.2,fr_00];done)
    | exact e1
    | exact e5
    | rfl
    | skip
theorem shortOutputChecksD {rg ra rb rc t : FR} {h : Bool} : ConT Tryz.prog 4 [QUD 64 rg ra rb rc,TRN 64 t h] (([rg,ra,rb,rc].all shortR && shortR t) = true ∧ (barC [rg,ra,rb,rc] = 0 ∧ trnF h t = true)) (BT true):=.o2 fun hok ht h1 h2 hp=>by
  refine St.enter (N:=172) Tryz.func4 rfl rfl rfl hok (enter2 h1 h2) fun a=>?_
  refine W.tab ht ?_
  have e0:=shO hp.1
  have e1:=hp.2.1
  have e5:=hp.2.2
  have e2:=bt_0 e1 e5
  have e3 : ∀ x,okV 0 x = x:=fun x=>okV_0 rfl
  have e4:=quF_0 e1
  have e6:=of_self h1 e1
  repeat' (first|((with_reducible refine gS_ ?_);first|((with_reducible refine gL_ ?_);first|refine W.run ?_ fun a w G=>?_|refine W.mv fun a w G=>?_|refine W.asg fun a w G=>?_|refine W.bx fun b a w G=>?_|(refine W.nn hK ?_;clear hK K)|refine W.nl ?_|refine W.al fun b a w G=>?_|refine W.st fun w=>?_|refine W.stp fun w=>?_|refine W.ste ?_ fun w=>?_)|((with_reducible refine gC_ ?_);first|with_reducible refine W.cbt (by first|assumption|(simp [e0,e1,e2,e3,e4.1,e4.2.1,e4.2.2.1,e4.2.2.2,e5,e6.1,e6.2,fr_00];done)|fail) ?_|with_reducible refine W.cbf (by first|assumption|(simp [e0,e1,e2,e3,e4.1,e4.2.1,e4.2.2.1,e4.2.2.2,e5,e6.1,e6.2,fr_00];done)|fail) ?_|with_reducible refine W.gcc 4 ?_|with_reducible refine W.gcd 4 ?_|refine W.reg fun K hK=>?_|refine W.reg1 ?_|refine W.sq fun K hK=>?_|refine W.ds ?_ (fun β a w G hu=>W.fin ?_ hu) mixedOrders (by kernel_rfl)|refine W.sk ?_|refine W.cd (fun hc=>?_) (fun hc=>?_)|refine W.cb (fun hc=>?_) (fun hc=>?_)|refine W.bl ?_|refine W.ex ?_|refine W.rt ?_)|((with_reducible refine W.kn hK ?_);clear hK K)|(with_reducible first|refine W.bn ?_|refine W.xt ?_|refine W.xb ?_|refine W.xo ?_|refine W.tr ?_|refine W.br ?_)|refine W.rt1 rfl ?_|refine W.rt2 rfl ?_ ?_|refine W.rt3 rfl ?_ ?_ ?_)|clear hK K|clear hu|exact True.intro|exact Nat.le_trans (by clear hp;omega) hp|exact Nat.le_trans (by clear hp;omega) hp.1|exact Nat.le_trans (by clear hp;omega) hp.2|(clear hp;omega)|apply And.intro|refine GI.i fun _=>?_|with_reducible rfl|decide|(simp only [List.length_cons,List.length_nil];omega))
  all_goals first
    | omega
    | (simp [e0,e1,e2,e3,e4.1,e4.2.1,e4.2.2.1,e4.2.2.2,e5,e6.1,e6.2,fr_00];done)
    | exact e1
    | exact e5
    | rfl
    | skip
theorem longOutputChecks {rg ra rb rc t : FR} {h : Bool} : ConT Tryz.prog 4 [PTS [(some 3,RX rg),(some 3,RX ra),(some 3,RX rb),(some 3,RX rc)],PTS [(some 3,RX t),(none,BT h)]] (([rg,ra,rb,rc].all shortR && shortR t) = false) (BT true):=.o2 fun hok ht h1 h2 hp=>by
  refine St.enter (N:=172) Tryz.func4 rfl rfl rfl hok (enter2 h1 h2) fun a=>?_
  refine W.tab ht ?_
  repeat' (first|refine W.cbt (long2_0 hp) ?_|((with_reducible refine gS_ ?_);first|((with_reducible refine gL_ ?_);first|refine W.run ?_ fun a w G=>?_|refine W.mv fun a w G=>?_|refine W.asg fun a w G=>?_|refine W.bx fun b a w G=>?_|(refine W.nn hK ?_;clear hK K)|refine W.nl ?_|refine W.al fun b a w G=>?_|refine W.st fun w=>?_|refine W.stp fun w=>?_|refine W.ste ?_ fun w=>?_)|((with_reducible refine gC_ ?_);first|refine W.reg fun K hK=>?_|refine W.reg1 ?_|refine W.sq fun K hK=>?_|refine W.ds ?_ (fun β a w G hu=>W.fin ?_ hu) mixedOrders (by kernel_rfl)|refine W.sk ?_|refine W.cd (fun hc=>?_) (fun hc=>?_)|refine W.cb (fun hc=>?_) (fun hc=>?_)|refine W.bl ?_|refine W.ex ?_|refine W.rt ?_)|((with_reducible refine W.kn hK ?_);clear hK K)|(with_reducible first|refine W.bn ?_|refine W.xt ?_|refine W.xb ?_|refine W.xo ?_|refine W.tr ?_|refine W.br ?_)|refine W.rt1 rfl ?_|refine W.rt2 rfl ?_ ?_|refine W.rt3 rfl ?_ ?_ ?_)|clear hK K|clear hu|exact True.intro|exact Nat.le_trans (by clear hp;omega) hp|exact Nat.le_trans (by clear hp;omega) hp.1|exact Nat.le_trans (by clear hp;omega) hp.2|(clear hp;omega)|apply And.intro|refine GI.i fun _=>?_|with_reducible rfl|decide|(simp only [List.length_cons,List.length_nil];omega))
  all_goals skip
theorem lawOutputChecks {rg ra rb rc t : FR} {h : Bool} {w : World} {G : Gh} {v1 v2 : Value} (hok : Gok w G) (ht : TAB G) (h1 : (PTS [(some 3,RX rg),(some 3,RX ra),(some 3,RX rb),(some 3,RX rc)]).t v1 G) (h2 : (PTS [(some 3,RX t),(none,BT h)]).t v2 G) : Calls Tryz.prog 4 #[v1,v2] w (Ret w G (BT true)):=by
  cases hs : ([rg,ra,rb,rc].all shortR && shortR t) with
  | true =>
    have hq:=hs
    (try simp only [shortF,List.all_cons,List.all_nil,Bool.and_true,Bool.and_eq_true] at hq)
    have hcs : (¬ barC [rg,ra,rb,rc] = 0) ∨ (barC [rg,ra,rb,rc] = 0 ∧ trnF h t = false) ∨ (barC [rg,ra,rb,rc] = 0 ∧ trnF h t = true):=by
      by_cases e : barC [rg,ra,rb,rc] = 0
      · cases e2 : trnF h t with
        | false=>exact .inr (.inl ⟨e,rfl⟩)
        | true=>exact .inr (.inr ⟨e,rfl⟩)
      · exact .inl e
    rcases hcs with hcs | hcs | hcs
    · exact shortOutputChecksB.c2 hok ht (NS.h (τ':=QUD 64 rg ra rb rc) (by (try simp only [and_true,true_and]);grind) h1) (NS.h (τ':=TRN 64 t h) (by (try simp only [and_true,true_and]);grind) h2) ⟨hs,hcs⟩
    · exact shortOutputChecksC.c2 hok ht (NS.h (τ':=QUD 64 rg ra rb rc) (by (try simp only [and_true,true_and]);grind) h1) (NS.h (τ':=TRN 64 t h) (by (try simp only [and_true,true_and]);grind) h2) ⟨hs,hcs⟩
    · exact shortOutputChecksD.c2 hok ht (NS.h (τ':=QUD 64 rg ra rb rc) (by (try simp only [and_true,true_and]);grind) h1) (NS.h (τ':=TRN 64 t h) (by (try simp only [and_true,true_and]);grind) h2) ⟨hs,hcs⟩
  | false=>exact longOutputChecks.c2 hok ht h1 h2 hs
end Go.Proofs.YtnjbcjmkkejfpaaGreatDoor
namespace Go.Proofs.YtnjbcjmkkejfpaaGreatDoor
open Go.RowKit (Below)
def G0of (W : World) : Gh:=fun b=>W.heap[b]?
theorem G0of_ok (W : World) : Gok W (G0of W):=fun _ _ h=>h
theorem Gc_G0 {W : World} {b i : Nat} : Gc (G0of W) b i = W.cell? ⟨b,i,none⟩:=by
  unfold Gc G0of World.cell?;cases W.heap[b]? with
  | none=>rfl
  | some o=>cases o <;> rfl
def RdA (P : Program) (W : World) (t : TypeId) (k : Option Nat) (A : MT → Prop) : Prop:=∀ (H : Type) (enc : TypeId × Value → H) (fuel : Nat) (cs : List Value) (x : DataW H × List MemPlace),
  DataW.trod enc P W 0 (fun _=>true) true fuel t cs = some x → (x.1.weights P t).all (· ≤ reachBytes) = true → ∃ (v : Value) (τ : MT),A τ ∧ v.cells.toList = cs ∧ Shaped k v ∧ τ.t v (G0of W)
section
variable {P : Program} {W : World} {t e : TypeId} {k : Option Nat} {A A' : MT → Prop}
theorem RdA.mono (h : RdA P W t k A) (hA : ∀ τ v,A τ → τ.t v (G0of W) → ∃ σ,A' σ ∧ σ.t v (G0of W)) : RdA P W t k A':=fun H enc fuel cs x hx hw=>by
  obtain ⟨v,τ,h1,h2,h3,h4⟩:=h H enc fuel cs x hx hw
  obtain ⟨σ,h5,h6⟩:=hA τ v h1 h4
  exact ⟨v,σ,h5,h2,h3,h6⟩
theorem rd_bool (ht : P.underlying t = some .bool) : RdA P W t none (fun τ=>∃ b,τ = .ex (.bool b)):=fun H enc fuel cs x hx hw=>by
  obtain ⟨b,rfl,rfl⟩:=DataW.trod_bool ht hx
  exact ⟨.bool b,_,⟨b,rfl⟩,rfl,⟨rfl,rfl⟩,rfl⟩
theorem rd_int {kk : IntKind} (ht : P.underlying t = some (.int kk)) : RdA P W t none (fun τ=>∃ z,(Lit.int kk z).wf = true ∧ τ = .ex (.int kk z)):=fun H enc fuel cs x hx hw=>by
  obtain ⟨z,rfl,rfl,h⟩:=DataW.trod_int ht hx
  exact ⟨.int kk z,_,⟨z,h,rfl⟩,rfl,⟨rfl,rfl⟩,rfl⟩
theorem rd_i64 (ht : P.underlying t = some (.int .i64)) : RdA P W t none (fun τ=>∃ z : Int,τ = .ex (.int .i64 z)):=(rd_int ht).mono fun τ v ⟨z,_,e⟩ hv=>⟨τ,⟨z,e⟩,hv⟩
theorem rd_u8 (ht : P.underlying t = some (.int .u8)) : RdA P W t none (fun τ=>∃ z : Fin 256,τ = .ex (.int .u8 ((z.val : Nat) : Int))):=(rd_int ht).mono fun τ v ⟨z,hz,e⟩ hv=>by
  have h0 : (0 : Int) ≤ z:=of_decide_eq_true (Bool.and_eq_true_iff.1 hz).1
  have h1 : z ≤ 255:=of_decide_eq_true (Bool.and_eq_true_iff.1 hz).2
  refine ⟨τ,⟨⟨z.toNat,by omega⟩,?_⟩,hv⟩
  rw [e];show _ = MT.ex (.int .u8 ((z.toNat : Nat) : Int));rw [Int.toNat_of_nonneg h0]
theorem cells_get {a : Addr} {n : Nat} {L : List Value} (h : W.cells? 0 a n = some L) : L.length = n ∧ ∀ j,j < n → W.cell? (a.add j) = L[j]?:=by
  unfold World.cells? at h
  rw [if_pos (Nat.zero_le _)] at h
  exact ⟨by simpa using mapM_some_length h,fun j hj=>mapM_some_get h j j (by simp [hj])⟩
theorem weightsAll_mem {H : Type} {es : List (DataW H)} {d : DataW H} {i : Nat} (hi : es[i]? = some d) : ∀ n ∈ d.weights P e,n ∈ DataW.weightsAll P e es:=by
  induction es generalizing i with
  | nil=>simp at hi
  | cons x r ih =>
    intro n hn
    rw [DataW.weightsAll,List.mem_append]
    cases i with
    | zero=>simp at hi;subst hi;exact .inl hn
    | succ j=>exact .inr (ih (by simpa using hi) n hn)
theorem rd_sliceB (ht : P.underlying t = some (.slice e)) (hc : P.cellsOf e = k.getD 1) (hc0 : 0 < k.getD 1) (hb : 4 ≤ P.bytesOf e) (h : RdA P W e k A) : RdA P W t none (fun τ=>∃ τs,(∀ σ ∈ τs,A σ) ∧ τs.length * P.bytesOf e ≤ 140737488351232 ∧ τ = LS k τs):=fun H enc fuel cs x hx hw=>by
  rcases DataW.trod_slice ht hx with ⟨rfl,rfl⟩ | ⟨a,len,cap,elems,rest,n,rfl,rfl,rfl,hb0,hlc,hcm,hel,hE,_,_⟩
  · exact ⟨.slice none 0 0,LS k [],⟨[],by simp,by simp,rfl⟩,rfl,⟨rfl,rfl⟩,LS.nil⟩
  · simp only [DataW.weights,ht,List.all_cons,List.all_append,Bool.and_eq_true,decide_eq_true_eq] at hw
    obtain ⟨hw1,hw2,_⟩:=hw
    have hlim : len ≤ LIM:=by
      have h1 : len * 4 ≤ ((elems.map (·.1)).length + (rest.map (·.1)).length) * P.bytesOf e:=Nat.mul_le_mul (by simp;omega) hb
      have h2 : reachBytes = 140737488351232:=rfl
      simp only [LIM];omega
    have hby : len * P.bytesOf e ≤ 140737488351232:=by
      have h1 : len * P.bytesOf e ≤ ((elems.map (·.1)).length + (rest.map (·.1)).length) * P.bytesOf e:=Nat.mul_le_mul_right _ (by simp;omega)
      have h2 : reachBytes = 140737488351232:=rfl
      omega
    have each : ∀ i,∃ (v : Value) (τ : MT),i < len → W.cells? 0 (a.add (i * k.getD 1)) (k.getD 1) = some v.cells.toList ∧ A τ ∧ Shaped k v ∧ τ.t v (G0of W):=fun i=>by
      by_cases hi : i < len
      · have h1:=hE i hi
        rw [List.getElem?_eq_getElem (by omega),Option.bind_eq_some_iff,hc] at h1
        obtain ⟨cs',h2,h3⟩:=h1
        obtain ⟨v,τ,h4,h5,h6,h7⟩:=h H enc n cs' _ h3 (List.all_eq_true.2 fun m hm=>List.all_eq_true.1 hw2 m (weightsAll_mem (i:=i) (by rw [List.getElem?_map,List.getElem?_eq_getElem (by omega)];rfl) m hm))
        exact ⟨v,τ,fun _=>⟨by rw [h5];exact h2,h4,h6,h7⟩⟩
      · exact ⟨undef,.ex undef,fun h=>absurd h hi⟩
    obtain ⟨f,g,hfg⟩ : ∃ (f : Nat → Value) (g : Nat → MT),∀ i,i < len → W.cells? 0 (a.add (i * k.getD 1)) (k.getD 1) = some (f i).cells.toList ∧ A (g i) ∧ Shaped k (f i) ∧ (g i).t (f i) (G0of W):=⟨fun i=>(each i).choose,fun i=>(each i).choose_spec.choose,fun i=>(each i).choose_spec.choose_spec⟩
    refine ⟨.slice (some a) len cap,LS k ((List.range len).map g),⟨_,fun σ hσ=>?_,by simpa using hby,rfl⟩,rfl,⟨rfl,rfl⟩,LS.of_vals (us:=(List.range len).map f) (A:=some a) (c:=cap) (by simp) (by simpa using hlc) (by simpa using hlim) ⟨by simp,fun i τ u hi hu=>?_⟩ fun i u hu=>?_⟩
    · obtain ⟨i,hi,rfl⟩:=List.mem_map.1 hσ
      exact (hfg i (by simpa using hi)).2.1
    · have hlt : i < len:=by have:=(List.getElem?_eq_some_iff.1 hi).1;simpa using this
      simp [List.getElem?_range hlt] at hi hu
      subst hi;subst hu
      exact (hfg i hlt).2.2
    · have hlt : i < len:=by have:=(List.getElem?_eq_some_iff.1 hu).1;simpa using this
      simp [List.getElem?_range hlt] at hu
      subst hu
      obtain ⟨h1,h2,h3,h4⟩:=hfg i hlt
      obtain ⟨h5,h6⟩:=cells_get h1
      obtain ⟨g5,g6⟩:=cells_get (hfg 0 (by omega)).1
      obtain ⟨b,off,spot⟩:=a
      have h7:=g6 0 hc0
      rw [List.getElem?_eq_getElem (by omega)] at h7
      have hs : spot = none:=by simpa [Addr.add] using World.cell?_spot h7
      subst hs
      refine ⟨b,off,rfl,fun j x hj=>?_⟩
      have hjl : j < k.getD 1:=by have:=(Array.getElem?_eq_some_iff.1 hj).1;rw [← h5,Array.length_toList];exact this
      have h8:=h6 j hjl
      rw [Gc_G0]
      rw [addr_add,addr_add,Array.getElem?_toList,hj] at h8
      exact h8
theorem rd_slice (ht : P.underlying t = some (.slice e)) (hc : P.cellsOf e = k.getD 1) (hc0 : 0 < k.getD 1) (hb : 4 ≤ P.bytesOf e) (h : RdA P W e k A) : RdA P W t none (fun τ=>∃ τs,(∀ σ ∈ τs,A σ) ∧ τ = LS k τs) :=
  (rd_sliceB ht hc hc0 hb h).mono fun τ v ⟨τs,h1,_,h2⟩ hv=>⟨τ,⟨τs,h1,h2⟩,hv⟩
theorem forall_map {α : Type} {T : α → MT} {τs : List MT} (h : ∀ σ ∈ τs,∃ x,σ = T x) : ∃ xs : List α,τs = xs.map T:=by
  induction τs with
  | nil=>exact ⟨[],rfl⟩
  | cons a r ih =>
    obtain ⟨l,rfl⟩:=ih fun σ h'=>h σ (List.mem_cons_of_mem _ h')
    obtain ⟨x,rfl⟩:=h a (List.mem_cons_self ..)
    exact ⟨x :: l,rfl⟩
theorem forall_map' {α : Type} {T : α → MT} {p : α → Prop} {τs : List MT} (h : ∀ σ ∈ τs,∃ x,p x ∧ σ = T x) : ∃ xs : List α,τs = xs.map T ∧ ∀ x ∈ xs,p x:=by
  induction τs with
  | nil=>exact ⟨[],rfl,by simp⟩
  | cons a r ih =>
    obtain ⟨l,rfl,hl⟩:=ih fun σ h'=>h σ (List.mem_cons_of_mem _ h')
    obtain ⟨x,hx,rfl⟩:=h a (List.mem_cons_self ..)
    exact ⟨x :: l,rfl,by simpa using ⟨hx,hl⟩⟩
theorem rd_words (ht : P.underlying t = some (.slice e)) (hu : P.underlying e = some (.int .u32)) (hc : P.cellsOf e = 1) (hb : 4 ≤ P.bytesOf e) : RdA P W t none (fun τ=>∃ l,τ = SL l):=by
  have h1 : RdA P W e none (fun τ=>∃ x : Nat,x < 4294967296 ∧ τ = .ex (u32 x)):=(rd_int hu).mono fun τ v ⟨z,hz,hτ⟩ hv=>by
    subst hτ
    have hm : IntKind.u32.min = 0:=by decide
    have hM : IntKind.u32.max = 4294967295:=by decide
    simp [Lit.wf,hm,hM] at hz
    exact ⟨_,⟨z.toNat,by omega,rfl⟩,by
      have : (z.toNat : Int) = z:=by omega
      show v = .int .u32 (z.toNat : Int);rw [this];exact hv⟩
  refine (rd_slice (k:=none) ht hc (by decide) hb h1).mono fun τ v ⟨τs,hσ,hτ⟩ hv=>?_
  subst hτ
  obtain ⟨l,hl,hlt⟩:=forall_map' hσ
  subst hl
  obtain ⟨A,c,us,h2,h3,h4,h5,h6⟩:=LS.vals hv
  rw [List.length_map] at h2 h3 h4
  refine ⟨_,⟨l,rfl⟩,A,c,h2,h3,h4,hlt,fun i x hi=>?_⟩
  have hil:=(List.getElem?_eq_some_iff.1 hi).1
  have hul : i < us.length:=by rw [h5.1,List.length_map];exact hil
  have hui : us[i]? = some us[i]:=by rw [List.getElem?_eq_getElem hul]
  have h7:=(h5.2 i (.ex (u32 x)) us[i] (by rw [List.getElem?_map,hi];rfl) hui).2
  obtain ⟨b,off,e1,h8⟩:=h6 i us[i] hui
  refine ⟨b,off,e1,?_⟩
  have h9 : us[i] = u32 x:=h7
  rw [h9] at h8
  simpa using h8 0 (u32 x) rfl
def FldOk (P : Program) (W : World) : Nat → List Field → List (Option Nat × (MT → Prop)) → Prop
  | _,[],[]=>True
  | off,f :: fs,a :: As=>f.offset = off ∧ P.cellsOf f.type = a.1.getD 1 ∧ RdA P W f.type a.1 a.2 ∧ FldOk P W (off + a.1.getD 1) fs As
  | _,_,_=>False
def Mt : List (Option Nat × (MT → Prop)) → List (Option Nat × MT) → Prop
  | [],[]=>True
  | a :: As,f :: F=>f.1 = a.1 ∧ a.2 f.2 ∧ Mt As F
  | _,_=>False
def tot (As : List (Option Nat × (MT → Prop))) : Nat:=(As.map fun a=>a.1.getD 1).sum
theorem Mt.tot : ∀ {As : List (Option Nat × (MT → Prop))} {F : List (Option Nat × MT)},Mt As F → (F.map fun f=>f.1.getD 1).sum = Go.Proofs.YtnjbcjmkkejfpaaGreatDoor.tot As
  | [],[],_=>rfl
  | a :: As,f :: F,h=>by
    have:=Mt.tot h.2.2
    simp only [Go.Proofs.YtnjbcjmkkejfpaaGreatDoor.tot,List.map_cons,List.sum_cons,h.1] at this ⊢
    rw [this]
  | [],_ :: _,h=>h.elim
  | _ :: _,[],h=>h.elim
theorem rd_fields {H : Type} {enc : TypeId × Value → H} {n : Nat} {cs : List Value} : ∀ (fs : List Field) (As : List (Option Nat × (MT → Prop))) (xs : List (DataW H × List MemPlace)) (off : Nat), FldOk P W off fs As → xs.length = fs.length →
    (∀ (i : Nat) (f : Field),fs[i]? = some f → DataW.trod enc P W 0 (fun _=>true) true n f.type ((cs.drop f.offset).take (P.cellsOf f.type)) = xs[i]?) → (DataW.weightsEach P (fs.map (·.type)) (xs.map (·.1))).all (· ≤ reachBytes) = true → cs.length = off + tot As →
    ∃ us F,Mt As F ∧ flat us = cs.drop off ∧ us.length = F.length ∧ ∀ (i : Nat) (f : Option Nat × MT) (u : Value),F[i]? = some f → us[i]? = some u → Shaped f.1 u ∧ f.2.t u (G0of W)
  | [],[],xs,off,_,_,_,_,hl=>⟨[],[],trivial,by rw [List.drop_eq_nil_of_le (by rw [hl];simp [tot])];rfl,rfl,fun i f u h=>by simp at h⟩
  | f :: fs,a :: As,[],off,_,hx,_,_,_=>by simp at hx
  | f :: fs,a :: As,x :: xs,off,hF,hx,hT,hw,hl=>by
    obtain ⟨h1,h2,h3,h4⟩:=hF
    simp only [List.map_cons,DataW.weightsEach,List.all_append,Bool.and_eq_true] at hw
    obtain ⟨v,τ,h5,h6,h7,h8⟩:=h3 H enc n _ x (hT 0 f rfl) hw.1
    obtain ⟨us,F,g1,g2,g3,g4⟩:=rd_fields fs As xs (off + a.1.getD 1) h4 (by simpa using hx) (fun i g hg=>by simpa using hT (i + 1) g (by simpa using hg)) hw.2 (by rw [hl];simp [tot];omega)
    refine ⟨v :: us,(a.1,τ) :: F,⟨rfl,h5,g1⟩,?_,by simp [g3],fun i f' u hf hu=>?_⟩
    · rw [flat_cons,h6,g2,h1,h2,← List.drop_drop,List.take_append_drop]
    · cases i with
      | zero=>simp at hf hu;subst hf;subst hu;exact ⟨h7,h8⟩
      | succ i=>exact g4 i f' u (by simpa using hf) (by simpa using hu)
  | [],_ :: _,_,_,h,_,_,_,_=>h.elim
  | _ :: _,[],_,_,h,_,_,_,_=>h.elim
theorem rd_struct {fs : Array Field} {As : List (Option Nat × (MT → Prop))} {n : Nat} (ht : P.underlying t = some (.struct fs)) (hn : P.cellsOf t = n) (hnA : tot As = n) (hF : FldOk P W 0 fs.toList As) : RdA P W t (some n) (fun τ=>∃ F,Mt As F ∧ τ = PTS F):=fun H enc fuel cs x hx hw=>by
  obtain ⟨xs,m,rfl,rfl,hl,hxl,hT⟩:=DataW.trod_struct ht hx
  simp only [DataW.weights,ht] at hw
  obtain ⟨us,F,h1,h2,h3,h4⟩:=rd_fields fs.toList As xs 0 hF (by simpa using hxl) (fun i f hf=>hT i f (by simpa using hf)) hw (by omega)
  have hP : (PTS F).t (.agg (flat us).toArray) (G0of W):=⟨us,rfl,h3,h4⟩
  refine ⟨.agg (flat us).toArray,PTS F,⟨F,h1,rfl⟩,by rw [h2];rfl,PTS.shaped (by unfold offs;rw [List.take_length,h1.tot,hnA]) hP,hP⟩
theorem shaped1 {u : Value} (h : Shaped none u) : u.cells = #[u]:=h.1
theorem PTS.toQR {s : Bool} {p q : List Nat} {v : Value} {G : Gh} (h : (PTS [(none,.ex (.bool s)),(none,SL p),(none,SL q)]).t v G) : (QR s p q).t v G:=by
  obtain ⟨us,rfl,hl,h⟩:=h
  match us,hl,h with
  | [u0,u1,u2],_,h =>
    obtain ⟨a0,b0⟩:=h 0 _ u0 rfl rfl
    obtain ⟨a1,b1⟩:=h 1 _ u1 rfl rfl
    obtain ⟨a2,b2⟩:=h 2 _ u2 rfl rfl
    refine ⟨u1,u2,?_,b1,b2⟩
    have e0 : u0 = .bool s:=b0
    simp only [flat,List.flatMap_cons,List.flatMap_nil,shaped1 a0,shaped1 a1,shaped1 a2]
    rw [e0];rfl
theorem rd_frac {fs : Array Field} {f0 f1 f2 : Field} {tw : TypeId} (ht : P.underlying t = some (.struct fs)) (hf : fs.toList = [f0, f1, f2]) (hn : P.cellsOf t = 3) (h0 : f0.offset = 0 ∧ P.cellsOf f0.type = 1 ∧ P.underlying f0.type = some .bool) (h1 : f1.offset = 1 ∧ f1.type = tw) (h2 : f2.offset = 2 ∧ f2.type = tw)
    (hw : P.underlying tw = some (.slice e) ∧ P.cellsOf tw = 1) (he : P.underlying e = some (.int .u32) ∧ P.cellsOf e = 1 ∧ 4 ≤ P.bytesOf e) : RdA P W t (some 3) (fun τ=>∃ r : FR,τ = QR r.s r.p r.q):=by
  have hW : RdA P W tw none (fun τ=>∃ l,τ = SL l):=rd_words hw.1 he.1 he.2.1 he.2.2
  refine (rd_struct (As:=[(none,fun τ=>∃ b,τ = .ex (.bool b)),(none,fun τ=>∃ l,τ = SL l),(none,fun τ=>∃ l,τ = SL l)]) ht hn rfl (by
    rw [hf];exact ⟨h0.1,h0.2.1,rd_bool h0.2.2,h1.1,by rw [h1.2];exact hw.2,by rw [h1.2];exact hW,h2.1,by rw [h2.2];exact hw.2,by rw [h2.2];exact hW,trivial⟩)).mono fun τ v ⟨F,hM,hτ⟩ hv=>?_
  subst hτ
  match F,hM with
  | [a,b,c],⟨a1,⟨s,a2⟩,b1,⟨p,b2⟩,c1,⟨q,c2⟩,_⟩ =>
    obtain ⟨a0,a'⟩:=a;obtain ⟨b0,b'⟩:=b;obtain ⟨c0,c'⟩:=c
    simp only at a1 a2 b1 b2 c1 c2
    subst a1;subst a2;subst b1;subst b2;subst c1;subst c2
    exact ⟨_,⟨⟨s,p,q⟩,rfl⟩,PTS.toQR hv⟩
theorem rd_list {α : Type} {T : α → MT} (ht : P.underlying t = some (.slice e)) (hc : P.cellsOf e = k.getD 1) (hc0 : 0 < k.getD 1) (hb : 4 ≤ P.bytesOf e) (h : RdA P W e k (fun τ=>∃ x,τ = T x)) : RdA P W t none (fun τ=>∃ xs : List α,τ = LS k (xs.map T)) :=
  (rd_slice ht hc hc0 hb h).mono fun τ v ⟨τs,hσ,hτ⟩ hv=>by
    obtain ⟨xs,rfl⟩:=forall_map hσ
    subst hτ
    exact ⟨_,⟨xs,rfl⟩,hv⟩
theorem rd_listB {α : Type} {T : α → MT} {c : Nat} (ht : P.underlying t = some (.slice e)) (hc : P.cellsOf e = k.getD 1) (hc0 : 0 < k.getD 1) (hb : 4 ≤ P.bytesOf e) (hbc : P.bytesOf e = c) (h : RdA P W e k (fun τ=>∃ x,τ = T x)) : RdA P W t none (fun τ=>∃ xs : { xs : List α // xs.length * c ≤ 140737488351232 },τ = LS k (xs.1.map T)) :=
  (rd_sliceB ht hc hc0 hb h).mono fun τ v ⟨τs,hσ,hl,hτ⟩ hv=>by
    obtain ⟨xs,rfl⟩:=forall_map hσ
    subst hτ
    rw [List.length_map,hbc] at hl
    exact ⟨_,⟨⟨xs,hl⟩,rfl⟩,hv⟩
theorem rd_arg {H : Type} {enc : TypeId × Value → H} {v : Value} {d : DataW H} {ps : List MemPlace} (h : RdA P W t k A) (hd : DataW.Trod enc P W 0 (fun _ => true) true t v d ps) (hw : (d.weights P t).all (· ≤ reachBytes) = true)
    (hv : match k with | none=>v.cells = #[v] | some _=>∃ cs,v = .agg cs) : ∃ τ,A τ ∧ Shaped k v ∧ τ.t v (G0of W):=by
  obtain ⟨fuel,hf⟩:=hd
  obtain ⟨u,τ,h1,h2,h3,h4⟩:=h H enc fuel _ _ hf hw
  have : u = v:=by
    cases k with
    | none =>
      have h5 : u.cells = #[u]:=h3.1
      rw [h5,hv] at h2
      simpa using h2
    | some n =>
      obtain ⟨cs,rfl⟩:=hv
      obtain ⟨cs',rfl,_⟩:=h3
      have : cs'.toList = cs.toList:=h2
      rw [Array.toList_inj.1 this]
  subst this
  exact ⟨τ,h1,h3,h4⟩
end
end Go.Proofs.YtnjbcjmkkejfpaaGreatDoor
