import Derived.Test.YtnjbcjmkkejfpaaGreatDoorQh
set_option linter.unusedVariables false
set_option linter.unusedSimpArgs false
set_option linter.unusedVariables false
set_option linter.unusedSimpArgs false
set_option maxHeartbeats 4000000
set_option maxRecDepth 100000
set_option synthInstance.maxSize 100000
set_option synthInstance.maxHeartbeats 400000
namespace Go.Proofs.YtnjbcjmkkejfpaaGreatDoor
open Go.RowKit (Below)
attribute [local irreducible] Go.Code.wp Go.wpList Go.bodyPost
private theorem gS_ {W0 : World} {G0 : Gh} {N : Nat} {L : List (Nat × MT)} {B : List BX} {a : Act} {w : World} {G : Gh} {q : Prop} (h : St W0 G0 N L B a w G → q) : St W0 G0 N L B a w G → q:=h
private theorem gL_ {p : Prop} {P : Program} {arr : Array Oper} {Q : Exit → Act → World → Prop} {l : List Oper} {a : Act} {w : World} (h : p → wpList P arr Q l a w) : p → wpList P arr Q l a w:=h
private theorem gC_ {p : Prop} {P : Program} {c : Code} {Q : Exit → Act → World → Prop} {a : Act} {w : World} (h : p → c.wp P Q a w) : p → c.wp P Q a w:=h
private theorem mixedOrders : Tryz.prog.follows .mixedOrders = true:=by kernel_rfl
theorem gd1 {s : Bool} {p : Prop} [Decidable p] (h : (!true || !s || decide p) = false) : ¬ p:=fun e=>by rw [decide_eq_true e] at h;simp at h
theorem short1 {s1 : Bool} (h : s1 = true) : (!true || !s1) = false:=by cases s1 <;> simp_all
theorem long1_0 {s1 : Bool} (h : s1 = false) : (!true || !s1) = true:=by cases s1 <;> simp_all
theorem gi1_0 {s1 : Bool} (h : s1 = false) (g : (!true || !s1) = false) : False:=by cases s1 <;> simp_all
theorem long1_1 {s1 A1 : Bool} (h : s1 = false) : ((!true || !s1) || A1) = true:=by cases s1 <;> simp_all
theorem gi1_1 {s1 A1 : Bool} (h : s1 = false) (g : ((!true || !s1) || A1) = false) : False:=by cases s1 <;> simp_all
theorem long1_2 {s1 A1 A2 : Bool} (h : s1 = false) : (((!true || !s1) || A1) || A2) = true:=by cases s1 <;> simp_all
theorem gi1_2 {s1 A1 A2 : Bool} (h : s1 = false) (g : (((!true || !s1) || A1) || A2) = false) : False:=by cases s1 <;> simp_all
theorem long1_3 {s1 A1 A2 A3 : Bool} (h : s1 = false) : ((((!true || !s1) || A1) || A2) || A3) = true:=by cases s1 <;> simp_all
theorem gi1_3 {s1 A1 A2 A3 : Bool} (h : s1 = false) (g : ((((!true || !s1) || A1) || A2) || A3) = false) : False:=by cases s1 <;> simp_all
theorem long1_4 {s1 A1 A2 A3 A4 : Bool} (h : s1 = false) : (((((!true || !s1) || A1) || A2) || A3) || A4) = true:=by cases s1 <;> simp_all
theorem gi1_4 {s1 A1 A2 A3 A4 : Bool} (h : s1 = false) (g : (((((!true || !s1) || A1) || A2) || A3) || A4) = false) : False:=by cases s1 <;> simp_all
theorem long1_5 {s1 A1 A2 A3 A4 A5 : Bool} (h : s1 = false) : ((((((!true || !s1) || A1) || A2) || A3) || A4) || A5) = true:=by cases s1 <;> simp_all
theorem gi1_5 {s1 A1 A2 A3 A4 A5 : Bool} (h : s1 = false) (g : ((((((!true || !s1) || A1) || A2) || A3) || A4) || A5) = false) : False:=by cases s1 <;> simp_all
theorem long1_6 {s1 A1 A2 A3 A4 A5 A6 : Bool} (h : s1 = false) : (((((((!true || !s1) || A1) || A2) || A3) || A4) || A5) || A6) = true:=by cases s1 <;> simp_all
theorem gi1_6 {s1 A1 A2 A3 A4 A5 A6 : Bool} (h : s1 = false) (g : (((((((!true || !s1) || A1) || A2) || A3) || A4) || A5) || A6) = false) : False:=by cases s1 <;> simp_all
theorem short2 {s1 s2 : Bool} (h : (s1 && s2) = true) : ((!true || !s1) || !s2) = false:=by cases s1 <;> cases s2 <;> simp_all
theorem long2_0 {s1 s2 : Bool} (h : (s1 && s2) = false) : ((!true || !s1) || !s2) = true:=by cases s1 <;> cases s2 <;> simp_all
theorem gi2_0 {s1 s2 : Bool} (h : (s1 && s2) = false) (g : ((!true || !s1) || !s2) = false) : False:=by cases s1 <;> cases s2 <;> simp_all
theorem long2_1 {s1 s2 A1 : Bool} (h : (s1 && s2) = false) : (((!true || !s1) || !s2) || A1) = true:=by cases s1 <;> cases s2 <;> simp_all
theorem gi2_1 {s1 s2 A1 : Bool} (h : (s1 && s2) = false) (g : (((!true || !s1) || !s2) || A1) = false) : False:=by cases s1 <;> cases s2 <;> simp_all
theorem long2_2 {s1 s2 A1 A2 : Bool} (h : (s1 && s2) = false) : ((((!true || !s1) || !s2) || A1) || A2) = true:=by cases s1 <;> cases s2 <;> simp_all
theorem gi2_2 {s1 s2 A1 A2 : Bool} (h : (s1 && s2) = false) (g : ((((!true || !s1) || !s2) || A1) || A2) = false) : False:=by cases s1 <;> cases s2 <;> simp_all
theorem long2_3 {s1 s2 A1 A2 A3 : Bool} (h : (s1 && s2) = false) : (((((!true || !s1) || !s2) || A1) || A2) || A3) = true:=by cases s1 <;> cases s2 <;> simp_all
theorem gi2_3 {s1 s2 A1 A2 A3 : Bool} (h : (s1 && s2) = false) (g : (((((!true || !s1) || !s2) || A1) || A2) || A3) = false) : False:=by cases s1 <;> cases s2 <;> simp_all
theorem long2_4 {s1 s2 A1 A2 A3 A4 : Bool} (h : (s1 && s2) = false) : ((((((!true || !s1) || !s2) || A1) || A2) || A3) || A4) = true:=by cases s1 <;> cases s2 <;> simp_all
theorem gi2_4 {s1 s2 A1 A2 A3 A4 : Bool} (h : (s1 && s2) = false) (g : ((((((!true || !s1) || !s2) || A1) || A2) || A3) || A4) = false) : False:=by cases s1 <;> cases s2 <;> simp_all
theorem long2_5 {s1 s2 A1 A2 A3 A4 A5 : Bool} (h : (s1 && s2) = false) : (((((((!true || !s1) || !s2) || A1) || A2) || A3) || A4) || A5) = true:=by cases s1 <;> cases s2 <;> simp_all
theorem gi2_5 {s1 s2 A1 A2 A3 A4 A5 : Bool} (h : (s1 && s2) = false) (g : (((((((!true || !s1) || !s2) || A1) || A2) || A3) || A4) || A5) = false) : False:=by cases s1 <;> cases s2 <;> simp_all
theorem long2_6 {s1 s2 A1 A2 A3 A4 A5 A6 : Bool} (h : (s1 && s2) = false) : ((((((((!true || !s1) || !s2) || A1) || A2) || A3) || A4) || A5) || A6) = true:=by cases s1 <;> cases s2 <;> simp_all
theorem gi2_6 {s1 s2 A1 A2 A3 A4 A5 A6 : Bool} (h : (s1 && s2) = false) (g : ((((((((!true || !s1) || !s2) || A1) || A2) || A3) || A4) || A5) || A6) = false) : False:=by cases s1 <;> cases s2 <;> simp_all
theorem short3 {s1 s2 s3 : Bool} (h : ((s1 && s2) && s3) = true) : (((!true || !s1) || !s2) || !s3) = false:=by cases s1 <;> cases s2 <;> cases s3 <;> simp_all
theorem long3_0 {s1 s2 s3 : Bool} (h : ((s1 && s2) && s3) = false) : (((!true || !s1) || !s2) || !s3) = true:=by cases s1 <;> cases s2 <;> cases s3 <;> simp_all
theorem gi3_0 {s1 s2 s3 : Bool} (h : ((s1 && s2) && s3) = false) (g : (((!true || !s1) || !s2) || !s3) = false) : False:=by cases s1 <;> cases s2 <;> cases s3 <;> simp_all
theorem long3_1 {s1 s2 s3 A1 : Bool} (h : ((s1 && s2) && s3) = false) : ((((!true || !s1) || !s2) || !s3) || A1) = true:=by cases s1 <;> cases s2 <;> cases s3 <;> simp_all
theorem gi3_1 {s1 s2 s3 A1 : Bool} (h : ((s1 && s2) && s3) = false) (g : ((((!true || !s1) || !s2) || !s3) || A1) = false) : False:=by cases s1 <;> cases s2 <;> cases s3 <;> simp_all
theorem long3_2 {s1 s2 s3 A1 A2 : Bool} (h : ((s1 && s2) && s3) = false) : (((((!true || !s1) || !s2) || !s3) || A1) || A2) = true:=by cases s1 <;> cases s2 <;> cases s3 <;> simp_all
theorem gi3_2 {s1 s2 s3 A1 A2 : Bool} (h : ((s1 && s2) && s3) = false) (g : (((((!true || !s1) || !s2) || !s3) || A1) || A2) = false) : False:=by cases s1 <;> cases s2 <;> cases s3 <;> simp_all
theorem long3_3 {s1 s2 s3 A1 A2 A3 : Bool} (h : ((s1 && s2) && s3) = false) : ((((((!true || !s1) || !s2) || !s3) || A1) || A2) || A3) = true:=by cases s1 <;> cases s2 <;> cases s3 <;> simp_all
theorem gi3_3 {s1 s2 s3 A1 A2 A3 : Bool} (h : ((s1 && s2) && s3) = false) (g : ((((((!true || !s1) || !s2) || !s3) || A1) || A2) || A3) = false) : False:=by cases s1 <;> cases s2 <;> cases s3 <;> simp_all
theorem long3_4 {s1 s2 s3 A1 A2 A3 A4 : Bool} (h : ((s1 && s2) && s3) = false) : (((((((!true || !s1) || !s2) || !s3) || A1) || A2) || A3) || A4) = true:=by cases s1 <;> cases s2 <;> cases s3 <;> simp_all
theorem gi3_4 {s1 s2 s3 A1 A2 A3 A4 : Bool} (h : ((s1 && s2) && s3) = false) (g : (((((((!true || !s1) || !s2) || !s3) || A1) || A2) || A3) || A4) = false) : False:=by cases s1 <;> cases s2 <;> cases s3 <;> simp_all
theorem long3_5 {s1 s2 s3 A1 A2 A3 A4 A5 : Bool} (h : ((s1 && s2) && s3) = false) : ((((((((!true || !s1) || !s2) || !s3) || A1) || A2) || A3) || A4) || A5) = true:=by cases s1 <;> cases s2 <;> cases s3 <;> simp_all
theorem gi3_5 {s1 s2 s3 A1 A2 A3 A4 A5 : Bool} (h : ((s1 && s2) && s3) = false) (g : ((((((((!true || !s1) || !s2) || !s3) || A1) || A2) || A3) || A4) || A5) = false) : False:=by cases s1 <;> cases s2 <;> cases s3 <;> simp_all
theorem long3_6 {s1 s2 s3 A1 A2 A3 A4 A5 A6 : Bool} (h : ((s1 && s2) && s3) = false) : (((((((((!true || !s1) || !s2) || !s3) || A1) || A2) || A3) || A4) || A5) || A6) = true:=by cases s1 <;> cases s2 <;> cases s3 <;> simp_all
theorem gi3_6 {s1 s2 s3 A1 A2 A3 A4 A5 A6 : Bool} (h : ((s1 && s2) && s3) = false) (g : (((((((((!true || !s1) || !s2) || !s3) || A1) || A2) || A3) || A4) || A5) || A6) = false) : False:=by cases s1 <;> cases s2 <;> cases s3 <;> simp_all
attribute [local irreducible] barC trnC btC dirC dirS dsc ouE ouR ouL ouX ouY ouMX ouMY oaE oaR oaL
theorem shO {A B : Bool} (h : (A && B) = true) : ((!true || !A) || !B) = false:=by cases A <;> cases B <;> simp_all
theorem loO {A B : Bool} (h : (A && B) = false) : ((!true || !A) || !B) = true:=by cases A <;> cases B <;> simp_all
section
variable {a b c d t : FR} {h : Bool}
theorem ouL_t (g a b c : FR) (h : Bool) (t : Rat) : (ouL g a b c h t).length ≤ 2:=by
  unfold ouL;split
  · split
    · exact Nat.le_succ 1
    · exact Nat.le_refl 2
  · exact Nat.zero_le _
theorem oa_n (h1 : ¬ btC [a,b,c,d] h t = 0) : oaE a b c d h t = btC [a,b,c,d] h t ∧ oaR a b c d h t = [] ∧ oaL a b c d h t = []:=by
  unfold oaE oaR oaL;rw [if_neg h1,if_neg h1,if_neg h1];exact ⟨rfl,rfl,rfl⟩
theorem oa_y (h1 : btC [a,b,c,d] h t = 0) : oaE a b c d h t = ouE a b c d h t.val ∧ oaR a b c d h t = ouR a b c d h t.val ∧ oaL a b c d h t = ouL a b c d h t.val:=by
  unfold oaE oaR oaL;rw [if_pos h1,if_pos h1,if_pos h1];exact ⟨rfl,rfl,rfl⟩
theorem oa_b (h1 : ¬ barC [a,b,c,d] = 0) : oaE a b c d h t = barC [a,b,c,d] ∧ oaR a b c d h t = [] ∧ oaL a b c d h t = []:=by
  have e:=bt_3 (h:=h) (t:=t) h1
  rw [e] at h1 ⊢
  exact oa_n h1
theorem oa_2 (h1 : barC [a,b,c,d] = 0) (h2 : trnF h t = false) : oaE a b c d h t = 2 ∧ oaR a b c d h t = [] ∧ oaL a b c d h t = []:=by
  have e : btC [a,b,c,d] h t = 2:=by rw [← bt_t h1];unfold trnC;rw [h2];rfl
  have:=oa_n (a:=a) (b:=b) (c:=c) (d:=d) (h:=h) (t:=t) (by rw [e];decide)
  rw [e] at this;exact this
end
instance gTO5_3_2 : GcT 3 2 false 2 [3,4,12,13,14,15,16,17,18,19,20,21,22,23]:=⟨⟩
instance gTO5_3_3 : GcT 3 3 false 4 [12,13,14,15,16,17,18,19,20,21,22,23]:=⟨⟩
instance gTO5_3_4 : GcT 3 4 false 25 [26,27,28,29,30,31]:=⟨⟩
instance gTO5_3_7 : GcT 3 7 false 32 [33,34,35,36,37,38,39,40]:=⟨⟩
instance gTO5_3_10 : GcT 3 10 false 2 [3,41,42,58,59,60,61,62,63,64]:=⟨⟩
instance gTO5_3_11 : GcT 3 11 false 5 [6,7,8,9,10,65,66,67,68,69,70,71,72,73,74,75,76,77,78,79,80,81]:=⟨⟩
instance gTO5_3_12 : GcT 3 12 false 5 [7,8,9,65,66,67,68,69,70,71,72,73,74,75,76,77,78,79,80,81]:=⟨⟩
instance gTO5_3_16 : GcT 3 16 false 11 [85,86,87,88,89,90,91,92,93,94,95,96,97,98,99,100,101,102,103,104,105,106,107,108,109,110,111,112,113,114,115,116,117,118,119,120,121,122,123,124,125,126,127,128,129]:=⟨⟩
theorem shortOutputEndsB {rg ra rb rc t : FR} {h : Bool} : ConT Tryz.prog 3 [QUD 64 rg ra rb rc,TRN 64 t h] (([rg,ra,rb,rc].all shortR && shortR t) = true ∧ (¬ barC [rg,ra,rb,rc] = 0)) (BT true):=.o2 fun hok ht h1 h2 hp=>by
  refine St.enter (N:=131) Tryz.func3 rfl rfl rfl hok (enter2 h1 h2) fun a=>?_
  refine W.tab ht ?_
  have e0:=shO hp.1
  have e1:=hp.2
  have e2:=(oa_b (h:=h) (t:=t) e1).1
  have e3:=(oa_b (h:=h) (t:=t) e1).2.1
  have e4:=(oa_b (h:=h) (t:=t) e1).2.2
  repeat' (first|((with_reducible refine gS_ ?_);first|((with_reducible refine gL_ ?_);first|refine W.run ?_ fun a w G=>?_|refine W.mv fun a w G=>?_|refine W.asg fun a w G=>?_|refine W.bx fun b a w G=>?_|(refine W.nn hK ?_;clear hK K)|refine W.nl ?_|refine W.al fun b a w G=>?_|refine W.st fun w=>?_|refine W.stp fun w=>?_|refine W.ste ?_ fun w=>?_)|((with_reducible refine gC_ ?_);first|with_reducible refine W.cbt (by first|assumption|(simp [e0,e1,e2,e3,e4];done)|fail) ?_|with_reducible refine W.cbf (by first|assumption|(simp [e0,e1,e2,e3,e4];done)|fail) ?_|with_reducible refine W.gcc 3 ?_|with_reducible refine W.gcd 3 ?_|refine W.reg fun K hK=>?_|refine W.reg1 ?_|refine W.sq fun K hK=>?_|refine W.ds ?_ (fun β a w G hu=>W.fin ?_ hu) mixedOrders (by kernel_rfl)|refine W.sk ?_|refine W.cd (fun hc=>?_) (fun hc=>?_)|refine W.cb (fun hc=>?_) (fun hc=>?_)|refine W.bl ?_|refine W.ex ?_|refine W.rt ?_)|((with_reducible refine W.kn hK ?_);clear hK K)|(with_reducible first|refine W.bn ?_|refine W.xt ?_|refine W.xb ?_|refine W.xo ?_|refine W.tr ?_|refine W.br ?_)|refine W.rt1 rfl ?_|refine W.rt2 rfl ?_ ?_|refine W.rt3 rfl ?_ ?_ ?_)|clear hK K|clear hu|exact True.intro|exact Nat.le_trans (by clear hp;omega) hp|exact Nat.le_trans (by clear hp;omega) hp.1|exact Nat.le_trans (by clear hp;omega) hp.2|(clear hp;omega)|apply And.intro|refine GI.i fun _=>?_|with_reducible rfl|decide|(simp only [List.length_cons,List.length_nil];omega))
  all_goals first
    | omega
    | (simp [e0,e1,e2,e3,e4];done)
    | exact e1
    | rfl
    | (rw [e4] at hc;have h2l:=ouL_t rg ra rb rc h t.val;omega)
    | skip
theorem shortOutputEndsC {rg ra rb rc t : FR} {h : Bool} : ConT Tryz.prog 3 [QUD 64 rg ra rb rc,TRN 64 t h] (([rg,ra,rb,rc].all shortR && shortR t) = true ∧ (barC [rg,ra,rb,rc] = 0 ∧ trnF h t = false)) (BT true):=.o2 fun hok ht h1 h2 hp=>by
  refine St.enter (N:=131) Tryz.func3 rfl rfl rfl hok (enter2 h1 h2) fun a=>?_
  refine W.tab ht ?_
  have e0:=shO hp.1
  have e1:=hp.2.1
  have e5:=hp.2.2
  have e2:=(oa_2 e1 e5).1
  have e3:=(oa_2 e1 e5).2.1
  have e4:=(oa_2 e1 e5).2.2
  repeat' (first|((with_reducible refine gS_ ?_);first|((with_reducible refine gL_ ?_);first|refine W.run ?_ fun a w G=>?_|refine W.mv fun a w G=>?_|refine W.asg fun a w G=>?_|refine W.bx fun b a w G=>?_|(refine W.nn hK ?_;clear hK K)|refine W.nl ?_|refine W.al fun b a w G=>?_|refine W.st fun w=>?_|refine W.stp fun w=>?_|refine W.ste ?_ fun w=>?_)|((with_reducible refine gC_ ?_);first|with_reducible refine W.cbt (by first|assumption|(simp [e0,e1,e2,e3,e4,e5];done)|fail) ?_|with_reducible refine W.cbf (by first|assumption|(simp [e0,e1,e2,e3,e4,e5];done)|fail) ?_|with_reducible refine W.gcc 3 ?_|with_reducible refine W.gcd 3 ?_|refine W.reg fun K hK=>?_|refine W.reg1 ?_|refine W.sq fun K hK=>?_|refine W.ds ?_ (fun β a w G hu=>W.fin ?_ hu) mixedOrders (by kernel_rfl)|refine W.sk ?_|refine W.cd (fun hc=>?_) (fun hc=>?_)|refine W.cb (fun hc=>?_) (fun hc=>?_)|refine W.bl ?_|refine W.ex ?_|refine W.rt ?_)|((with_reducible refine W.kn hK ?_);clear hK K)|(with_reducible first|refine W.bn ?_|refine W.xt ?_|refine W.xb ?_|refine W.xo ?_|refine W.tr ?_|refine W.br ?_)|refine W.rt1 rfl ?_|refine W.rt2 rfl ?_ ?_|refine W.rt3 rfl ?_ ?_ ?_)|clear hK K|clear hu|exact True.intro|exact Nat.le_trans (by clear hp;omega) hp|exact Nat.le_trans (by clear hp;omega) hp.1|exact Nat.le_trans (by clear hp;omega) hp.2|(clear hp;omega)|apply And.intro|refine GI.i fun _=>?_|with_reducible rfl|decide|(simp only [List.length_cons,List.length_nil];omega))
  all_goals first
    | omega
    | (simp [e0,e1,e2,e3,e4,e5];done)
    | exact e1
    | rfl
    | (rw [e4] at hc;have h2l:=ouL_t rg ra rb rc h t.val;omega)
    | skip
theorem shortOutputEndsD {rg ra rb rc t : FR} {h : Bool} : ConT Tryz.prog 3 [QUD 64 rg ra rb rc,TRN 64 t h] (([rg,ra,rb,rc].all shortR && shortR t) = true ∧ (barC [rg,ra,rb,rc] = 0 ∧ trnF h t = true)) (BT true):=.o2 fun hok ht h1 h2 hp=>by
  refine St.enter (N:=131) Tryz.func3 rfl rfl rfl hok (enter2 h1 h2) fun a=>?_
  refine W.tab ht ?_
  have e0:=shO hp.1
  have e1:=hp.2.1
  have e5:=hp.2.2
  have e2:=(oa_y (bt_0 e1 e5)).1
  have e3:=(oa_y (bt_0 e1 e5)).2.1
  have e4:=(oa_y (bt_0 e1 e5)).2.2
  repeat' (first|((with_reducible refine gS_ ?_);first|((with_reducible refine gL_ ?_);first|refine W.run ?_ fun a w G=>?_|refine W.mv fun a w G=>?_|refine W.asg fun a w G=>?_|refine W.bx fun b a w G=>?_|(refine W.nn hK ?_;clear hK K)|refine W.nl ?_|refine W.al fun b a w G=>?_|refine W.st fun w=>?_|refine W.stp fun w=>?_|refine W.ste ?_ fun w=>?_)|((with_reducible refine gC_ ?_);first|with_reducible refine W.cbt (by first|assumption|(simp [e0,e1,e2,e3,e4,e5];done)|fail) ?_|with_reducible refine W.cbf (by first|assumption|(simp [e0,e1,e2,e3,e4,e5];done)|fail) ?_|with_reducible refine W.gcc 3 ?_|with_reducible refine W.gcd 3 ?_|refine W.reg fun K hK=>?_|refine W.reg1 ?_|refine W.sq fun K hK=>?_|refine W.ds ?_ (fun β a w G hu=>W.fin ?_ hu) mixedOrders (by kernel_rfl)|refine W.sk ?_|refine W.cd (fun hc=>?_) (fun hc=>?_)|refine W.cb (fun hc=>?_) (fun hc=>?_)|refine W.bl ?_|refine W.ex ?_|refine W.rt ?_)|((with_reducible refine W.kn hK ?_);clear hK K)|(with_reducible first|refine W.bn ?_|refine W.xt ?_|refine W.xb ?_|refine W.xo ?_|refine W.tr ?_|refine W.br ?_)|refine W.rt1 rfl ?_|refine W.rt2 rfl ?_ ?_|refine W.rt3 rfl ?_ ?_ ?_)|refine W.lp 85 (α:=Nat) (fun j=>(ouL rg ra rb rc h t.val).length - j) (fun j=>j ≤ (ouL rg ra rb rc h t.val).length) [4,11,84,85,86,87,88,89,90,91,92,93,94,95,96,97,98,99,100,101,102,103,104,105,106,107,108,109,110,111,112,113,114,115,116,117,118,119,120,121,122,123,124,125,126,127,128,129,130] (fun j=>[(84,NT j)]) (fun j=>[]) (0) ?_ ?_ ?_ fun j hj a w G=>?_|refine W.ag (x:=j) (j+1) ?_ ?_ ?_ ?_|clear hK K|clear hu|exact True.intro|exact Nat.le_trans (by clear hp;omega) hp|exact Nat.le_trans (by clear hp;omega) hp.1|exact Nat.le_trans (by clear hp;omega) hp.2|(clear hp;omega)|apply And.intro|refine GI.i fun _=>?_|with_reducible rfl|decide|(simp only [List.length_cons,List.length_nil];omega))
  all_goals first
    | omega
    | (simp [e0,e1,e2,e3,e4,e5];done)
    | exact e1
    | rfl
    | (rw [e4] at hc;have h2l:=ouL_t rg ra rb rc h t.val;omega)
    | skip
theorem longOutputEnds {rg ra rb rc t : FR} {h : Bool} : ConT Tryz.prog 3 [PTS [(some 3,RX rg),(some 3,RX ra),(some 3,RX rb),(some 3,RX rc)],PTS [(some 3,RX t),(none,BT h)]] (([rg,ra,rb,rc].all shortR && shortR t) = false) (BT true):=.o2 fun hok ht h1 h2 hp=>by
  refine St.enter (N:=131) Tryz.func3 rfl rfl rfl hok (enter2 h1 h2) fun a=>?_
  refine W.tab ht ?_
  repeat' (first|refine W.cbt (long2_0 hp) ?_|((with_reducible refine gS_ ?_);first|((with_reducible refine gL_ ?_);first|refine W.run ?_ fun a w G=>?_|refine W.mv fun a w G=>?_|refine W.asg fun a w G=>?_|refine W.bx fun b a w G=>?_|(refine W.nn hK ?_;clear hK K)|refine W.nl ?_|refine W.al fun b a w G=>?_|refine W.st fun w=>?_|refine W.stp fun w=>?_|refine W.ste ?_ fun w=>?_)|((with_reducible refine gC_ ?_);first|refine W.reg fun K hK=>?_|refine W.reg1 ?_|refine W.sq fun K hK=>?_|refine W.ds ?_ (fun β a w G hu=>W.fin ?_ hu) mixedOrders (by kernel_rfl)|refine W.sk ?_|refine W.cd (fun hc=>?_) (fun hc=>?_)|refine W.cb (fun hc=>?_) (fun hc=>?_)|refine W.bl ?_|refine W.ex ?_|refine W.rt ?_)|((with_reducible refine W.kn hK ?_);clear hK K)|(with_reducible first|refine W.bn ?_|refine W.xt ?_|refine W.xb ?_|refine W.xo ?_|refine W.tr ?_|refine W.br ?_)|refine W.rt1 rfl ?_|refine W.rt2 rfl ?_ ?_|refine W.rt3 rfl ?_ ?_ ?_)|clear hK K|clear hu|exact True.intro|exact Nat.le_trans (by clear hp;omega) hp|exact Nat.le_trans (by clear hp;omega) hp.1|exact Nat.le_trans (by clear hp;omega) hp.2|(clear hp;omega)|apply And.intro|refine GI.i fun _=>?_|with_reducible rfl|decide|(simp only [List.length_cons,List.length_nil];omega))
  all_goals skip
theorem lawOutputEnds {rg ra rb rc t : FR} {h : Bool} {w : World} {G : Gh} {v1 v2 : Value} (hok : Gok w G) (ht : TAB G) (h1 : (PTS [(some 3,RX rg),(some 3,RX ra),(some 3,RX rb),(some 3,RX rc)]).t v1 G) (h2 : (PTS [(some 3,RX t),(none,BT h)]).t v2 G) : Calls Tryz.prog 3 #[v1,v2] w (Ret w G (BT true)):=by
  cases hs : ([rg,ra,rb,rc].all shortR && shortR t) with
  | true =>
    have hq:=hs
    (try simp only [shortF,List.all_cons,List.all_nil,Bool.and_true,Bool.and_eq_true] at hq)
    have hcs : (¬ barC [rg,ra,rb,rc] = 0) ∨ (barC [rg,ra,rb,rc] = 0 ∧ trnF h t = false) ∨ (barC [rg,ra,rb,rc] = 0 ∧ trnF h t = true):=by
      by_cases e : barC [rg,ra,rb,rc] = 0
      · cases e2 : trnF h t with
        | false=>exact .inr (.inl ⟨e,rfl⟩)
        | true=>exact .inr (.inr ⟨e,rfl⟩)
      · exact .inl e
    rcases hcs with hcs | hcs | hcs
    · exact shortOutputEndsB.c2 hok ht (NS.h (τ':=QUD 64 rg ra rb rc) (by (try simp only [and_true,true_and]);grind) h1) (NS.h (τ':=TRN 64 t h) (by (try simp only [and_true,true_and]);grind) h2) ⟨hs,hcs⟩
    · exact shortOutputEndsC.c2 hok ht (NS.h (τ':=QUD 64 rg ra rb rc) (by (try simp only [and_true,true_and]);grind) h1) (NS.h (τ':=TRN 64 t h) (by (try simp only [and_true,true_and]);grind) h2) ⟨hs,hcs⟩
    · exact shortOutputEndsD.c2 hok ht (NS.h (τ':=QUD 64 rg ra rb rc) (by (try simp only [and_true,true_and]);grind) h1) (NS.h (τ':=TRN 64 t h) (by (try simp only [and_true,true_and]);grind) h2) ⟨hs,hcs⟩
  | false=>exact longOutputEnds.c2 hok ht h1 h2 hs
end Go.Proofs.YtnjbcjmkkejfpaaGreatDoor
namespace Go.Proofs.YtnjbcjmkkejfpaaGreatDoor
open Go.RowKit (Below)
theorem md4_lt (k : Int) : md4 k < 4:=by
  have h : md4 k = (k % 4).toNat:=rfl
  omega
theorem tmod4 (k : Int) : k.tmod 4 = k % 4 ∨ (k.tmod 4 = k % 4 - 4 ∧ k % 4 ≠ 0):=by
  rw [Int.tmod_eq_emod]
  split
  · left;omega
  · rename_i h
    right
    have h2 : ¬ (4 : Int) ∣ k:=fun h3=>h (.inr h3)
    refine ⟨by simp,fun h3=>h2 (Int.dvd_of_emod_eq_zero h3)⟩
theorem tmod4_bd (k : Int) : -9223372036854775808 ≤ k.tmod 4 + 4 ∧ k.tmod 4 + 4 ≤ 9223372036854775807:=by
  have:=tmod4 k;omega
theorem md4_eq (k : Int) : (k.tmod 4 + 4).tmod 4 = ((md4 k : Nat) : Int):=by
  have h:=tmod4 k
  have h1 : (k.tmod 4 + 4).tmod 4 = (k.tmod 4 + 4) % 4:=Int.tmod_eq_emod_of_nonneg (by omega)
  rw [h1]
  have h2 : ((md4 k : Nat) : Int) = k % 4:=by unfold md4;exact Int.toNat_of_nonneg (Int.emod_nonneg k (by decide))
  rw [h2]
  omega
def invL (l : List FR) (m n : Nat) : List FR:=(List.range n).map fun j=>FR.of ((l.getD ((j + m) % 4) default).val)
theorem inv_next {l : List FR} {m n : Nat} : invL l m n ++ [FR.of ((l.getD ((n + m) % 4) default).val)] = invL l m (n + 1):=by unfold invL;rw [List.range_succ,List.map_append];rfl
theorem inv_len {l : List FR} {m n : Nat} : (invL l m n).length = n:=by unfold invL;simp
theorem inv_at {l : List FR} {k : Int} {j : Nat} (h : chkF l = 0) (hj : j < 4) : (invL l (md4 k) 4).getD j default = invF l k j:=by
  unfold invF invL;rw [if_pos h]
  rw [List.getD_eq_getElem?_getD,List.getElem?_map,List.getElem?_range hj];rfl
theorem inv_bad {l : List FR} {k : Int} {j : Nat} (h : chkF l ≠ 0) : default = invF l k j:=by unfold invF;rw [if_neg h]
end Go.Proofs.YtnjbcjmkkejfpaaGreatDoor
namespace Go.Proofs.YtnjbcjmkkejfpaaGreatDoor
theorem fr_self {r : FR} (hw : wfl r.p ∧ wfl r.q) (hok : r.ok = true) : FR.of r.val = r:=by
  obtain ⟨s,p,q⟩:=r
  have hw : wfl p ∧ wfl q:=hw
  have hok : qok s p q = true:=hok
  by_cases hp : p.length = 0
  · have e:=List.length_eq_zero_iff.1 hp
    subst e
    have h : qok s [] q = true:=hok
    have hv : FR.val ⟨s,[],q⟩ = 0:=qval_nil rfl
    unfold qok at h
    split at h
    · rename_i k
      obtain rfl:=k.2
      rw [hv]
      have : s = false:=by simpa using h
      subst this
      unfold FR.of dwords
      rw [if_pos rfl,show (0 : Rat).num.natAbs = 0 from rfl,words_zero];rfl
    · simp at h
  · obtain ⟨_,h3,h4,h5,h6⟩:=qval_parts hw hok hp
    have hp0 : val p ≠ 0:=fun e=>ne_of_len hp (val_eq_zero h3 e)
    have hne : FR.val ⟨s,p,q⟩ ≠ 0:=fun e=>by
      have h5' : (FR.val ⟨s,p,q⟩).num = sg s (val p):=h5
      rw [e] at h5'
      have:=congrArg Int.natAbs h5'
      rw [sg_abs] at this;exact hp0 this.symm
    have hs : decide (FR.val ⟨s,p,q⟩ < 0) = s:=by
      have h5' : (FR.val ⟨s,p,q⟩).num = sg s (val p):=h5
      have h7 : FR.val ⟨s,p,q⟩ < 0 ↔ (FR.val ⟨s,p,q⟩).num < 0:=by
        rw [← Rat.not_le,← Rat.num_nonneg];omega
      rw [Bool.eq_iff_iff,decide_eq_true_iff,h7,h5']
      cases s <;> simp [sg] <;> omega
    unfold FR.of dwords
    rw [if_neg hne,hs]
    have e1 : (FR.val ⟨s,p,q⟩).num.natAbs = val p:=(congrArg Int.natAbs h5).trans sg_abs
    have e2 : (FR.val ⟨s,p,q⟩).den = val q:=h6
    rw [e1,e2,words_val hw.1 h3,words_val hw.2 h4]
theorem FX.self {n : Nat} {r : FR} {v : Value} {G : Gh} (h : (FX n r).t v G) (hok : r.ok = true) : (FX n (FR.of r.val)).t v G:=FX.eq h (fr_self (QR.wf (FX.qr h)) hok).symm
theorem FX.inv {n : Nat} {ra rb rc rd : FR} {k : Int} {j : Nat} {v : Value} {G : Gh} (hck : chkF [ra,rb,rc,rd] = 0) (h : (FX n ([ra,rb,rc,rd].getD ((j + md4 k) % 4) default)).t v G) : (FX n (invF [ra,rb,rc,rd] k j)).t v G:=by
  have hp:=chk_pos hck
  unfold invF;rw [if_pos hck]
  refine FX.self h ?_
  have hlt : (j + md4 k) % 4 < [ra,rb,rc,rd].length:=Nat.mod_lt _ (by decide)
  have hm : [ra,rb,rc,rd].getD ((j + md4 k) % 4) default ∈ [ra,rb,rc,rd]:=by
    rw [List.getD_eq_getElem?_getD,List.getElem?_eq_getElem hlt];exact List.getElem_mem hlt
  have:=List.all_eq_true.1 hp _ hm
  unfold posR at this
  exact (Bool.and_eq_true_iff.1 this).1
section
variable {a b c d A B C D : Rat}
theorem sums_cmp (ha : 0 ≤ a) (hb : 0 ≤ b) (hc : 0 ≤ c) (hd : 0 ≤ d) (hA : (A = a ∧ B = b) ∨ (A = b ∧ B = a)) (hC : (C = c ∧ D = d) ∨ (C = d ∧ D = c)) : sumsF A B C D = compareF [a,b] [c,d]:=by
  rw [cmp4 ha hb hc hd]
  rcases hA with ⟨rfl,rfl⟩ | ⟨rfl,rfl⟩ <;> rcases hC with ⟨rfl,rfl⟩ | ⟨rfl,rfl⟩
  · rw [sums_four ha hb hc hd]
  · rw [sums_four ha hb hd hc,RR.add_comm (rt C)]
  · rw [sums_four hb ha hc hd,RR.add_comm (rt A)]
  · rw [sums_four hb ha hd hc,RR.add_comm (rt A),RR.add_comm (rt C)]
theorem mm_t (h : cmpQ a b < 0) : maxQ a b = b ∧ minQ a b = a:=by
  have:=cmpQ_lt0.1 h
  exact ⟨max_le (by grind),min_le (by grind)⟩
theorem mm_f (h : ¬ cmpQ a b < 0) : maxQ a b = a ∧ minQ a b = b:=by
  rw [cmpQ_lt0] at h
  unfold maxQ minQ
  refine ⟨if_pos (Rat.not_lt.1 h),?_⟩
  split <;> grind
theorem sums_cmp2 (ha : 0 ≤ a) (hb : 0 ≤ b) (hc : 0 ≤ c) (hd : 0 ≤ d) (hA : maxQ a b = A ∧ minQ a b = B) (hC : maxQ c d = C ∧ minQ c d = D) : sumsF A D B C = compareF [maxQ a b,minQ c d] [minQ a b,maxQ c d]:=by
  have n1 : 0 ≤ maxQ a b:=by unfold maxQ;split <;> assumption
  have n2 : 0 ≤ minQ a b:=by unfold minQ;split <;> assumption
  have n3 : 0 ≤ maxQ c d:=by unfold maxQ;split <;> assumption
  have n4 : 0 ≤ minQ c d:=by unfold minQ;split <;> assumption
  rw [← hA.1,← hA.2,← hC.1,← hC.2,sums_four n1 n4 n2 n3,cmp4 n1 n4 n2 n3]
end
theorem rrot_t {l : List FR} {k : Nat} (c : compareF [(l.getD k default).val, (l.getD ((k + 3) % 4) default).val] [(l.getD ((k + 1) % 4) default).val, (l.getD ((k + 2) % 4) default).val] ≤ 0) :
    decide (compareF [maxQ (l.getD k default).val (l.getD ((k + 3) % 4) default).val,minQ (l.getD ((k + 1) % 4) default).val (l.getD ((k + 2) % 4) default).val] [minQ (l.getD k default).val (l.getD ((k + 3) % 4) default).val,maxQ (l.getD ((k + 1) % 4) default).val (l.getD ((k + 2) % 4) default).val] ≥ 0) = rotL l k:=by
  unfold rotL;rw [decide_eq_true c,Bool.true_and]
theorem rrot_f {l : List FR} {k : Nat} (c : ¬ compareF [(l.getD k default).val,(l.getD ((k + 3) % 4) default).val] [(l.getD ((k + 1) % 4) default).val,(l.getD ((k + 2) % 4) default).val] ≤ 0) : false = rotL l k:=by
  unfold rotL;rw [decide_eq_false c,Bool.false_and]
theorem rotF_in2 {l : List FR} {k : Int} (h : chkF l = 0) (hk : 0 ≤ k ∧ k ≤ 3) : rotF l k = rotL l k.toNat:=rotF_ok (by omega) hk
end Go.Proofs.YtnjbcjmkkejfpaaGreatDoor
set_option linter.unusedVariables false
set_option linter.unusedSimpArgs false
set_option maxHeartbeats 4000000
set_option maxRecDepth 100000
set_option synthInstance.maxSize 100000
set_option synthInstance.maxHeartbeats 400000
namespace Go.Proofs.YtnjbcjmkkejfpaaGreatDoor
open Go.RowKit (Below)
attribute [local irreducible] Go.Code.wp Go.wpList Go.bodyPost
attribute [local irreducible] barC trnC btC dirC dirS dsc ouE ouR ouL ouX ouY ouMX ouMY oaE oaR oaL okV quF
section
variable {g a b c t : FR} {h : Bool}
theorem quF_0 (hb : barC [g,a,b,c] = 0) : quF [g,a,b,c] 0 = FR.of (g.val * g.val) ∧ quF [g,a,b,c] 1 = FR.of (a.val * a.val) ∧ quF [g,a,b,c] 2 = FR.of b.val ∧ quF [g,a,b,c] 3 = FR.of c.val:=by
  unfold quF;simp only [if_pos hb];exact ⟨rfl,rfl,rfl,rfl⟩
theorem fr_00 : FR.of 0 = (default : FR):=by
  have e1 : (FR.of 0).p = []:=words_zero
  have e2 : (FR.of 0).q = []:=by show dwords 0 = [];simp [dwords]
  have e3 : (FR.of 0).s = false:=by show decide ((0 : Rat) < 0) = false;decide
  show FR.mk (FR.of 0).s (FR.of 0).p (FR.of 0).q = FR.mk false [] []
  rw [e1,e2,e3]
theorem of_self {n : Nat} {g a b c : FR} {v : Value} {G : Gh} (h : (QUD n g a b c).t v G) (hb : barC [g,a,b,c] = 0) : FR.of b.val = b ∧ FR.of c.val = c:=by
  have hk:=bar_pos hb
  simp only [List.all_cons,List.all_nil,Bool.and_true,Bool.and_eq_true,posR] at hk
  obtain ⟨us,_,hl,hE⟩:=h
  match us,hl with
  | [u1,u2,u3,u4],_=>exact ⟨fr_self (QR.wf (FX.qr (hE 2 _ u3 rfl rfl).2)) hk.2.2.1.1,fr_self (QR.wf (FX.qr (hE 3 _ u4 rfl rfl).2)) hk.2.2.2.1⟩
theorem bt_22 (h1 : barC [g,a,b,c] = 0) (h2 : trnF h t = false) : btC [g,a,b,c] h t = 2:=by
  rw [← bt_t h1];unfold trnC;rw [h2];rfl
end
instance gTO6_4_2 : GcT 4 2 false 2 [3,4,14,15,16,17,18,19,20,21,22,23,24,25]:=⟨⟩
instance gTO6_4_3 : GcT 4 3 false 4 [14,15,16,17,18,19,20,21,22,23,24,25]:=⟨⟩
instance gTO6_4_5 : GcT 4 5 false 27 [28,29,30,31,32,33,34,35,36,37]:=⟨⟩
instance gTO6_4_6 : GcT 4 6 false 38 [39,40,41,42,43]:=⟨⟩
instance gTO6_4_8 : GcT 4 8 false 2 [3,5,6,7,8,9,10,11,44,45,46,47,48,49,50]:=⟨⟩
instance gTO6_4_9 : GcT 4 9 false 44 [45,46,47,48,49,50]:=⟨⟩
instance gTO6_4_13 : GcT 4 13 false 2 [3,5,6,7,8,9,10,11,12,51,52,86,87,88,89,90,91,92,93,94,95,96,97,98,99,100,101,102,103,104,105,106,107,108,109,110,111,112,113,114,115,116,117,118,119,120,121]:=⟨⟩
instance gTO6_4_14 : GcT 4 14 false 5 [6,11,12,51,52,86,87,88,89,90,91,92,93,94,95,96,97,98,99,100,101,102,103,104,105,106,107,108,109,110,111,112,113,114,115,116,117,118,119,120,121]:=⟨⟩
instance gTO6_4_17 : GcT 4 17 false 122 [123,124,142,143,144]:=⟨⟩
theorem shortOutputChecksB {rg ra rb rc t : FR} {h : Bool} : ConT Tryz.prog 4 [QUD 64 rg ra rb rc,TRN 64 t h] (([rg,ra,rb,rc].all shortR && shortR t) = true ∧ (¬ barC [rg,ra,rb,rc] = 0)) (BT true):=.o2 fun hok ht h1 h2 hp=>by
  refine St.enter (N:=172) Tryz.func4 rfl rfl rfl hok (enter2 h1 h2) fun a=>?_
  refine W.tab ht ?_
  have e0:=shO hp.1
  have e1:=hp.2
  have e2:=(bt_3 (h:=h) (t:=t) e1).symm
  have e3 : ∀ x,okV (barC [rg,ra,rb,rc]) x = 0:=fun x=>okV_n e1
  have e4 : ∀ j,quF [rg,ra,rb,rc] j = default:=fun j=>(qu_bad e1).symm
  repeat' (first|((with_reducible refine gS_ ?_);first|((with_reducible refine gL_ ?_);first|refine W.run ?_ fun a w G=>?_|refine W.mv fun a w G=>?_|refine W.asg fun a w G=>?_|refine W.bx fun b a w G=>?_|(refine W.nn hK ?_;clear hK K)|refine W.nl ?_|refine W.al fun b a w G=>?_|refine W.st fun w=>?_|refine W.stp fun w=>?_|refine W.ste ?_ fun w=>?_)|((with_reducible refine gC_ ?_);first|with_reducible refine W.cbt (by first|assumption|(simp [e0,e1,e2,e3,e4,fr_00];done)|fail) ?_|with_reducible refine W.cbf (by first|assumption|(simp [e0,e1,e2,e3,e4,fr_00];done)|fail) ?_|with_reducible refine W.gcc 4 ?_|with_reducible refine W.gcd 4 ?_|refine W.reg fun K hK=>?_|refine W.reg1 ?_|refine W.sq fun K hK=>?_|refine W.ds ?_ (fun β a w G hu=>W.fin ?_ hu) mixedOrders (by kernel_rfl)|refine W.sk ?_|refine W.cd (fun hc=>?_) (fun hc=>?_)|refine W.cb (fun hc=>?_) (fun hc=>?_)|refine W.bl ?_|refine W.ex ?_|refine W.rt ?_)|((with_reducible refine W.kn hK ?_);clear hK K)|(with_reducible first|refine W.bn ?_|refine W.xt ?_|refine W.xb ?_|refine W.xo ?_|refine W.tr ?_|refine W.br ?_)|refine W.rt1 rfl ?_|refine W.rt2 rfl ?_ ?_|refine W.rt3 rfl ?_ ?_ ?_)|clear hK K|clear hu|exact True.intro|exact Nat.le_trans (by clear hp;omega) hp|exact Nat.le_trans (by clear hp;omega) hp.1|exact Nat.le_trans (by clear hp;omega) hp.2|(clear hp;omega)|apply And.intro|refine GI.i fun _=>?_|with_reducible rfl|decide|(simp only [List.length_cons,List.length_nil];omega))
  all_goals first
    | omega
    | (simp [e0,e1,e2,e3,e4,fr_00];done)
    | exact e1
    | exact e5
    | rfl
    | skip
theorem shortOutputChecksC {rg ra rb rc t : FR} {h : Bool} : ConT Tryz.prog 4 [QUD 64 rg ra rb rc,TRN 64 t h] (([rg,ra,rb,rc].all shortR && shortR t) = true ∧ (barC [rg,ra,rb,rc] = 0 ∧ trnF h t = false)) (BT true):=.o2 fun hok ht h1 h2 hp=>by
  refine St.enter (N:=172) Tryz.func4 rfl rfl rfl hok (enter2 h1 h2) fun a=>?_
  refine W.tab ht ?_
  have e0:=shO hp.1
  have e1:=hp.2.1
  have e5:=hp.2.2
  have e2:=bt_22 e1 e5
  have e3 : ∀ x,okV 2 x = 0:=fun x=>okV_n (by decide)
  have e4:=quF_0 e1
  have e6:=of_self h1 e1
  repeat' (first|((with_reducible refine gS_ ?_);first|((with_reducible refine gL_ ?_);first|refine W.run ?_ fun a w G=>?_|refine W.mv fun a w G=>?_|refine W.asg fun a w G=>?_|refine W.bx fun b a w G=>?_|(refine W.nn hK ?_;clear hK K)|refine W.nl ?_|refine W.al fun b a w G=>?_|refine W.st fun w=>?_|refine W.stp fun w=>?_|refine W.ste ?_ fun w=>?_)|((with_reducible refine gC_ ?_);first|with_reducible refine W.cbt (by first|assumption|(simp [e0,e1,e2,e3,e4.1,e4.2.1,e4.2.2.1,e4.2.2.2,e5,e6.1,e6.2,fr_00];done)|fail) ?_|with_reducible refine W.cbf (by first|assumption|(simp [e0,e1,e2,e3,e4.1,e4.2.1,e4.2.2.1,e4.2.2.2,e5,e6.1,e6.2,fr_00];done)|fail) ?_|with_reducible refine W.gcc 4 ?_|with_reducible refine W.gcd 4 ?_|refine W.reg fun K hK=>?_|refine W.reg1 ?_|refine W.sq fun K hK=>?_|refine W.ds ?_ (fun β a w G hu=>W.fin ?_ hu) mixedOrders (by kernel_rfl)|refine W.sk ?_|refine W.cd (fun hc=>?_) (fun hc=>?_)|refine W.cb (fun hc=>?_) (fun hc=>?_)|refine W.bl ?_|refine W.ex ?_|refine W.rt ?_)|((with_reducible refine W.kn hK ?_);clear hK K)|(with_reducible first|refine W.bn ?_|refine W.xt ?_|refine W.xb ?_|refine W.xo ?_|refine W.tr ?_|refine W.br ?_)|refine W.rt1 rfl ?_|refine W.rt2 rfl ?_ ?_|refine W.rt3 rfl ?_ ?_ ?_)|clear hK K|clear hu|exact True.intro|exact Nat.le_trans (by clear hp;omega) hp|exact Nat.le_trans (by clear hp;omega) hp.1|exact Nat.le_trans (by clear hp;omega) hp.2|(clear hp;omega)|apply And.intro|refine GI.i fun _=>?_|with_reducible rfl|decide|(simp only [List.length_cons,List.length_nil];omega))
  all_goals first
    | omega
    | (simp [e0,e1,e2,e3,e4.1,e4.2.1,e4.2.2.1,e4.2.2.2,e5,e6.1,e6.2,fr_00];done)
    | exact e1
    | exact e5
    | rfl
    | skip
theorem shortOutputChecksD {rg ra rb rc t : FR} {h : Bool} : ConT Tryz.prog 4 [QUD 64 rg ra rb rc,TRN 64 t h] (([rg,ra,rb,rc].all shortR && shortR t) = true ∧ (barC [rg,ra,rb,rc] = 0 ∧ trnF h t = true)) (BT true):=.o2 fun hok ht h1 h2 hp=>by
  refine St.enter (N:=172) Tryz.func4 rfl rfl rfl hok (enter2 h1 h2) fun a=>?_
  refine W.tab ht ?_
  have e0:=shO hp.1
  have e1:=hp.2.1
  have e5:=hp.2.2
  have e2:=bt_0 e1 e5
  have e3 : ∀ x,okV 0 x = x:=fun x=>okV_0 rfl
  have e4:=quF_0 e1
  have e6:=of_self h1 e1
  repeat' (first|((with_reducible refine gS_ ?_);first|((with_reducible refine gL_ ?_);first|refine W.run ?_ fun a w G=>?_|refine W.mv fun a w G=>?_|refine W.asg fun a w G=>?_|refine W.bx fun b a w G=>?_|(refine W.nn hK ?_;clear hK K)|refine W.nl ?_|refine W.al fun b a w G=>?_|refine W.st fun w=>?_|refine W.stp fun w=>?_|refine W.ste ?_ fun w=>?_)|((with_reducible refine gC_ ?_);first|with_reducible refine W.cbt (by first|assumption|(simp [e0,e1,e2,e3,e4.1,e4.2.1,e4.2.2.1,e4.2.2.2,e5,e6.1,e6.2,fr_00];done)|fail) ?_|with_reducible refine W.cbf (by first|assumption|(simp [e0,e1,e2,e3,e4.1,e4.2.1,e4.2.2.1,e4.2.2.2,e5,e6.1,e6.2,fr_00];done)|fail) ?_|with_reducible refine W.gcc 4 ?_|with_reducible refine W.gcd 4 ?_|refine W.reg fun K hK=>?_|refine W.reg1 ?_|refine W.sq fun K hK=>?_|refine W.ds ?_ (fun β a w G hu=>W.fin ?_ hu) mixedOrders (by kernel_rfl)|refine W.sk ?_|refine W.cd (fun hc=>?_) (fun hc=>?_)|refine W.cb (fun hc=>?_) (fun hc=>?_)|refine W.bl ?_|refine W.ex ?_|refine W.rt ?_)|((with_reducible refine W.kn hK ?_);clear hK K)|(with_reducible first|refine W.bn ?_|refine W.xt ?_|refine W.xb ?_|refine W.xo ?_|refine W.tr ?_|refine W.br ?_)|refine W.rt1 rfl ?_|refine W.rt2 rfl ?_ ?_|refine W.rt3 rfl ?_ ?_ ?_)|clear hK K|clear hu|exact True.intro|exact Nat.le_trans (by clear hp;omega) hp|exact Nat.le_trans (by clear hp;omega) hp.1|exact Nat.le_trans (by clear hp;omega) hp.2|(clear hp;omega)|apply And.intro|refine GI.i fun _=>?_|with_reducible rfl|decide|(simp only [List.length_cons,List.length_nil];omega))
  all_goals first
    | omega
    | (simp [e0,e1,e2,e3,e4.1,e4.2.1,e4.2.2.1,e4.2.2.2,e5,e6.1,e6.2,fr_00];done)
    | exact e1
    | exact e5
    | rfl
    | skip
theorem longOutputChecks {rg ra rb rc t : FR} {h : Bool} : ConT Tryz.prog 4 [PTS [(some 3,RX rg),(some 3,RX ra),(some 3,RX rb),(some 3,RX rc)],PTS [(some 3,RX t),(none,BT h)]] (([rg,ra,rb,rc].all shortR && shortR t) = false) (BT true):=.o2 fun hok ht h1 h2 hp=>by
  refine St.enter (N:=172) Tryz.func4 rfl rfl rfl hok (enter2 h1 h2) fun a=>?_
  refine W.tab ht ?_
  repeat' (first|refine W.cbt (long2_0 hp) ?_|((with_reducible refine gS_ ?_);first|((with_reducible refine gL_ ?_);first|refine W.run ?_ fun a w G=>?_|refine W.mv fun a w G=>?_|refine W.asg fun a w G=>?_|refine W.bx fun b a w G=>?_|(refine W.nn hK ?_;clear hK K)|refine W.nl ?_|refine W.al fun b a w G=>?_|refine W.st fun w=>?_|refine W.stp fun w=>?_|refine W.ste ?_ fun w=>?_)|((with_reducible refine gC_ ?_);first|refine W.reg fun K hK=>?_|refine W.reg1 ?_|refine W.sq fun K hK=>?_|refine W.ds ?_ (fun β a w G hu=>W.fin ?_ hu) mixedOrders (by kernel_rfl)|refine W.sk ?_|refine W.cd (fun hc=>?_) (fun hc=>?_)|refine W.cb (fun hc=>?_) (fun hc=>?_)|refine W.bl ?_|refine W.ex ?_|refine W.rt ?_)|((with_reducible refine W.kn hK ?_);clear hK K)|(with_reducible first|refine W.bn ?_|refine W.xt ?_|refine W.xb ?_|refine W.xo ?_|refine W.tr ?_|refine W.br ?_)|refine W.rt1 rfl ?_|refine W.rt2 rfl ?_ ?_|refine W.rt3 rfl ?_ ?_ ?_)|clear hK K|clear hu|exact True.intro|exact Nat.le_trans (by clear hp;omega) hp|exact Nat.le_trans (by clear hp;omega) hp.1|exact Nat.le_trans (by clear hp;omega) hp.2|(clear hp;omega)|apply And.intro|refine GI.i fun _=>?_|with_reducible rfl|decide|(simp only [List.length_cons,List.length_nil];omega))
  all_goals skip
theorem lawOutputChecks {rg ra rb rc t : FR} {h : Bool} {w : World} {G : Gh} {v1 v2 : Value} (hok : Gok w G) (ht : TAB G) (h1 : (PTS [(some 3,RX rg),(some 3,RX ra),(some 3,RX rb),(some 3,RX rc)]).t v1 G) (h2 : (PTS [(some 3,RX t),(none,BT h)]).t v2 G) : Calls Tryz.prog 4 #[v1,v2] w (Ret w G (BT true)):=by
  cases hs : ([rg,ra,rb,rc].all shortR && shortR t) with
  | true =>
    have hq:=hs
    (try simp only [shortF,List.all_cons,List.all_nil,Bool.and_true,Bool.and_eq_true] at hq)
    have hcs : (¬ barC [rg,ra,rb,rc] = 0) ∨ (barC [rg,ra,rb,rc] = 0 ∧ trnF h t = false) ∨ (barC [rg,ra,rb,rc] = 0 ∧ trnF h t = true):=by
      by_cases e : barC [rg,ra,rb,rc] = 0
      · cases e2 : trnF h t with
        | false=>exact .inr (.inl ⟨e,rfl⟩)
        | true=>exact .inr (.inr ⟨e,rfl⟩)
      · exact .inl e
    rcases hcs with hcs | hcs | hcs
    · exact shortOutputChecksB.c2 hok ht (NS.h (τ':=QUD 64 rg ra rb rc) (by (try simp only [and_true,true_and]);grind) h1) (NS.h (τ':=TRN 64 t h) (by (try simp only [and_true,true_and]);grind) h2) ⟨hs,hcs⟩
    · exact shortOutputChecksC.c2 hok ht (NS.h (τ':=QUD 64 rg ra rb rc) (by (try simp only [and_true,true_and]);grind) h1) (NS.h (τ':=TRN 64 t h) (by (try simp only [and_true,true_and]);grind) h2) ⟨hs,hcs⟩
    · exact shortOutputChecksD.c2 hok ht (NS.h (τ':=QUD 64 rg ra rb rc) (by (try simp only [and_true,true_and]);grind) h1) (NS.h (τ':=TRN 64 t h) (by (try simp only [and_true,true_and]);grind) h2) ⟨hs,hcs⟩
  | false=>exact longOutputChecks.c2 hok ht h1 h2 hs
end Go.Proofs.YtnjbcjmkkejfpaaGreatDoor
