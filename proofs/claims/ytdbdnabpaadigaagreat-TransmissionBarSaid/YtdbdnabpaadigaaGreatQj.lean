import Derived.ChangeArms
import Derived.SizedLaws
import Derived.WideShapes
import Derived.Test.YtdbdnabpaadigaaGreatQi
set_option linter.unusedVariables false
set_option linter.unusedSimpArgs false
set_option linter.unusedVariables false
set_option linter.unusedSimpArgs false
set_option maxHeartbeats 4000000
set_option maxRecDepth 100000
set_option synthInstance.maxSize 100000
set_option synthInstance.maxHeartbeats 400000
namespace Go.Proofs.YtdbdnabpaadigaaGreat
open Go.RowKit (Below)
attribute [local irreducible] Go.Code.wp Go.wpList Go.bodyPost
private theorem gS_ {W0 : World} {G0 : Gh} {N : Nat} {L : List (Nat × MT)} {B : List BX} {a : Act} {w : World} {G : Gh} {q : Prop} (h : St W0 G0 N L B a w G → q) : St W0 G0 N L B a w G → q:=h
private theorem gL_ {p : Prop} {P : Program} {arr : Array Oper} {Q : Exit → Act → World → Prop} {l : List Oper} {a : Act} {w : World} (h : p → wpList P arr Q l a w) : p → wpList P arr Q l a w:=h
private theorem gC_ {p : Prop} {P : Program} {c : Code} {Q : Exit → Act → World → Prop} {a : Act} {w : World} (h : p → c.wp P Q a w) : p → c.wp P Q a w:=h
private theorem mixedOrders : Tryz.prog.follows .mixedOrders = true:=by kernel_rfl
theorem shortR_t8 {r : FR} (h : (decide (((r.p.length : Nat) : Int) > 2) || decide (((r.q.length : Nat) : Int) > 2)) = true) : shortR r = false:=by
  simp only [Bool.or_eq_true,decide_eq_true_eq] at h
  exact shortR_not (by omega)
theorem shortR_f8 {r : FR} (h : (decide (((r.p.length : Nat) : Int) > 2) || decide (((r.q.length : Nat) : Int) > 2)) = false) : shortR r = true:=by
  simp only [Bool.or_eq_false_iff,decide_eq_false_iff_not] at h
  exact shortR_of (by omega) (by omega)
theorem w60 {rg ra rb rc : FR} : Con Tryz.prog 60 [PTS [(some 3,RX rg),(some 3,RX ra),(some 3,RX rb),(some 3,RX rc)]] (True) (BT ([rg,ra,rb,rc].all shortR)):=.o1 fun hok h1 hp=>by
  refine St.enter (N:=30) Tryz.func60 rfl rfl rfl hok (enter1 h1) fun a=>?_
  repeat' (first|((with_reducible refine gS_ ?_);first|((with_reducible refine gL_ ?_);first|refine W.run ?_ fun a w G=>?_|refine W.mv fun a w G=>?_|refine W.asg fun a w G=>?_|refine W.bx fun b a w G=>?_|(refine W.nn hK ?_;clear hK K)|refine W.nl ?_|refine W.al fun b a w G=>?_|refine W.st fun w=>?_|refine W.stp fun w=>?_|refine W.ste ?_ fun w=>?_)|((with_reducible refine gC_ ?_);first|refine W.reg fun K hK=>?_|refine W.reg1 ?_|refine W.sq fun K hK=>?_|refine W.ds ?_ (fun β a w G hu=>W.fin ?_ hu) mixedOrders (by kernel_rfl)|refine W.sk ?_|refine W.cd (fun hc=>?_) (fun hc=>?_)|refine W.cb (fun hc=>?_) (fun hc=>?_)|refine W.bl ?_|refine W.ex ?_|refine W.rt ?_)|((with_reducible refine W.kn hK ?_);clear hK K)|(with_reducible first|refine W.bn ?_|refine W.xt ?_|refine W.xb ?_|refine W.xo ?_|refine W.tr ?_|refine W.br ?_)|refine W.rt1 rfl ?_|refine W.rt2 rfl ?_ ?_|refine W.rt3 rfl ?_ ?_ ?_)|refine W.lp 16 (α:=Nat) (fun j=>4 - j) (fun j=>j ≤ 4 ∧ ([rg,ra,rb,rc].take j).all shortR = true) [2,4,13,14,15,16,17,18,19,20,21,22,23,24,25,26,27,28,29] (fun j=>[(15,NT j),(14,NT 4),(13,LS (some 3) ([rg,ra,rb,rc].map RX))]) (fun j=>[]) (0) ?_ ?_ ?_ fun j hj a w G=>?_|refine W.ag (x:=j) (j+1) ?_ ?_ ?_ ?_|clear hK K|clear hu|exact True.intro|exact Nat.le_trans (by clear hp;omega) hp|exact Nat.le_trans (by clear hp;omega) hp.1|exact Nat.le_trans (by clear hp;omega) hp.2|(clear hp;omega)|apply And.intro|refine GI.i fun _=>?_|with_reducible rfl|decide|(simp only [List.length_cons,List.length_nil];omega))
  all_goals first | rfl | exact (all_not (show j < 4 by omega) (shortR_t8 hc)).symm | exact all_snoc (show j < 4 by omega) hj.2 (shortR_f8 hc) | exact (all_end (show ¬ j < 4 by omega) hj.2).symm
instance iX8_730 {rg ra rb rc : FR} {τ1 : MT} [j1 : NR τ1 (PTS [(some 3,RX rg),(some 3,RX ra),(some 3,RX rb),(some 3,RX rc)])] : Con Tryz.prog 60 [τ1] (True) (BT ([rg,ra,rb,rc].all shortR)):=.o1 fun hok h1 hp=>w60.c1 hok (j1.h h1) hp
theorem trn2 {h : Bool} {t : FR} (ht : trnF h t = false) : trnC h t = 2:=by unfold trnC;rw [ht];rfl
theorem bt2 {l : List FR} {h : Bool} {t : FR} (hb : barC l = 0) (ht : trnF h t = false) : btC l h t = 2:=by unfold btC;rw [if_pos hb,trn2 ht]
theorem longB {s A B C D E : Bool} (h : (s && (A && B)) = false) (h1 : C = !A) (h2 : D = !B) : ((((!true || !s) || C) || D) || E) = true:=by subst h1 h2;cases s <;> cases A <;> cases B <;> simp_all
theorem giB {s A B C D : Bool} (h : (s && (A && B)) = false) (h1 : C = !A) (h2 : D = !B) (g : (((!true || !s) || C) || D) = false) : False:=by subst h1 h2;cases s <;> cases A <;> cases B <;> simp_all
theorem shortB {s A B C D E : Bool} (h : (s && (A && B)) = true) (h1 : C = !A) (h2 : D = !B) (h3 : E = false) : ((((!true || !s) || C) || D) || E) = false:=by subst h1 h2 h3;cases s <;> cases A <;> cases B <;> simp_all
theorem len1 (l : List Nat) : decide (((l.length : Nat) : Int) > 1) = !decide (l.length ≤ 1):=by
  by_cases h : l.length ≤ 1
  · rw [decide_eq_true h,decide_eq_false (by omega)];rfl
  · rw [decide_eq_false h,decide_eq_true (by omega)];rfl
section
variable {g a b c : FR} {h : Bool} {t : Rat}
def qG (g : FR) : FR:=FR.of (g.val * g.val)
theorem nf_sum8 {x : Rat} {u v : RR} {k : Rat} : nearR x u v k + nearR (-x) u v (-k) = RR.of 4 * v:=by
  unfold nearR
  obtain ⟨f,hf,rfl⟩:=RR.rep u;obtain ⟨g,hg,rfl⟩:=RR.rep v
  exact RR.ext fun n=>by grind
theorem nf_one {G A B C : FR} (hp : [G,A,B,C].all posR = true) {k : Rat} : ¬ (nearF G A B C k ≤ 0 ∧ farF G A B C k ≤ 0):=by
  rintro ⟨h1,h2⟩
  rw [near_R hp] at h1
  rw [far_R hp] at h2
  have hs:=nf_sum8 (x:=G.val + A.val - (B.val + C.val)) (u:=rt (A.val * G.val)) (v:=rt (B.val * C.val)) (k:=k)
  have hb : 0 < B.val * C.val:=by
    simp only [List.all_cons,List.all_nil,Bool.and_true,Bool.and_eq_true] at hp
    exact Rat.mul_pos (posR_val hp.2.2.1) (posR_val hp.2.2.2)
  have hpos : 0 < RR.of 4 * rt (B.val * C.val):=RR.mul_pos (RR.of_lt (p:=0) |>.2 (by decide)) (rt_pos hb)
  rw [← hs] at hpos
  have n1 : ∀ x : RR,sgR x ≤ 0 → 0 ≤ -x:=fun x hx=>by
    rw [← sgR_nn,sgR_negate];omega
  have e:=RR.add_nn (n1 _ h1) (n1 _ h2)
  generalize nearR (G.val + A.val - (B.val + C.val)) (rt (A.val * G.val)) (rt (B.val * C.val)) k = X at *
  generalize nearR (-(G.val + A.val - (B.val + C.val))) (rt (A.val * G.val)) (rt (B.val * C.val)) (-k) = Y at *
  have e2 : -X + -Y = -(X + Y):=by obtain ⟨f,hf,rfl⟩:=RR.rep X;obtain ⟨f1,hf1,rfl⟩:=RR.rep Y;exact RR.ext fun n=>by grind
  rw [e2] at e
  have h5:=sgR_pos hpos
  have h6:=sgR_nn.2 e
  rw [sgR_negate] at h6
  omega
theorem bar_nf (hb : [g,a,b,c].all posR = true) (hn : nearF (qG g) (qG a) (FR.of b.val) (FR.of c.val) (dirC h t) < 0 ∨ farF (qG g) (qG a) (FR.of b.val) (FR.of c.val) (dirC h t) < 0) : (dsc g a b c h t).num.sign < 0:=by
  have h1:=dsc_sg hb (h:=h) (t:=t)
  have h2:=nf_one (sqF_pos hb) (k:=dirC h t)
  have h3:=sgn_cases (dsc g a b c h t).num
  rw [h1] at h3 ⊢
  unfold qG at *
  generalize nearF (FR.of (g.val * g.val)) (FR.of (a.val * a.val)) (FR.of b.val) (FR.of c.val) (dirC h t) = X at *
  generalize farF (FR.of (g.val * g.val)) (FR.of (a.val * a.val)) (FR.of b.val) (FR.of c.val) (dirC h t) = Y at *
  rcases hn with hn | hn
  · exact Int.mul_neg_of_neg_of_pos hn (by omega)
  · exact Int.mul_neg_of_pos_of_neg (by omega) hn
theorem qpos (hb : [g,a,b,c].all posR = true) : [qG g,qG a,FR.of b.val,FR.of c.val].all posR = true:=sqF_pos hb
theorem bar_D (hb : [g,a,b,c].all posR = true) (hs : sinC (qG g) (qG a) (FR.of b.val) (FR.of c.val) (FR.of (dirC h t)) ≠ 0) : sinC (qG g) (qG a) (FR.of b.val) (FR.of c.val) (FR.of (dirC h t)) = 16 ∧ (dsc g a b c h t).num.sign < 0:=by
  have hq : [qG g,qG a,FR.of b.val,FR.of c.val].all posR = true:=sqF_pos hb
  have hr:=dir_rng (h:=h) (t:=t)
  by_cases hc : chkF [qG g,qG a,FR.of b.val,FR.of c.val] = 0
  · have hg : gapC (qG g) (qG a) (FR.of b.val) (FR.of c.val) (FR.of (dirC h t)) = 0 := by
      unfold gapC
      rw [if_pos hc,FR.of_ok,if_pos rfl,FR.of_val,if_neg (by intro e;rcases e with e | e <;> grind)]
    by_cases hn : nearF (qG g) (qG a) (FR.of b.val) (FR.of c.val) (FR.of (dirC h t)).val < 0 ∨ farF (qG g) (qG a) (FR.of b.val) (FR.of c.val) (FR.of (dirC h t)).val < 0
    · exact ⟨sin_16 hg hn,bar_nf hb (by rwa [FR.of_val] at hn)⟩
    · exact absurd (sin_0 hg hn) hs
  · have h16 : chkF [qG g, qG a, FR.of b.val, FR.of c.val] = 16 := by
      unfold chkF at hc ⊢
      rw [if_pos hq] at hc ⊢
      split at hc
      · exact absurd rfl hc
      · rename_i h9;rw [if_neg h9]
    refine ⟨by rw [sin_1 hc,h16],bar_nf hb ?_⟩
    apply Classical.byContradiction
    intro hn
    exact hc (can_chk hq hr.1 hr.2 (by omega) (by omega))
theorem bar_E (hb : [g,a,b,c].all posR = true) : sgL [[(qG a).val * (qG g).val]] (plusF (sinL (qG g) (qG a) (FR.of b.val) (FR.of c.val) (FR.of (dirC h t)).val) (minusF [dsc g a b c h t / (4 * (b.val * c.val))])) = 0:=by
  have hq : [qG g,qG a,FR.of b.val,FR.of c.val].all posR = true:=sqF_pos hb
  simp only [List.all_cons,List.all_nil,Bool.and_true,Bool.and_eq_true] at hb
  have h1:=Rat.le_of_lt (posR_val hb.1);have h2:=Rat.le_of_lt (posR_val hb.2.1);have h3:=posR_val hb.2.2.1;have h4:=posR_val hb.2.2.2
  have h34:=Rat.mul_pos h3 h4
  unfold sinL
  rw [sg_dif1 (Rat.le_of_lt (ag_posX hq)),sin_diff hq (m:=0)]
  have e1 : qR (qG g) (qG a) (FR.of b.val) (FR.of c.val) (FR.of (dirC h t)).val = RR.of (b.val + c.val - d2F (wayX g.val a.val h t) (wayY a.val h t)):=by
    unfold qR midF qG
    rw [FR.of_val,FR.of_val,FR.of_val,FR.of_val,FR.of_val,rt_mul (Rat.mul_nonneg h2 h2) (Rat.mul_nonneg h1 h1),rt_c h2,rt_c h1,way_cos]
    exact RR.ext fun n=>by grind
  rw [e1,FR.of_val,FR.of_val]
  have e2 : 4 * (b.val * c.val) * (dsc g a b c h t / (4 * (b.val * c.val))) = dsc g a b c h t:=by rw [Rat.mul_comm];exact Rat.div_mul_cancel (by grind)
  have e3 : RR.of (4 * (b.val * c.val)) * (RR.of (dsc g a b c h t / (4 * (b.val * c.val))) + RR.of 0 * rt ((qG a).val * (qG g).val)) = RR.of (dsc g a b c h t):=by
    rw [show RR.of 0 = (0 : RR) from rfl,RR.zero_mul,RR.add_zero,← RR.of_mul,e2]
  rw [e3,← RR.of_mul,← RR.of_sub,← RR.of_sub]
  rw [show 4 * (b.val * c.val) - (b.val + c.val - d2F (wayX g.val a.val h t) (wayY a.val h t)) * (b.val + c.val - d2F (wayX g.val a.val h t) (wayY a.val h t)) - dsc g a b c h t = 0 by unfold dsc discF;grind]
  exact sgR_of 0
theorem quF_at (hb : barC [g,a,b,c] = 0) : quF [g,a,b,c] 0 = qG g ∧ quF [g,a,b,c] 1 = qG a ∧ quF [g,a,b,c] 2 = FR.of b.val ∧ quF [g,a,b,c] 3 = FR.of c.val:=by
  unfold quF;simp only [if_pos hb];exact ⟨rfl,rfl,rfl,rfl⟩
end
attribute [local irreducible] plusF minusF joinF levI lev PW RLN tB sB timesF stepF tmF normF shoF TOK sgL surdsF surdF chkF gapC fullF nearF farF limL limJ sinA sinB sinC fulC leaL mosL alsC alsF rigF rgtF atF twoA sinL shortF barC trnC btC dsc dirC dirS qG quF
instance {rg ra rb rc : FR} : Con Tryz.prog 61 [PTS [(some 3,RX rg),(some 3,RX ra),(some 3,RX rb),(some 3,RX rc)]] ([rg,ra,rb,rc].all shortR = true) (.ex (errV 69 (barC [rg,ra,rb,rc]))):=.o1 fun hok h1 hp=>by
  have hq:=hp
  (try simp only [shortF,List.all_cons,List.all_nil,Bool.and_true,Bool.and_eq_true] at hq)
  exact (inferInstance : Con Tryz.prog 61 [QUD 64 rg ra rb rc] _ (.ex (errV 69 (barC [rg,ra,rb,rc])))).c1 hok (NS.h (τ':=QUD 64 rg ra rb rc) (by (try simp only [and_true,true_and]);grind) h1) (by decide)
instance gTX8_12_2 : GcT 12 2 false 2 [3,4,19,20,21,22,23,24,25,26,27,28,29,30,31,32,33,34,35,36,37,38,39,40,41,42,43,44]:=⟨⟩
instance gTX8_12_3 : GcT 12 3 false 4 [19,20,21,22,23,24,25,26,27,28,29,30,31,32,33,34,35,36,37,38,39,40,41,42,43,44]:=⟨⟩
instance gTX8_12_5 : GcT 12 5 false 8 [46,47,48,49,50,51,52,53,54,55,56]:=⟨⟩
instance gTX8_12_6 : GcT 12 6 false 3 [57,58,59,60,61,62]:=⟨⟩
instance gTX8_12_7 : GcT 12 7 false 2 [5,7,9,10,11,63,64,65,66,67,68,69,70,71,72]:=⟨⟩
instance gTX8_12_8 : GcT 12 8 false 6 [9,11,63,64,65,66,67,68,69,70,71,72]:=⟨⟩
instance gTX8_12_9 : GcT 12 9 false 5 [7,75,76,77,78,79,80,81]:=⟨⟩
instance gTX8_12_12 : GcT 12 12 false 2 [10,14,82,83,91,92,93,94,95,96,97,98,99,100,101,102]:=⟨⟩
instance gTX8_12_13 : GcT 12 13 false 12 [13,15,103,104,105,106,107,108,109,110]:=⟨⟩
theorem longBar {rg ra rb rc t : FR} {h : Bool} : Con Tryz.prog 12 [PTS [(some 3,RX rg),(some 3,RX ra),(some 3,RX rb),(some 3,RX rc)],PTS [(some 3,RX t),(none,BT h)]] (([rg,ra,rb,rc].all shortR && (decide (t.p.length ≤ 1) && decide (t.q.length ≤ 1))) = false) (BT true):=.o2 fun hok h1 h2 hp=>by
  refine St.enter (N:=121) Tryz.func12 rfl rfl rfl hok (enter2 h1 h2) fun a=>?_
  repeat' (first|((with_reducible refine gS_ ?_);first|((with_reducible refine gL_ ?_);first|refine W.run ?_ fun a w G=>?_|refine W.mv fun a w G=>?_|refine W.asg fun a w G=>?_|refine W.bx fun b a w G=>?_|(refine W.nn hK ?_;clear hK K)|refine W.nl ?_|refine W.al fun b a w G=>?_|refine W.st fun w=>?_|refine W.stp fun w=>?_|refine W.ste ?_ fun w=>?_)|((with_reducible refine gC_ ?_);first|refine W.cbt (longB hp (len1 _) (len1 _)) ?_|with_reducible refine W.gcc 12 ?_|with_reducible refine W.gcd 12 ?_|refine W.reg fun K hK=>?_|refine W.reg1 ?_|refine W.sq fun K hK=>?_|refine W.ds ?_ (fun β a w G hu=>W.fin ?_ hu) mixedOrders (by kernel_rfl)|refine W.sk ?_|refine W.cd (fun hc=>?_) (fun hc=>?_)|refine W.cb (fun hc=>?_) (fun hc=>?_)|refine W.bl ?_|refine W.ex ?_|refine W.rt ?_)|((with_reducible refine W.kn hK ?_);clear hK K)|(with_reducible first|refine W.bn ?_|refine W.xt ?_|refine W.xb ?_|refine W.xo ?_|refine W.tr ?_|refine W.br ?_)|refine W.rt1 rfl ?_|refine W.rt2 rfl ?_ ?_|refine W.rt3 rfl ?_ ?_ ?_)|clear hK K|clear hu|exact True.intro|exact Nat.le_trans (by clear hp;omega) hp|exact Nat.le_trans (by clear hp;omega) hp.1|exact Nat.le_trans (by clear hp;omega) hp.2|(clear hp;omega)|apply And.intro|refine GI.i fun _=>?_|with_reducible rfl|decide|(simp only [List.length_cons,List.length_nil];omega))
  all_goals first | exact (giB hp (len1 _) (len1 _) (by assumption)).elim | skip
theorem shortBarB {rg ra rb rc t : FR} {h : Bool} : Con Tryz.prog 12 [QUD 64 rg ra rb rc,TRN 64 t h] (([rg,ra,rb,rc].all shortR && (decide (t.p.length ≤ 1) && decide (t.q.length ≤ 1))) = true ∧ (barC [rg,ra,rb,rc] ≠ 0)) (BT true):=.o2 fun hok h1 h2 hp=>by
  refine St.enter (N:=121) Tryz.func12 rfl rfl rfl hok (enter2 h1 h2) fun a=>?_
  have e1:=hp.2
  repeat' (first|((with_reducible refine gS_ ?_);first|((with_reducible refine gL_ ?_);first|refine W.run ?_ fun a w G=>?_|refine W.mv fun a w G=>?_|refine W.asg fun a w G=>?_|refine W.bx fun b a w G=>?_|(refine W.nn hK ?_;clear hK K)|refine W.nl ?_|refine W.al fun b a w G=>?_|refine W.st fun w=>?_|refine W.stp fun w=>?_|refine W.ste ?_ fun w=>?_)|((with_reducible refine gC_ ?_);first|with_reducible refine W.cbt (by first|assumption|(simp [e1];done)|fail) ?_|with_reducible refine W.cbf (by first|assumption|(simp [e1];done)|fail) ?_|with_reducible refine W.gcc 12 ?_|with_reducible refine W.gcd 12 ?_|refine W.reg fun K hK=>?_|refine W.reg1 ?_|refine W.sq fun K hK=>?_|refine W.ds ?_ (fun β a w G hu=>W.fin ?_ hu) mixedOrders (by kernel_rfl)|refine W.sk ?_|refine W.cd (fun hc=>?_) (fun hc=>?_)|refine W.cb (fun hc=>?_) (fun hc=>?_)|refine W.bl ?_|refine W.ex ?_|refine W.rt ?_)|((with_reducible refine W.kn hK ?_);clear hK K)|(with_reducible first|refine W.bn ?_|refine W.xt ?_|refine W.xb ?_|refine W.xo ?_|refine W.tr ?_|refine W.br ?_)|refine W.rt1 rfl ?_|refine W.rt2 rfl ?_ ?_|refine W.rt3 rfl ?_ ?_ ?_)|clear hK K|clear hu|exact True.intro|exact Nat.le_trans (by clear hp;omega) hp|exact Nat.le_trans (by clear hp;omega) hp.1|exact Nat.le_trans (by clear hp;omega) hp.2|(clear hp;omega)|apply And.intro|refine GI.i fun _=>?_|with_reducible rfl|decide|(simp only [List.length_cons,List.length_nil];omega))
  all_goals first
    | omega
    | (simp [e1];done)
    | skip
instance (priority:=2000) quadO {n : Nat} {rg ra rb rc : FR} : Con Tryz.prog 58 [QUD n rg ra rb rc] (10000 * n + 100000 ≤ BIG ∧ barC [rg,ra,rb,rc] = 0) (MT.tup2 (QUD (2 * n + 2) (qG rg) (qG ra) (FR.of rb.val) (FR.of rc.val)) (.ex (errV 69 (0)))):=.o1 fun hok h1 hp=>by
  have h:=(inferInstance : Con Tryz.prog 58 [QUD n rg ra rb rc] (10000 * n + 100000 ≤ BIG) _).c1 hok h1 hp.1
  rw [(quF_at hp.2).1,(quF_at hp.2).2.1,(quF_at hp.2).2.2.1,(quF_at hp.2).2.2.2,hp.2] at h
  exact h
theorem shortBarD {rg ra rb rc t : FR} {h : Bool} : Con Tryz.prog 12 [QUD 64 rg ra rb rc,TRN 64 t h] (([rg,ra,rb,rc].all shortR && (decide (t.p.length ≤ 1) && decide (t.q.length ≤ 1))) = true ∧ (barC [rg,ra,rb,rc] = 0 ∧ trnF h t = true ∧ sinC (qG rg) (qG ra) (FR.of rb.val) (FR.of rc.val) (FR.of (dirC h t.val)) ≠ 0)) (BT true):=.o2 fun hok h1 h2 hp=>by
  refine St.enter (N:=121) Tryz.func12 rfl rfl rfl hok (enter2 h1 h2) fun a=>?_
  have e1:=hp.2.1
  have e2:=hp.2.2.1
  have e4:=hp.2.2.2
  have e5:=bar_pos e1
  have e7 : ((((!true || ![rg,ra,rb,rc].all shortR) || decide (((t.p.length : Nat) : Int) > 1)) || decide (((t.q.length : Nat) : Int) > 1)) || decide (barC [rg,ra,rb,rc] ≠ 0)) = false:=shortB hp.1 (len1 _) (len1 _) (by rw [e1];rfl)
  have e6:=bar_D e5 e4
  repeat' (first|((with_reducible refine gS_ ?_);first|((with_reducible refine gL_ ?_);first|refine W.run ?_ fun a w G=>?_|refine W.mv fun a w G=>?_|refine W.asg fun a w G=>?_|refine W.bx fun b a w G=>?_|(refine W.nn hK ?_;clear hK K)|refine W.nl ?_|refine W.al fun b a w G=>?_|refine W.st fun w=>?_|refine W.stp fun w=>?_|refine W.ste ?_ fun w=>?_)|((with_reducible refine gC_ ?_);first|with_reducible refine W.cbt (by first|assumption|(simp [e1,e2,e4,e6.1,e6.2];done)|fail) ?_|with_reducible refine W.cbf (by first|assumption|(simp [e1,e2,e4,e6.1,e6.2];done)|fail) ?_|with_reducible refine W.gcc 12 ?_|with_reducible refine W.gcd 12 ?_|refine W.reg fun K hK=>?_|refine W.reg1 ?_|refine W.sq fun K hK=>?_|refine W.ds ?_ (fun β a w G hu=>W.fin ?_ hu) mixedOrders (by kernel_rfl)|refine W.sk ?_|refine W.cd (fun hc=>?_) (fun hc=>?_)|refine W.cb (fun hc=>?_) (fun hc=>?_)|refine W.bl ?_|refine W.ex ?_|refine W.rt ?_)|((with_reducible refine W.kn hK ?_);clear hK K)|(with_reducible first|refine W.bn ?_|refine W.xt ?_|refine W.xb ?_|refine W.xo ?_|refine W.tr ?_|refine W.br ?_)|refine W.rt1 rfl ?_|refine W.rt2 rfl ?_ ?_|refine W.rt3 rfl ?_ ?_ ?_)|clear hK K|clear hu|exact True.intro|exact Nat.le_trans (by clear hp;omega) hp|exact Nat.le_trans (by clear hp;omega) hp.1|exact Nat.le_trans (by clear hp;omega) hp.2|(clear hp;omega)|apply And.intro|refine GI.i fun _=>?_|with_reducible rfl|decide|(simp only [List.length_cons,List.length_nil];omega))
  all_goals first
    | omega
    | (simp [e1,e2,e4,e6.1,e6.2];done)
    | exact e2
    | exact e1
    | skip
instance (priority:=2000) sinO {n m : Nat} {rg ra rb rc rk : FR} {τ : MT} [j2 : NF τ (FX m rk)] : Con Tryz.prog 44 [QUD n rg ra rb rc,τ] (1000 * n + 1000 * m + 200000 ≤ BIG ∧ sinC rg ra rb rc rk = 0) (MT.tup3 (TWR (n + n) [[ra.val * rg.val]]) (NM (12 * n + 2 * m + 200) (sinL rg ra rb rc rk.val)) (.ex (errV 69 (0)))):=.o2 fun hok h1 h2 hp=>by
  have h:=(inferInstance : Con Tryz.prog 44 [QUD n rg ra rb rc,FX m rk] (1000 * n + 1000 * m + 200000 ≤ BIG) _).c2 hok h1 (j2.h h2) hp.1
  simp only [hp.2,if_true] at h
  exact h
theorem shortBarE {rg ra rb rc t : FR} {h : Bool} : Con Tryz.prog 12 [QUD 64 rg ra rb rc,TRN 64 t h] (([rg,ra,rb,rc].all shortR && (decide (t.p.length ≤ 1) && decide (t.q.length ≤ 1))) = true ∧ (barC [rg,ra,rb,rc] = 0 ∧ trnF h t = true ∧ sinC (qG rg) (qG ra) (FR.of rb.val) (FR.of rc.val) (FR.of (dirC h t.val)) = 0)) (BT true):=.o2 fun hok h1 h2 hp=>by
  refine St.enter (N:=121) Tryz.func12 rfl rfl rfl hok (enter2 h1 h2) fun a=>?_
  have e1:=hp.2.1
  have e2:=hp.2.2.1
  have e4:=hp.2.2.2
  have e5:=bar_pos e1
  have e7 : ((((!true || ![rg,ra,rb,rc].all shortR) || decide (((t.p.length : Nat) : Int) > 1)) || decide (((t.q.length : Nat) : Int) > 1)) || decide (barC [rg,ra,rb,rc] ≠ 0)) = false:=shortB hp.1 (len1 _) (len1 _) (by rw [e1];rfl)
  have e6:=bar_E (h:=h) (t:=t.val) e5
  have e8:=bc_ne e5
  repeat' (first|((with_reducible refine gS_ ?_);first|((with_reducible refine gL_ ?_);first|refine W.run ?_ fun a w G=>?_|refine W.mv fun a w G=>?_|refine W.asg fun a w G=>?_|refine W.bx fun b a w G=>?_|(refine W.nn hK ?_;clear hK K)|refine W.nl ?_|refine W.al fun b a w G=>?_|refine W.st fun w=>?_|refine W.stp fun w=>?_|refine W.ste ?_ fun w=>?_)|((with_reducible refine gC_ ?_);first|with_reducible refine W.cbt (by first|assumption|(simp [e1,e2,e4,e6];done)|fail) ?_|with_reducible refine W.cbf (by first|assumption|(simp [e1,e2,e4,e6];done)|fail) ?_|with_reducible refine W.gcc 12 ?_|with_reducible refine W.gcd 12 ?_|refine W.reg fun K hK=>?_|refine W.reg1 ?_|refine W.sq fun K hK=>?_|refine W.ds ?_ (fun β a w G hu=>W.fin ?_ hu) mixedOrders (by kernel_rfl)|refine W.sk ?_|refine W.cd (fun hc=>?_) (fun hc=>?_)|refine W.cb (fun hc=>?_) (fun hc=>?_)|refine W.bl ?_|refine W.ex ?_|refine W.rt ?_)|((with_reducible refine W.kn hK ?_);clear hK K)|(with_reducible first|refine W.bn ?_|refine W.xt ?_|refine W.xb ?_|refine W.xo ?_|refine W.tr ?_|refine W.br ?_)|refine W.rt1 rfl ?_|refine W.rt2 rfl ?_ ?_|refine W.rt3 rfl ?_ ?_ ?_)|clear hK K|clear hu|exact True.intro|exact Nat.le_trans (by clear hp;omega) hp|exact Nat.le_trans (by clear hp;omega) hp.1|exact Nat.le_trans (by clear hp;omega) hp.2|(clear hp;omega)|apply And.intro|refine GI.i fun _=>?_|with_reducible rfl|decide|(simp only [List.length_cons,List.length_nil];omega))
  all_goals first
    | omega
    | (simp [e1,e2,e4,e6];done)
    | exact e2
    | exact e1
    | exact e8.1
    | exact e8.2
    | exact tok1 (Rat.le_of_lt (ag_posX (qpos e5)))
    | exact pw1k
    | (unfold sinL;exact pw2 (Nat.le_refl 1))
    | (show sB 1 _ _ ≤ BIG;rw [sB1];omega)
    | (show sB 1 _ _ ≤ BIG;rw [sB1];decide)
    | skip
theorem dirBad {m : Nat} {t : FR} {h : Bool} : Con Tryz.prog 62 [TRN m t h] (10000 * m + 100000 ≤ BIG ∧ trnF h t = false) (MT.tup3 (FX 1 default) (FX 1 default) (.ex (errV 69 (2)))):=.o1 fun hok h1 hp=>by
  refine St.enter (N:=29) Tryz.func62 rfl rfl rfl hok (enter1 h1) fun a=>?_
  have e1:=trn2 hp.2
  repeat' (first|((with_reducible refine gS_ ?_);first|((with_reducible refine gL_ ?_);first|refine W.run ?_ fun a w G=>?_|refine W.mv fun a w G=>?_|refine W.asg fun a w G=>?_|refine W.bx fun b a w G=>?_|(refine W.nn hK ?_;clear hK K)|refine W.nl ?_|refine W.al fun b a w G=>?_|refine W.st fun w=>?_|refine W.stp fun w=>?_|refine W.ste ?_ fun w=>?_)|((with_reducible refine gC_ ?_);first|with_reducible refine W.cbt (by first|assumption|(simp [e1];done)|fail) ?_|with_reducible refine W.cbf (by first|assumption|(simp [e1];done)|fail) ?_|refine W.reg fun K hK=>?_|refine W.reg1 ?_|refine W.sq fun K hK=>?_|refine W.ds ?_ (fun β a w G hu=>W.fin ?_ hu) mixedOrders (by kernel_rfl)|refine W.sk ?_|refine W.cd (fun hc=>?_) (fun hc=>?_)|refine W.cb (fun hc=>?_) (fun hc=>?_)|refine W.bl ?_|refine W.ex ?_|refine W.rt ?_)|((with_reducible refine W.kn hK ?_);clear hK K)|(with_reducible first|refine W.bn ?_|refine W.xt ?_|refine W.xb ?_|refine W.xo ?_|refine W.tr ?_|refine W.br ?_)|refine W.rt1 rfl ?_|refine W.rt2 rfl ?_ ?_|refine W.rt3 rfl ?_ ?_ ?_)|clear hK K|clear hu|exact True.intro|exact Nat.le_trans (by clear hp;omega) hp|exact Nat.le_trans (by clear hp;omega) hp.1|exact Nat.le_trans (by clear hp;omega) hp.2|(clear hp;omega)|apply And.intro|refine GI.i fun _=>?_|with_reducible rfl|decide|(simp only [List.length_cons,List.length_nil];omega))
  all_goals first | omega | rfl | skip
instance (priority:=2000) dirBadI {m : Nat} {t : FR} {h : Bool} {τ1 : MT} [j1 : NF τ1 (TRN m t h)] : Con Tryz.prog 62 [τ1] (10000 * m + 100000 ≤ BIG ∧ trnF h t = false) (MT.tup3 (FX 1 default) (FX 1 default) (.ex (errV 69 (2)))):=.o1 fun hok h1 hp=>dirBad.c1 hok (j1.h h1) hp
theorem crankBad {n m : Nat} {rg ra rb rc t : FR} {h : Bool} : Con Tryz.prog 178 [QUD n rg ra rb rc,TRN m t h] (10000 * n + 10000 * m + 100000 ≤ BIG ∧ barC [rg,ra,rb,rc] = 0 ∧ trnF h t = false) (MT.tup2 (PTS [(some 3,FX 1 default),(some 3,FX 1 default)]) (.ex (errV 69 (2)))):=.o2 fun hok h1 h2 hp=>by
  refine St.enter (N:=36) Tryz.func178 rfl rfl rfl hok (enter2 h1 h2) fun a=>?_
  have e1:=bt2 hp.2.1 hp.2.2
  repeat' (first|((with_reducible refine gS_ ?_);first|((with_reducible refine gL_ ?_);first|refine W.run ?_ fun a w G=>?_|refine W.mv fun a w G=>?_|refine W.asg fun a w G=>?_|refine W.bx fun b a w G=>?_|(refine W.nn hK ?_;clear hK K)|refine W.nl ?_|refine W.al fun b a w G=>?_|refine W.st fun w=>?_|refine W.stp fun w=>?_|refine W.ste ?_ fun w=>?_)|((with_reducible refine gC_ ?_);first|with_reducible refine W.cbt (by first|assumption|(simp [e1];done)|fail) ?_|with_reducible refine W.cbf (by first|assumption|(simp [e1];done)|fail) ?_|refine W.reg fun K hK=>?_|refine W.reg1 ?_|refine W.sq fun K hK=>?_|refine W.ds ?_ (fun β a w G hu=>W.fin ?_ hu) mixedOrders (by kernel_rfl)|refine W.sk ?_|refine W.cd (fun hc=>?_) (fun hc=>?_)|refine W.cb (fun hc=>?_) (fun hc=>?_)|refine W.bl ?_|refine W.ex ?_|refine W.rt ?_)|((with_reducible refine W.kn hK ?_);clear hK K)|(with_reducible first|refine W.bn ?_|refine W.xt ?_|refine W.xb ?_|refine W.xo ?_|refine W.tr ?_|refine W.br ?_)|refine W.rt1 rfl ?_|refine W.rt2 rfl ?_ ?_|refine W.rt3 rfl ?_ ?_ ?_)|clear hK K|clear hu|exact True.intro|exact Nat.le_trans (by clear hp;omega) hp|exact Nat.le_trans (by clear hp;omega) hp.1|exact Nat.le_trans (by clear hp;omega) hp.2|(clear hp;omega)|apply And.intro|refine GI.i fun _=>?_|with_reducible rfl|decide|(simp only [List.length_cons,List.length_nil];omega))
  all_goals first | omega | rfl | exact hp.2.1 | exact hp.2.2 | skip
instance (priority:=2000) crankBadI {n m : Nat} {rg ra rb rc t : FR} {h : Bool} {τ1 : MT} [j1 : NF τ1 (QUD n rg ra rb rc)] {τ2 : MT} [j2 : NF τ2 (TRN m t h)] : Con Tryz.prog 178 [τ1,τ2] (10000 * n + 10000 * m + 100000 ≤ BIG ∧ barC [rg,ra,rb,rc] = 0 ∧ trnF h t = false) (MT.tup2 (PTS [(some 3,FX 1 default),(some 3,FX 1 default)]) (.ex (errV 69 (2)))):=.o2 fun hok h1 h2 hp=>crankBad.c2 hok (j1.h h1) (j2.h h2) hp
theorem wayBad {n m : Nat} {rg ra rb rc t : FR} {h : Bool} : Con Tryz.prog 130 [QUD n rg ra rb rc,TRN m t h] (10000 * n + 10000 * m + 100000 ≤ BIG ∧ barC [rg,ra,rb,rc] = 0 ∧ trnF h t = false) (MT.tup2 (PTS [(some 6,PTS [(some 3,FX 1 default),(some 3,FX 1 default)]),(some 6,PTS [(some 3,FX 1 default),(some 3,FX 1 default)]),(some 3,FX 1 default)]) (.ex (errV 69 (2)))):=.o2 fun hok h1 h2 hp=>by
  refine St.enter (N:=38) Tryz.func130 rfl rfl rfl hok (enter2 h1 h2) fun a=>?_
  repeat' (first|((with_reducible refine gS_ ?_);first|((with_reducible refine gL_ ?_);first|refine W.run ?_ fun a w G=>?_|refine W.mv fun a w G=>?_|refine W.asg fun a w G=>?_|refine W.bx fun b a w G=>?_|(refine W.nn hK ?_;clear hK K)|refine W.nl ?_|refine W.al fun b a w G=>?_|refine W.st fun w=>?_|refine W.stp fun w=>?_|refine W.ste ?_ fun w=>?_)|((with_reducible refine gC_ ?_);first|with_reducible refine W.cbt (by first|assumption|(simp [];done)|fail) ?_|with_reducible refine W.cbf (by first|assumption|(simp [];done)|fail) ?_|refine W.reg fun K hK=>?_|refine W.reg1 ?_|refine W.sq fun K hK=>?_|refine W.ds ?_ (fun β a w G hu=>W.fin ?_ hu) mixedOrders (by kernel_rfl)|refine W.sk ?_|refine W.cd (fun hc=>?_) (fun hc=>?_)|refine W.cb (fun hc=>?_) (fun hc=>?_)|refine W.bl ?_|refine W.ex ?_|refine W.rt ?_)|((with_reducible refine W.kn hK ?_);clear hK K)|(with_reducible first|refine W.bn ?_|refine W.xt ?_|refine W.xb ?_|refine W.xo ?_|refine W.tr ?_|refine W.br ?_)|refine W.rt1 rfl ?_|refine W.rt2 rfl ?_ ?_|refine W.rt3 rfl ?_ ?_ ?_)|clear hK K|clear hu|exact True.intro|exact Nat.le_trans (by clear hp;omega) hp|exact Nat.le_trans (by clear hp;omega) hp.1|exact Nat.le_trans (by clear hp;omega) hp.2|(clear hp;omega)|apply And.intro|refine GI.i fun _=>?_|with_reducible rfl|decide|(simp only [List.length_cons,List.length_nil];omega))
  all_goals first | omega | rfl | exact hp.2.1 | exact hp.2.2 | skip
instance (priority:=2000) wayBadI {n m : Nat} {rg ra rb rc t : FR} {h : Bool} {τ1 : MT} [j1 : NF τ1 (QUD n rg ra rb rc)] {τ2 : MT} [j2 : NF τ2 (TRN m t h)] : Con Tryz.prog 130 [τ1,τ2] (10000 * n + 10000 * m + 100000 ≤ BIG ∧ barC [rg,ra,rb,rc] = 0 ∧ trnF h t = false) (MT.tup2 (PTS [(some 6,PTS [(some 3,FX 1 default),(some 3,FX 1 default)]),(some 6,PTS [(some 3,FX 1 default),(some 3,FX 1 default)]),(some 3,FX 1 default)]) (.ex (errV 69 (2)))):=.o2 fun hok h1 h2 hp=>wayBad.c2 hok (j1.h h1) (j2.h h2) hp
theorem dscBad {n m : Nat} {rg ra rb rc t : FR} {h : Bool} : Con Tryz.prog 63 [QUD n rg ra rb rc,TRN m t h] (10000 * n + 10000 * m + 100000 ≤ BIG ∧ barC [rg,ra,rb,rc] = 0 ∧ trnF h t = false) (MT.tup2 (FX 1 default) (.ex (errV 69 (2)))):=.o2 fun hok h1 h2 hp=>by
  refine St.enter (N:=22) Tryz.func63 rfl rfl rfl hok (enter2 h1 h2) fun a=>?_
  repeat' (first|((with_reducible refine gS_ ?_);first|((with_reducible refine gL_ ?_);first|refine W.run ?_ fun a w G=>?_|refine W.mv fun a w G=>?_|refine W.asg fun a w G=>?_|refine W.bx fun b a w G=>?_|(refine W.nn hK ?_;clear hK K)|refine W.nl ?_|refine W.al fun b a w G=>?_|refine W.st fun w=>?_|refine W.stp fun w=>?_|refine W.ste ?_ fun w=>?_)|((with_reducible refine gC_ ?_);first|with_reducible refine W.cbt (by first|assumption|(simp [];done)|fail) ?_|with_reducible refine W.cbf (by first|assumption|(simp [];done)|fail) ?_|refine W.reg fun K hK=>?_|refine W.reg1 ?_|refine W.sq fun K hK=>?_|refine W.ds ?_ (fun β a w G hu=>W.fin ?_ hu) mixedOrders (by kernel_rfl)|refine W.sk ?_|refine W.cd (fun hc=>?_) (fun hc=>?_)|refine W.cb (fun hc=>?_) (fun hc=>?_)|refine W.bl ?_|refine W.ex ?_|refine W.rt ?_)|((with_reducible refine W.kn hK ?_);clear hK K)|(with_reducible first|refine W.bn ?_|refine W.xt ?_|refine W.xb ?_|refine W.xo ?_|refine W.tr ?_|refine W.br ?_)|refine W.rt1 rfl ?_|refine W.rt2 rfl ?_ ?_|refine W.rt3 rfl ?_ ?_ ?_)|clear hK K|clear hu|exact True.intro|exact Nat.le_trans (by clear hp;omega) hp|exact Nat.le_trans (by clear hp;omega) hp.1|exact Nat.le_trans (by clear hp;omega) hp.2|(clear hp;omega)|apply And.intro|refine GI.i fun _=>?_|with_reducible rfl|decide|(simp only [List.length_cons,List.length_nil];omega))
  all_goals first | omega | rfl | exact hp.2.1 | exact hp.2.2 | skip
instance (priority:=2000) dscBadI {n m : Nat} {rg ra rb rc t : FR} {h : Bool} {τ1 : MT} [j1 : NF τ1 (QUD n rg ra rb rc)] {τ2 : MT} [j2 : NF τ2 (TRN m t h)] : Con Tryz.prog 63 [τ1,τ2] (10000 * n + 10000 * m + 100000 ≤ BIG ∧ barC [rg,ra,rb,rc] = 0 ∧ trnF h t = false) (MT.tup2 (FX 1 default) (.ex (errV 69 (2)))):=.o2 fun hok h1 h2 hp=>dscBad.c2 hok (j1.h h1) (j2.h h2) hp
theorem shortBarC {rg ra rb rc t : FR} {h : Bool} : Con Tryz.prog 12 [QUD 64 rg ra rb rc,TRN 64 t h] (([rg,ra,rb,rc].all shortR && (decide (t.p.length ≤ 1) && decide (t.q.length ≤ 1))) = true ∧ (barC [rg,ra,rb,rc] = 0 ∧ trnF h t = false)) (BT true):=.o2 fun hok h1 h2 hp=>by
  refine St.enter (N:=121) Tryz.func12 rfl rfl rfl hok (enter2 h1 h2) fun a=>?_
  have e1:=hp.2.1
  have e2:=hp.2.2
  have e7 : ((((!true || ![rg,ra,rb,rc].all shortR) || decide (((t.p.length : Nat) : Int) > 1)) || decide (((t.q.length : Nat) : Int) > 1)) || decide (barC [rg,ra,rb,rc] ≠ 0)) = false:=shortB hp.1 (len1 _) (len1 _) (by rw [e1];rfl)
  repeat' (first|((with_reducible refine gS_ ?_);first|((with_reducible refine gL_ ?_);first|refine W.run ?_ fun a w G=>?_|refine W.mv fun a w G=>?_|refine W.asg fun a w G=>?_|refine W.bx fun b a w G=>?_|(refine W.nn hK ?_;clear hK K)|refine W.nl ?_|refine W.al fun b a w G=>?_|refine W.st fun w=>?_|refine W.stp fun w=>?_|refine W.ste ?_ fun w=>?_)|((with_reducible refine gC_ ?_);first|with_reducible refine W.cbt (by first|assumption|(simp [e1,e2];done)|fail) ?_|with_reducible refine W.cbf (by first|assumption|(simp [e1,e2];done)|fail) ?_|with_reducible refine W.gcc 12 ?_|with_reducible refine W.gcd 12 ?_|refine W.reg fun K hK=>?_|refine W.reg1 ?_|refine W.sq fun K hK=>?_|refine W.ds ?_ (fun β a w G hu=>W.fin ?_ hu) mixedOrders (by kernel_rfl)|refine W.sk ?_|refine W.cd (fun hc=>?_) (fun hc=>?_)|refine W.cb (fun hc=>?_) (fun hc=>?_)|refine W.bl ?_|refine W.ex ?_|refine W.rt ?_)|((with_reducible refine W.kn hK ?_);clear hK K)|(with_reducible first|refine W.bn ?_|refine W.xt ?_|refine W.xb ?_|refine W.xo ?_|refine W.tr ?_|refine W.br ?_)|refine W.rt1 rfl ?_|refine W.rt2 rfl ?_ ?_|refine W.rt3 rfl ?_ ?_ ?_)|clear hK K|clear hu|exact True.intro|exact Nat.le_trans (by clear hp;omega) hp|exact Nat.le_trans (by clear hp;omega) hp.1|exact Nat.le_trans (by clear hp;omega) hp.2|(clear hp;omega)|apply And.intro|refine GI.i fun _=>?_|with_reducible rfl|decide|(simp only [List.length_cons,List.length_nil];omega))
  all_goals first
    | omega
    | (simp [e1,e2];done)
    | exact e2
    | exact e1
    | skip
theorem lawTransmissionBar {rg ra rb rc t : FR} {h : Bool} {w : World} {G : Gh} {v1 v2 : Value} (hok : Gok w G) (h1 : (PTS [(some 3,RX rg),(some 3,RX ra),(some 3,RX rb),(some 3,RX rc)]).t v1 G) (h2 : (PTS [(some 3,RX t),(none,BT h)]).t v2 G) : Calls Tryz.prog 12 #[v1,v2] w (Ret w G (BT true)):=by
  cases hs : ([rg,ra,rb,rc].all shortR && (decide (t.p.length ≤ 1) && decide (t.q.length ≤ 1))) with
  | true =>
    have hq:=hs
    simp only [List.all_cons,List.all_nil,Bool.and_true,Bool.and_eq_true,decide_eq_true_eq] at hq
    have ht : shortR t = true:=shortR_of (by omega) (by omega)
    have g1:=NS.h (τ':=QUD 64 rg ra rb rc) (by (try simp only [and_true,true_and]);grind) h1
    have g2:=NS.h (τ':=TRN 64 t h) (by (try simp only [and_true,true_and]);grind) h2
    by_cases c1 : barC [rg,ra,rb,rc] = 0
    · cases c2 : trnF h t with
      | true =>
        by_cases c3 : sinC (qG rg) (qG ra) (FR.of rb.val) (FR.of rc.val) (FR.of (dirC h t.val)) = 0
        · exact shortBarE.c2 hok g1 g2 ⟨hs,c1,c2,c3⟩
        · exact shortBarD.c2 hok g1 g2 ⟨hs,c1,c2,c3⟩
      | false=>exact shortBarC.c2 hok g1 g2 ⟨hs,c1,c2⟩
    · exact shortBarB.c2 hok g1 g2 ⟨hs,c1⟩
  | false=>exact longBar.c2 hok h1 h2 hs
end Go.Proofs.YtdbdnabpaadigaaGreat
namespace Go.Proofs.YtdbdnabpaadigaaGreat
open Go.RowKit (Below)
def G0of (W : World) : Gh:=fun b=>W.heap[b]?
theorem G0of_ok (W : World) : Gok W (G0of W):=fun _ _ h=>h
theorem Gc_G0 {W : World} {b i : Nat} : Gc (G0of W) b i = W.cell? ⟨b,i,none⟩:=by
  unfold Gc G0of World.cell?;cases W.heap[b]? with
  | none=>rfl
  | some o=>cases o <;> rfl
def RdA (P : Program) (W : World) (t : TypeId) (k : Option Nat) (A : MT → Prop) : Prop:=∀ (H : Type) (enc : TypeId × Value → H) (fuel : Nat) (cs : List Value) (x : DataW H × List MemPlace),
  DataW.trod enc P W 0 (fun _=>true) true fuel t cs = some x → (x.1.weights P t).all (· ≤ reachBytes) = true → ∃ (v : Value) (τ : MT),A τ ∧ v.cells.toList = cs ∧ Shaped k v ∧ τ.t v (G0of W)
section
variable {P : Program} {W : World} {t e : TypeId} {k : Option Nat} {A A' : MT → Prop}
theorem RdA.mono (h : RdA P W t k A) (hA : ∀ τ v,A τ → τ.t v (G0of W) → ∃ σ,A' σ ∧ σ.t v (G0of W)) : RdA P W t k A':=fun H enc fuel cs x hx hw=>by
  obtain ⟨v,τ,h1,h2,h3,h4⟩:=h H enc fuel cs x hx hw
  obtain ⟨σ,h5,h6⟩:=hA τ v h1 h4
  exact ⟨v,σ,h5,h2,h3,h6⟩
theorem rd_bool (ht : P.underlying t = some .bool) : RdA P W t none (fun τ=>∃ b,τ = .ex (.bool b)):=fun H enc fuel cs x hx hw=>by
  obtain ⟨b,rfl,rfl⟩:=DataW.trod_bool ht hx
  exact ⟨.bool b,_,⟨b,rfl⟩,rfl,⟨rfl,rfl⟩,rfl⟩
theorem rd_int {kk : IntKind} (ht : P.underlying t = some (.int kk)) : RdA P W t none (fun τ=>∃ z,(Lit.int kk z).wf = true ∧ τ = .ex (.int kk z)):=fun H enc fuel cs x hx hw=>by
  obtain ⟨z,rfl,rfl,h⟩:=DataW.trod_int ht hx
  exact ⟨.int kk z,_,⟨z,h,rfl⟩,rfl,⟨rfl,rfl⟩,rfl⟩
theorem rd_i64 (ht : P.underlying t = some (.int .i64)) : RdA P W t none (fun τ=>∃ z : Int,τ = .ex (.int .i64 z)):=(rd_int ht).mono fun τ v ⟨z,_,e⟩ hv=>⟨τ,⟨z,e⟩,hv⟩
theorem rd_u8 (ht : P.underlying t = some (.int .u8)) : RdA P W t none (fun τ=>∃ z : Fin 256,τ = .ex (.int .u8 ((z.val : Nat) : Int))):=(rd_int ht).mono fun τ v ⟨z,hz,e⟩ hv=>by
  have h0 : (0 : Int) ≤ z:=of_decide_eq_true (Bool.and_eq_true_iff.1 hz).1
  have h1 : z ≤ 255:=of_decide_eq_true (Bool.and_eq_true_iff.1 hz).2
  refine ⟨τ,⟨⟨z.toNat,by omega⟩,?_⟩,hv⟩
  rw [e];show _ = MT.ex (.int .u8 ((z.toNat : Nat) : Int));rw [Int.toNat_of_nonneg h0]
theorem cells_get {a : Addr} {n : Nat} {L : List Value} (h : W.cells? 0 a n = some L) : L.length = n ∧ ∀ j,j < n → W.cell? (a.add j) = L[j]?:=by
  unfold World.cells? at h
  rw [if_pos (Nat.zero_le _)] at h
  exact ⟨by simpa using mapM_some_length h,fun j hj=>mapM_some_get h j j (by simp [hj])⟩
theorem weightsAll_mem {H : Type} {es : List (DataW H)} {d : DataW H} {i : Nat} (hi : es[i]? = some d) : ∀ n ∈ d.weights P e,n ∈ DataW.weightsAll P e es:=by
  induction es generalizing i with
  | nil=>simp at hi
  | cons x r ih =>
    intro n hn
    rw [DataW.weightsAll,List.mem_append]
    cases i with
    | zero=>simp at hi;subst hi;exact .inl hn
    | succ j=>exact .inr (ih (by simpa using hi) n hn)
theorem rd_slice (ht : P.underlying t = some (.slice e)) (hc : P.cellsOf e = k.getD 1) (hc0 : 0 < k.getD 1) (hb : 4 ≤ P.bytesOf e) (h : RdA P W e k A) : RdA P W t none (fun τ=>∃ τs,(∀ σ ∈ τs,A σ) ∧ τ = LS k τs):=fun H enc fuel cs x hx hw=>by
  rcases DataW.trod_slice ht hx with ⟨rfl,rfl⟩ | ⟨a,len,cap,elems,rest,n,rfl,rfl,rfl,hb0,hlc,hcm,hel,hE,_,_⟩
  · exact ⟨.slice none 0 0,LS k [],⟨[],by simp,rfl⟩,rfl,⟨rfl,rfl⟩,LS.nil⟩
  · simp only [DataW.weights,ht,List.all_cons,List.all_append,Bool.and_eq_true,decide_eq_true_eq] at hw
    obtain ⟨hw1,hw2,_⟩:=hw
    have hlim : len ≤ LIM:=by
      have h1 : len * 4 ≤ ((elems.map (·.1)).length + (rest.map (·.1)).length) * P.bytesOf e:=Nat.mul_le_mul (by simp;omega) hb
      have h2 : reachBytes = 140737488351232:=rfl
      simp only [LIM];omega
    have each : ∀ i,∃ (v : Value) (τ : MT),i < len → W.cells? 0 (a.add (i * k.getD 1)) (k.getD 1) = some v.cells.toList ∧ A τ ∧ Shaped k v ∧ τ.t v (G0of W):=fun i=>by
      by_cases hi : i < len
      · have h1:=hE i hi
        rw [List.getElem?_eq_getElem (by omega),Option.bind_eq_some_iff,hc] at h1
        obtain ⟨cs',h2,h3⟩:=h1
        obtain ⟨v,τ,h4,h5,h6,h7⟩:=h H enc n cs' _ h3 (List.all_eq_true.2 fun m hm=>List.all_eq_true.1 hw2 m (weightsAll_mem (i:=i) (by rw [List.getElem?_map,List.getElem?_eq_getElem (by omega)];rfl) m hm))
        exact ⟨v,τ,fun _=>⟨by rw [h5];exact h2,h4,h6,h7⟩⟩
      · exact ⟨undef,.ex undef,fun h=>absurd h hi⟩
    obtain ⟨f,g,hfg⟩ : ∃ (f : Nat → Value) (g : Nat → MT),∀ i,i < len → W.cells? 0 (a.add (i * k.getD 1)) (k.getD 1) = some (f i).cells.toList ∧ A (g i) ∧ Shaped k (f i) ∧ (g i).t (f i) (G0of W):=⟨fun i=>(each i).choose,fun i=>(each i).choose_spec.choose,fun i=>(each i).choose_spec.choose_spec⟩
    refine ⟨.slice (some a) len cap,LS k ((List.range len).map g),⟨_,fun σ hσ=>?_,rfl⟩,rfl,⟨rfl,rfl⟩,LS.of_vals (us:=(List.range len).map f) (A:=some a) (c:=cap) (by simp) (by simpa using hlc) (by simpa using hlim) ⟨by simp,fun i τ u hi hu=>?_⟩ fun i u hu=>?_⟩
    · obtain ⟨i,hi,rfl⟩:=List.mem_map.1 hσ
      exact (hfg i (by simpa using hi)).2.1
    · have hlt : i < len:=by have:=(List.getElem?_eq_some_iff.1 hi).1;simpa using this
      simp [List.getElem?_range hlt] at hi hu
      subst hi;subst hu
      exact (hfg i hlt).2.2
    · have hlt : i < len:=by have:=(List.getElem?_eq_some_iff.1 hu).1;simpa using this
      simp [List.getElem?_range hlt] at hu
      subst hu
      obtain ⟨h1,h2,h3,h4⟩:=hfg i hlt
      obtain ⟨h5,h6⟩:=cells_get h1
      obtain ⟨g5,g6⟩:=cells_get (hfg 0 (by omega)).1
      obtain ⟨b,off,spot⟩:=a
      have h7:=g6 0 hc0
      rw [List.getElem?_eq_getElem (by omega)] at h7
      have hs : spot = none:=by simpa [Addr.add] using World.cell?_spot h7
      subst hs
      refine ⟨b,off,rfl,fun j x hj=>?_⟩
      have hjl : j < k.getD 1:=by have:=(Array.getElem?_eq_some_iff.1 hj).1;rw [← h5,Array.length_toList];exact this
      have h8:=h6 j hjl
      rw [Gc_G0]
      rw [addr_add,addr_add,Array.getElem?_toList,hj] at h8
      exact h8
theorem forall_map {α : Type} {T : α → MT} {τs : List MT} (h : ∀ σ ∈ τs,∃ x,σ = T x) : ∃ xs : List α,τs = xs.map T:=by
  induction τs with
  | nil=>exact ⟨[],rfl⟩
  | cons a r ih =>
    obtain ⟨l,rfl⟩:=ih fun σ h'=>h σ (List.mem_cons_of_mem _ h')
    obtain ⟨x,rfl⟩:=h a (List.mem_cons_self ..)
    exact ⟨x :: l,rfl⟩
theorem forall_map' {α : Type} {T : α → MT} {p : α → Prop} {τs : List MT} (h : ∀ σ ∈ τs,∃ x,p x ∧ σ = T x) : ∃ xs : List α,τs = xs.map T ∧ ∀ x ∈ xs,p x:=by
  induction τs with
  | nil=>exact ⟨[],rfl,by simp⟩
  | cons a r ih =>
    obtain ⟨l,rfl,hl⟩:=ih fun σ h'=>h σ (List.mem_cons_of_mem _ h')
    obtain ⟨x,hx,rfl⟩:=h a (List.mem_cons_self ..)
    exact ⟨x :: l,rfl,by simpa using ⟨hx,hl⟩⟩
theorem rd_words (ht : P.underlying t = some (.slice e)) (hu : P.underlying e = some (.int .u32)) (hc : P.cellsOf e = 1) (hb : 4 ≤ P.bytesOf e) : RdA P W t none (fun τ=>∃ l,τ = SL l):=by
  have h1 : RdA P W e none (fun τ=>∃ x : Nat,x < 4294967296 ∧ τ = .ex (u32 x)):=(rd_int hu).mono fun τ v ⟨z,hz,hτ⟩ hv=>by
    subst hτ
    have hm : IntKind.u32.min = 0:=by decide
    have hM : IntKind.u32.max = 4294967295:=by decide
    simp [Lit.wf,hm,hM] at hz
    exact ⟨_,⟨z.toNat,by omega,rfl⟩,by
      have : (z.toNat : Int) = z:=by omega
      show v = .int .u32 (z.toNat : Int);rw [this];exact hv⟩
  refine (rd_slice (k:=none) ht hc (by decide) hb h1).mono fun τ v ⟨τs,hσ,hτ⟩ hv=>?_
  subst hτ
  obtain ⟨l,hl,hlt⟩:=forall_map' hσ
  subst hl
  obtain ⟨A,c,us,h2,h3,h4,h5,h6⟩:=LS.vals hv
  rw [List.length_map] at h2 h3 h4
  refine ⟨_,⟨l,rfl⟩,A,c,h2,h3,h4,hlt,fun i x hi=>?_⟩
  have hil:=(List.getElem?_eq_some_iff.1 hi).1
  have hul : i < us.length:=by rw [h5.1,List.length_map];exact hil
  have hui : us[i]? = some us[i]:=by rw [List.getElem?_eq_getElem hul]
  have h7:=(h5.2 i (.ex (u32 x)) us[i] (by rw [List.getElem?_map,hi];rfl) hui).2
  obtain ⟨b,off,e1,h8⟩:=h6 i us[i] hui
  refine ⟨b,off,e1,?_⟩
  have h9 : us[i] = u32 x:=h7
  rw [h9] at h8
  simpa using h8 0 (u32 x) rfl
def FldOk (P : Program) (W : World) : Nat → List Field → List (Option Nat × (MT → Prop)) → Prop
  | _,[],[]=>True
  | off,f :: fs,a :: As=>f.offset = off ∧ P.cellsOf f.type = a.1.getD 1 ∧ RdA P W f.type a.1 a.2 ∧ FldOk P W (off + a.1.getD 1) fs As
  | _,_,_=>False
def Mt : List (Option Nat × (MT → Prop)) → List (Option Nat × MT) → Prop
  | [],[]=>True
  | a :: As,f :: F=>f.1 = a.1 ∧ a.2 f.2 ∧ Mt As F
  | _,_=>False
def tot (As : List (Option Nat × (MT → Prop))) : Nat:=(As.map fun a=>a.1.getD 1).sum
theorem Mt.tot : ∀ {As : List (Option Nat × (MT → Prop))} {F : List (Option Nat × MT)},Mt As F → (F.map fun f=>f.1.getD 1).sum = Go.Proofs.YtdbdnabpaadigaaGreat.tot As
  | [],[],_=>rfl
  | a :: As,f :: F,h=>by
    have:=Mt.tot h.2.2
    simp only [Go.Proofs.YtdbdnabpaadigaaGreat.tot,List.map_cons,List.sum_cons,h.1] at this ⊢
    rw [this]
  | [],_ :: _,h=>h.elim
  | _ :: _,[],h=>h.elim
theorem rd_fields {H : Type} {enc : TypeId × Value → H} {n : Nat} {cs : List Value} : ∀ (fs : List Field) (As : List (Option Nat × (MT → Prop))) (xs : List (DataW H × List MemPlace)) (off : Nat), FldOk P W off fs As → xs.length = fs.length →
    (∀ (i : Nat) (f : Field),fs[i]? = some f → DataW.trod enc P W 0 (fun _=>true) true n f.type ((cs.drop f.offset).take (P.cellsOf f.type)) = xs[i]?) → (DataW.weightsEach P (fs.map (·.type)) (xs.map (·.1))).all (· ≤ reachBytes) = true → cs.length = off + tot As →
    ∃ us F,Mt As F ∧ flat us = cs.drop off ∧ us.length = F.length ∧ ∀ (i : Nat) (f : Option Nat × MT) (u : Value),F[i]? = some f → us[i]? = some u → Shaped f.1 u ∧ f.2.t u (G0of W)
  | [],[],xs,off,_,_,_,_,hl=>⟨[],[],trivial,by rw [List.drop_eq_nil_of_le (by rw [hl];simp [tot])];rfl,rfl,fun i f u h=>by simp at h⟩
  | f :: fs,a :: As,[],off,_,hx,_,_,_=>by simp at hx
  | f :: fs,a :: As,x :: xs,off,hF,hx,hT,hw,hl=>by
    obtain ⟨h1,h2,h3,h4⟩:=hF
    simp only [List.map_cons,DataW.weightsEach,List.all_append,Bool.and_eq_true] at hw
    obtain ⟨v,τ,h5,h6,h7,h8⟩:=h3 H enc n _ x (hT 0 f rfl) hw.1
    obtain ⟨us,F,g1,g2,g3,g4⟩:=rd_fields fs As xs (off + a.1.getD 1) h4 (by simpa using hx) (fun i g hg=>by simpa using hT (i + 1) g (by simpa using hg)) hw.2 (by rw [hl];simp [tot];omega)
    refine ⟨v :: us,(a.1,τ) :: F,⟨rfl,h5,g1⟩,?_,by simp [g3],fun i f' u hf hu=>?_⟩
    · rw [flat_cons,h6,g2,h1,h2,← List.drop_drop,List.take_append_drop]
    · cases i with
      | zero=>simp at hf hu;subst hf;subst hu;exact ⟨h7,h8⟩
      | succ i=>exact g4 i f' u (by simpa using hf) (by simpa using hu)
  | [],_ :: _,_,_,h,_,_,_,_=>h.elim
  | _ :: _,[],_,_,h,_,_,_,_=>h.elim
theorem rd_struct {fs : Array Field} {As : List (Option Nat × (MT → Prop))} {n : Nat} (ht : P.underlying t = some (.struct fs)) (hn : P.cellsOf t = n) (hnA : tot As = n) (hF : FldOk P W 0 fs.toList As) : RdA P W t (some n) (fun τ=>∃ F,Mt As F ∧ τ = PTS F):=fun H enc fuel cs x hx hw=>by
  obtain ⟨xs,m,rfl,rfl,hl,hxl,hT⟩:=DataW.trod_struct ht hx
  simp only [DataW.weights,ht] at hw
  obtain ⟨us,F,h1,h2,h3,h4⟩:=rd_fields fs.toList As xs 0 hF (by simpa using hxl) (fun i f hf=>hT i f (by simpa using hf)) hw (by omega)
  have hP : (PTS F).t (.agg (flat us).toArray) (G0of W):=⟨us,rfl,h3,h4⟩
  refine ⟨.agg (flat us).toArray,PTS F,⟨F,h1,rfl⟩,by rw [h2];rfl,PTS.shaped (by unfold offs;rw [List.take_length,h1.tot,hnA]) hP,hP⟩
theorem shaped1 {u : Value} (h : Shaped none u) : u.cells = #[u]:=h.1
theorem PTS.toQR {s : Bool} {p q : List Nat} {v : Value} {G : Gh} (h : (PTS [(none,.ex (.bool s)),(none,SL p),(none,SL q)]).t v G) : (QR s p q).t v G:=by
  obtain ⟨us,rfl,hl,h⟩:=h
  match us,hl,h with
  | [u0,u1,u2],_,h =>
    obtain ⟨a0,b0⟩:=h 0 _ u0 rfl rfl
    obtain ⟨a1,b1⟩:=h 1 _ u1 rfl rfl
    obtain ⟨a2,b2⟩:=h 2 _ u2 rfl rfl
    refine ⟨u1,u2,?_,b1,b2⟩
    have e0 : u0 = .bool s:=b0
    simp only [flat,List.flatMap_cons,List.flatMap_nil,shaped1 a0,shaped1 a1,shaped1 a2]
    rw [e0];rfl
theorem rd_frac {fs : Array Field} {f0 f1 f2 : Field} {tw : TypeId} (ht : P.underlying t = some (.struct fs)) (hf : fs.toList = [f0, f1, f2]) (hn : P.cellsOf t = 3) (h0 : f0.offset = 0 ∧ P.cellsOf f0.type = 1 ∧ P.underlying f0.type = some .bool) (h1 : f1.offset = 1 ∧ f1.type = tw) (h2 : f2.offset = 2 ∧ f2.type = tw)
    (hw : P.underlying tw = some (.slice e) ∧ P.cellsOf tw = 1) (he : P.underlying e = some (.int .u32) ∧ P.cellsOf e = 1 ∧ 4 ≤ P.bytesOf e) : RdA P W t (some 3) (fun τ=>∃ r : FR,τ = QR r.s r.p r.q):=by
  have hW : RdA P W tw none (fun τ=>∃ l,τ = SL l):=rd_words hw.1 he.1 he.2.1 he.2.2
  refine (rd_struct (As:=[(none,fun τ=>∃ b,τ = .ex (.bool b)),(none,fun τ=>∃ l,τ = SL l),(none,fun τ=>∃ l,τ = SL l)]) ht hn rfl (by
    rw [hf];exact ⟨h0.1,h0.2.1,rd_bool h0.2.2,h1.1,by rw [h1.2];exact hw.2,by rw [h1.2];exact hW,h2.1,by rw [h2.2];exact hw.2,by rw [h2.2];exact hW,trivial⟩)).mono fun τ v ⟨F,hM,hτ⟩ hv=>?_
  subst hτ
  match F,hM with
  | [a,b,c],⟨a1,⟨s,a2⟩,b1,⟨p,b2⟩,c1,⟨q,c2⟩,_⟩ =>
    obtain ⟨a0,a'⟩:=a;obtain ⟨b0,b'⟩:=b;obtain ⟨c0,c'⟩:=c
    simp only at a1 a2 b1 b2 c1 c2
    subst a1;subst a2;subst b1;subst b2;subst c1;subst c2
    exact ⟨_,⟨⟨s,p,q⟩,rfl⟩,PTS.toQR hv⟩
theorem rd_list {α : Type} {T : α → MT} (ht : P.underlying t = some (.slice e)) (hc : P.cellsOf e = k.getD 1) (hc0 : 0 < k.getD 1) (hb : 4 ≤ P.bytesOf e) (h : RdA P W e k (fun τ=>∃ x,τ = T x)) : RdA P W t none (fun τ=>∃ xs : List α,τ = LS k (xs.map T)) :=
  (rd_slice ht hc hc0 hb h).mono fun τ v ⟨τs,hσ,hτ⟩ hv=>by
    obtain ⟨xs,rfl⟩:=forall_map hσ
    subst hτ
    exact ⟨_,⟨xs,rfl⟩,hv⟩
theorem rd_arg {H : Type} {enc : TypeId × Value → H} {v : Value} {d : DataW H} {ps : List MemPlace} (h : RdA P W t k A) (hd : DataW.Trod enc P W 0 (fun _ => true) true t v d ps) (hw : (d.weights P t).all (· ≤ reachBytes) = true)
    (hv : match k with | none=>v.cells = #[v] | some _=>∃ cs,v = .agg cs) : ∃ τ,A τ ∧ Shaped k v ∧ τ.t v (G0of W):=by
  obtain ⟨fuel,hf⟩:=hd
  obtain ⟨u,τ,h1,h2,h3,h4⟩:=h H enc fuel _ _ hf hw
  have : u = v:=by
    cases k with
    | none =>
      have h5 : u.cells = #[u]:=h3.1
      rw [h5,hv] at h2
      simpa using h2
    | some n =>
      obtain ⟨cs,rfl⟩:=hv
      obtain ⟨cs',rfl,_⟩:=h3
      have : cs'.toList = cs.toList:=h2
      rw [Array.toList_inj.1 this]
  subst this
  exact ⟨τ,h1,h3,h4⟩
end
end Go.Proofs.YtdbdnabpaadigaaGreat
