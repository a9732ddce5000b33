import Derived.ChangeArms
import Derived.SizedLaws
import Derived.WideShapes
import Derived.Test.YtdbdnabpaadigaaQi
set_option linter.unusedVariables false
set_option linter.unusedSimpArgs false
set_option linter.unusedVariables false
set_option linter.unusedSimpArgs false
set_option maxHeartbeats 4000000
set_option maxRecDepth 100000
set_option synthInstance.maxSize 100000
set_option synthInstance.maxHeartbeats 400000
namespace Go.Proofs.Ytdbdnabpaadigaa
open Go.RowKit (Below)
attribute [local irreducible] Go.Code.wp Go.wpList Go.bodyPost
private theorem gS_ {W0 : World} {G0 : Gh} {N : Nat} {L : List (Nat × MT)} {B : List BX} {a : Act} {w : World} {G : Gh} {q : Prop} (h : St W0 G0 N L B a w G → q) : St W0 G0 N L B a w G → q:=h
private theorem gL_ {p : Prop} {P : Program} {arr : Array Oper} {Q : Exit → Act → World → Prop} {l : List Oper} {a : Act} {w : World} (h : p → wpList P arr Q l a w) : p → wpList P arr Q l a w:=h
private theorem gC_ {p : Prop} {P : Program} {c : Code} {Q : Exit → Act → World → Prop} {a : Act} {w : World} (h : p → c.wp P Q a w) : p → c.wp P Q a w:=h
private theorem mixedOrders : Try.prog.follows .mixedOrders = true:=by kernel_rfl
theorem gd1 {s : Bool} {p : Prop} [Decidable p] (h : (!true || !s || decide p) = false) : ¬ p:=fun e=>by rw [decide_eq_true e] at h;simp at h
theorem short1 {s1 : Bool} (h : s1 = true) : (!true || !s1) = false:=by cases s1 <;> simp_all
theorem long1_0 {s1 : Bool} (h : s1 = false) : (!true || !s1) = true:=by cases s1 <;> simp_all
theorem gi1_0 {s1 : Bool} (h : s1 = false) (g : (!true || !s1) = false) : False:=by cases s1 <;> simp_all
theorem long1_1 {s1 A1 : Bool} (h : s1 = false) : ((!true || !s1) || A1) = true:=by cases s1 <;> simp_all
theorem gi1_1 {s1 A1 : Bool} (h : s1 = false) (g : ((!true || !s1) || A1) = false) : False:=by cases s1 <;> simp_all
theorem long1_2 {s1 A1 A2 : Bool} (h : s1 = false) : (((!true || !s1) || A1) || A2) = true:=by cases s1 <;> simp_all
theorem gi1_2 {s1 A1 A2 : Bool} (h : s1 = false) (g : (((!true || !s1) || A1) || A2) = false) : False:=by cases s1 <;> simp_all
theorem long1_3 {s1 A1 A2 A3 : Bool} (h : s1 = false) : ((((!true || !s1) || A1) || A2) || A3) = true:=by cases s1 <;> simp_all
theorem gi1_3 {s1 A1 A2 A3 : Bool} (h : s1 = false) (g : ((((!true || !s1) || A1) || A2) || A3) = false) : False:=by cases s1 <;> simp_all
theorem long1_4 {s1 A1 A2 A3 A4 : Bool} (h : s1 = false) : (((((!true || !s1) || A1) || A2) || A3) || A4) = true:=by cases s1 <;> simp_all
theorem gi1_4 {s1 A1 A2 A3 A4 : Bool} (h : s1 = false) (g : (((((!true || !s1) || A1) || A2) || A3) || A4) = false) : False:=by cases s1 <;> simp_all
theorem long1_5 {s1 A1 A2 A3 A4 A5 : Bool} (h : s1 = false) : ((((((!true || !s1) || A1) || A2) || A3) || A4) || A5) = true:=by cases s1 <;> simp_all
theorem gi1_5 {s1 A1 A2 A3 A4 A5 : Bool} (h : s1 = false) (g : ((((((!true || !s1) || A1) || A2) || A3) || A4) || A5) = false) : False:=by cases s1 <;> simp_all
theorem long1_6 {s1 A1 A2 A3 A4 A5 A6 : Bool} (h : s1 = false) : (((((((!true || !s1) || A1) || A2) || A3) || A4) || A5) || A6) = true:=by cases s1 <;> simp_all
theorem gi1_6 {s1 A1 A2 A3 A4 A5 A6 : Bool} (h : s1 = false) (g : (((((((!true || !s1) || A1) || A2) || A3) || A4) || A5) || A6) = false) : False:=by cases s1 <;> simp_all
theorem short2 {s1 s2 : Bool} (h : (s1 && s2) = true) : ((!true || !s1) || !s2) = false:=by cases s1 <;> cases s2 <;> simp_all
theorem long2_0 {s1 s2 : Bool} (h : (s1 && s2) = false) : ((!true || !s1) || !s2) = true:=by cases s1 <;> cases s2 <;> simp_all
theorem gi2_0 {s1 s2 : Bool} (h : (s1 && s2) = false) (g : ((!true || !s1) || !s2) = false) : False:=by cases s1 <;> cases s2 <;> simp_all
theorem long2_1 {s1 s2 A1 : Bool} (h : (s1 && s2) = false) : (((!true || !s1) || !s2) || A1) = true:=by cases s1 <;> cases s2 <;> simp_all
theorem gi2_1 {s1 s2 A1 : Bool} (h : (s1 && s2) = false) (g : (((!true || !s1) || !s2) || A1) = false) : False:=by cases s1 <;> cases s2 <;> simp_all
theorem long2_2 {s1 s2 A1 A2 : Bool} (h : (s1 && s2) = false) : ((((!true || !s1) || !s2) || A1) || A2) = true:=by cases s1 <;> cases s2 <;> simp_all
theorem gi2_2 {s1 s2 A1 A2 : Bool} (h : (s1 && s2) = false) (g : ((((!true || !s1) || !s2) || A1) || A2) = false) : False:=by cases s1 <;> cases s2 <;> simp_all
theorem long2_3 {s1 s2 A1 A2 A3 : Bool} (h : (s1 && s2) = false) : (((((!true || !s1) || !s2) || A1) || A2) || A3) = true:=by cases s1 <;> cases s2 <;> simp_all
theorem gi2_3 {s1 s2 A1 A2 A3 : Bool} (h : (s1 && s2) = false) (g : (((((!true || !s1) || !s2) || A1) || A2) || A3) = false) : False:=by cases s1 <;> cases s2 <;> simp_all
theorem long2_4 {s1 s2 A1 A2 A3 A4 : Bool} (h : (s1 && s2) = false) : ((((((!true || !s1) || !s2) || A1) || A2) || A3) || A4) = true:=by cases s1 <;> cases s2 <;> simp_all
theorem gi2_4 {s1 s2 A1 A2 A3 A4 : Bool} (h : (s1 && s2) = false) (g : ((((((!true || !s1) || !s2) || A1) || A2) || A3) || A4) = false) : False:=by cases s1 <;> cases s2 <;> simp_all
theorem long2_5 {s1 s2 A1 A2 A3 A4 A5 : Bool} (h : (s1 && s2) = false) : (((((((!true || !s1) || !s2) || A1) || A2) || A3) || A4) || A5) = true:=by cases s1 <;> cases s2 <;> simp_all
theorem gi2_5 {s1 s2 A1 A2 A3 A4 A5 : Bool} (h : (s1 && s2) = false) (g : (((((((!true || !s1) || !s2) || A1) || A2) || A3) || A4) || A5) = false) : False:=by cases s1 <;> cases s2 <;> simp_all
theorem long2_6 {s1 s2 A1 A2 A3 A4 A5 A6 : Bool} (h : (s1 && s2) = false) : ((((((((!true || !s1) || !s2) || A1) || A2) || A3) || A4) || A5) || A6) = true:=by cases s1 <;> cases s2 <;> simp_all
theorem gi2_6 {s1 s2 A1 A2 A3 A4 A5 A6 : Bool} (h : (s1 && s2) = false) (g : ((((((((!true || !s1) || !s2) || A1) || A2) || A3) || A4) || A5) || A6) = false) : False:=by cases s1 <;> cases s2 <;> simp_all
theorem short3 {s1 s2 s3 : Bool} (h : ((s1 && s2) && s3) = true) : (((!true || !s1) || !s2) || !s3) = false:=by cases s1 <;> cases s2 <;> cases s3 <;> simp_all
theorem long3_0 {s1 s2 s3 : Bool} (h : ((s1 && s2) && s3) = false) : (((!true || !s1) || !s2) || !s3) = true:=by cases s1 <;> cases s2 <;> cases s3 <;> simp_all
theorem gi3_0 {s1 s2 s3 : Bool} (h : ((s1 && s2) && s3) = false) (g : (((!true || !s1) || !s2) || !s3) = false) : False:=by cases s1 <;> cases s2 <;> cases s3 <;> simp_all
theorem long3_1 {s1 s2 s3 A1 : Bool} (h : ((s1 && s2) && s3) = false) : ((((!true || !s1) || !s2) || !s3) || A1) = true:=by cases s1 <;> cases s2 <;> cases s3 <;> simp_all
theorem gi3_1 {s1 s2 s3 A1 : Bool} (h : ((s1 && s2) && s3) = false) (g : ((((!true || !s1) || !s2) || !s3) || A1) = false) : False:=by cases s1 <;> cases s2 <;> cases s3 <;> simp_all
theorem long3_2 {s1 s2 s3 A1 A2 : Bool} (h : ((s1 && s2) && s3) = false) : (((((!true || !s1) || !s2) || !s3) || A1) || A2) = true:=by cases s1 <;> cases s2 <;> cases s3 <;> simp_all
theorem gi3_2 {s1 s2 s3 A1 A2 : Bool} (h : ((s1 && s2) && s3) = false) (g : (((((!true || !s1) || !s2) || !s3) || A1) || A2) = false) : False:=by cases s1 <;> cases s2 <;> cases s3 <;> simp_all
theorem long3_3 {s1 s2 s3 A1 A2 A3 : Bool} (h : ((s1 && s2) && s3) = false) : ((((((!true || !s1) || !s2) || !s3) || A1) || A2) || A3) = true:=by cases s1 <;> cases s2 <;> cases s3 <;> simp_all
theorem gi3_3 {s1 s2 s3 A1 A2 A3 : Bool} (h : ((s1 && s2) && s3) = false) (g : ((((((!true || !s1) || !s2) || !s3) || A1) || A2) || A3) = false) : False:=by cases s1 <;> cases s2 <;> cases s3 <;> simp_all
theorem long3_4 {s1 s2 s3 A1 A2 A3 A4 : Bool} (h : ((s1 && s2) && s3) = false) : (((((((!true || !s1) || !s2) || !s3) || A1) || A2) || A3) || A4) = true:=by cases s1 <;> cases s2 <;> cases s3 <;> simp_all
theorem gi3_4 {s1 s2 s3 A1 A2 A3 A4 : Bool} (h : ((s1 && s2) && s3) = false) (g : (((((((!true || !s1) || !s2) || !s3) || A1) || A2) || A3) || A4) = false) : False:=by cases s1 <;> cases s2 <;> cases s3 <;> simp_all
theorem long3_5 {s1 s2 s3 A1 A2 A3 A4 A5 : Bool} (h : ((s1 && s2) && s3) = false) : ((((((((!true || !s1) || !s2) || !s3) || A1) || A2) || A3) || A4) || A5) = true:=by cases s1 <;> cases s2 <;> cases s3 <;> simp_all
theorem gi3_5 {s1 s2 s3 A1 A2 A3 A4 A5 : Bool} (h : ((s1 && s2) && s3) = false) (g : ((((((((!true || !s1) || !s2) || !s3) || A1) || A2) || A3) || A4) || A5) = false) : False:=by cases s1 <;> cases s2 <;> cases s3 <;> simp_all
theorem long3_6 {s1 s2 s3 A1 A2 A3 A4 A5 A6 : Bool} (h : ((s1 && s2) && s3) = false) : (((((((((!true || !s1) || !s2) || !s3) || A1) || A2) || A3) || A4) || A5) || A6) = true:=by cases s1 <;> cases s2 <;> cases s3 <;> simp_all
theorem gi3_6 {s1 s2 s3 A1 A2 A3 A4 A5 A6 : Bool} (h : ((s1 && s2) && s3) = false) (g : (((((((((!true || !s1) || !s2) || !s3) || A1) || A2) || A3) || A4) || A5) || A6) = false) : False:=by cases s1 <;> cases s2 <;> cases s3 <;> simp_all
theorem nf_sum {x : Rat} {u v : RR} {k : Rat} : nearR x u v k + nearR (-x) u v (-k) = RR.of 4 * v:=by
  unfold nearR
  obtain ⟨f,hf,rfl⟩:=RR.rep u;obtain ⟨g,hg,rfl⟩:=RR.rep v
  exact RR.ext fun n=>by grind
theorem near_0 {g a b c : FR} (h : [g,a,b,c].all posR = true) {k : Rat} (e : nearF g a b c k = 0) : farF g a b c k ≥ 0:=by
  rw [near_R h] at e
  rw [far_R h,sgR_nn]
  have hz : nearR (g.val + a.val - (b.val + c.val)) (rt (a.val * g.val)) (rt (b.val * c.val)) k = 0:=by
    rcases sgR_cases (nearR (g.val + a.val - (b.val + c.val)) (rt (a.val * g.val)) (rt (b.val * c.val)) k) with ⟨_,h2⟩ | ⟨h1,_⟩ | ⟨_,h2⟩
    · omega
    · exact h1
    · omega
  have:=nf_sum (x:=g.val + a.val - (b.val + c.val)) (u:=rt (a.val * g.val)) (v:=rt (b.val * c.val)) (k:=k)
  rw [hz,RR.zero_add] at this
  rw [this]
  exact RR.mul_nn (RR.of_le (p:=0) |>.2 (by decide)) (rt_nn _)
theorem far_0 {g a b c : FR} (h : [g,a,b,c].all posR = true) {k : Rat} (e : farF g a b c k = 0) : nearF g a b c k ≥ 0:=by
  rw [far_R h] at e
  rw [near_R h,sgR_nn]
  have hz : nearR (-(g.val + a.val - (b.val + c.val))) (rt (a.val * g.val)) (rt (b.val * c.val)) (-k) = 0:=by
    rcases sgR_cases (nearR (-(g.val + a.val - (b.val + c.val))) (rt (a.val * g.val)) (rt (b.val * c.val)) (-k)) with ⟨_,h2⟩ | ⟨h1,_⟩ | ⟨_,h2⟩
    · omega
    · exact h1
    · omega
  have:=nf_sum (x:=g.val + a.val - (b.val + c.val)) (u:=rt (a.val * g.val)) (v:=rt (b.val * c.val)) (k:=k)
  rw [hz,RR.add_zero] at this
  rw [this]
  exact RR.mul_nn (RR.of_le (p:=0) |>.2 (by decide)) (rt_nn _)
theorem cmp_k {g a b c : FR} (h : [g,a,b,c].all posR = true) (k u : Rat) : sgL [[a.val * g.val],[b.val * c.val,0]] (plusF [k] (minusF [0,limA g a b c,0,u])) = surdsF k (-limA g a b c) (a.val * g.val) (-u) (a.val * g.val * (b.val * c.val)):=by
  have hn:=pos_nn h
  rw [← sg2p hn.1 hn.2]
  congr 1
  unfold plusF minusF
  show [k + -0,0 + -limA g a b c,0 + -0,0 + -u] = _
  rw [show (-0 : Rat) = 0 by decide,Rat.add_zero,Rat.zero_add,Rat.zero_add,Rat.zero_add]
theorem cmp_1 {g a b c : FR} (h : [g,a,b,c].all posR = true) (u : Rat) : sgL [[a.val * g.val],[b.val * c.val,0]] (plusF [0,limA g a b c,0,u] (minusF [1])) = -surdsF 1 (-limA g a b c) (a.val * g.val) (-u) (a.val * g.val * (b.val * c.val)):=by
  have hn:=pos_nn h
  rw [← lim_s h 1 u,← sg2p hn.1 hn.2]
  exact congrArg _ lim_sub
theorem cmp_2 {g a b c : FR} (h : [g,a,b,c].all posR = true) : sgL [[a.val * g.val],[b.val * c.val,0]] (plusF [0,limA g a b c,0,-1 / (a.val * g.val)] (minusF [0,limA g a b c,0,1 / (a.val * g.val)])) < 0:=by
  have hn:=pos_nn h
  have hp2:=h
  simp only [List.all_cons,List.all_nil,Bool.and_true,Bool.and_eq_true] at hp2
  have hP:=Rat.mul_pos (posR_val hp2.2.1) (posR_val hp2.1)
  have hS:=Rat.mul_pos (posR_val hp2.2.2.1) (posR_val hp2.2.2.2)
  have e : plusF [0,limA g a b c,0,-1 / (a.val * g.val)] (minusF [0,limA g a b c,0,1 / (a.val * g.val)]) = [0,0,0,-1 / (a.val * g.val) + -(1 / (a.val * g.val))]:=by
    unfold plusF minusF
    show [0 + -0,limA g a b c + -limA g a b c,0 + -0,-1 / (a.val * g.val) + -(1 / (a.val * g.val))] = _
    rw [show (0 : Rat) + -0 = 0 by grind,show limA g a b c + -limA g a b c = 0 by grind]
  have hu : -1 / (a.val * g.val) + -(1 / (a.val * g.val)) < 0:=by
    have:=rdiv_pos (show (0 : Rat) < 1 by decide) hP
    have e2 : -1 / (a.val * g.val) = -(1 / (a.val * g.val)):=by grind
    rw [e2];grind
  rw [e,sg2p hn.1 hn.2,surds_sg hn.1 (Rat.mul_nonneg hn.1 hn.2),show RR.of 0 = (0 : RR) from rfl,RR.zero_mul,RR.add_zero,RR.zero_add,sgR_mul,sgR_of,sgR_pos (rt_pos (Rat.mul_pos hP hS)),Int.mul_one]
  exact (nsg _).2 hu
theorem at_lo {g a b c : FR} (h : [g, a, b, c].all posR = true) {k : Rat} (h1 : farF g a b c (-1) ≤ 0) (h2 : farF g a b c 1 ≥ 0) {X : List Rat} (hX : X = [0, limA g a b c, 0, -1 / (a.val * g.val)]) : sgL [[a.val * g.val], [b.val * c.val, 0]] (plusF [-1] (minusF X)) ≤ 0 ∧ sgL [[a.val * g.val], [b.val * c.val, 0]] (plusF X (minusF [1])) ≤ 0 ∧ (sgL [[a.val * g.val], [b.val * c.val, 0]] (plusF [k] (minusF X)) = 0 → (nearF g a b c k = 0 ∨ farF g a b c k = 0) ∧ nearF g a b c k ≥ 0 ∧ farF g a b c k ≥ 0) ∧
    ((X.getD 3 default).num.sign < 0 → (sgL [[a.val * g.val],[b.val * c.val,0]] (plusF [k] (minusF X)) < 0 ↔ farF g a b c k < 0)) ∧ (¬ (X.getD 3 default).num.sign < 0 → (sgL [[a.val * g.val],[b.val * c.val,0]] (plusF [k] (minusF X)) > 0 ↔ nearF g a b c k < 0)):=by
  have hP : 0 < a.val * g.val:=by
    simp only [List.all_cons,List.all_nil,Bool.and_true,Bool.and_eq_true] at h
    exact Rat.mul_pos (posR_val h.2.1) (posR_val h.1)
  have e2 : -1 / (a.val * g.val) = -(1 / (a.val * g.val)):=by grind
  have hs : (-(1 / (a.val * g.val))).num.sign < 0:=(nsg _).2 (by have:=rdiv_pos (show (0 : Rat) < 1 by decide) hP;grind)
  subst hX
  rw [e2,cmp_k h,cmp_k h,cmp_1 h,lim_lo h,lim_lo h,lim_lo h]
  refine ⟨h1,by omega,fun e=>⟨.inr e,far_0 h e,by omega⟩,fun _=>Iff.rfl,fun n=>absurd hs n⟩
theorem at_hi {g a b c : FR} (h : [g, a, b, c].all posR = true) {k : Rat} (h1 : nearF g a b c (-1) ≥ 0) (h2 : nearF g a b c 1 ≤ 0) {X : List Rat} (hX : X = [0, limA g a b c, 0, 1 / (a.val * g.val)]) : sgL [[a.val * g.val], [b.val * c.val, 0]] (plusF [-1] (minusF X)) ≤ 0 ∧ sgL [[a.val * g.val], [b.val * c.val, 0]] (plusF X (minusF [1])) ≤ 0 ∧ (sgL [[a.val * g.val], [b.val * c.val, 0]] (plusF [k] (minusF X)) = 0 → (nearF g a b c k = 0 ∨ farF g a b c k = 0) ∧ nearF g a b c k ≥ 0 ∧ farF g a b c k ≥ 0) ∧
    ((X.getD 3 default).num.sign < 0 → (sgL [[a.val * g.val],[b.val * c.val,0]] (plusF [k] (minusF X)) < 0 ↔ farF g a b c k < 0)) ∧ (¬ (X.getD 3 default).num.sign < 0 → (sgL [[a.val * g.val],[b.val * c.val,0]] (plusF [k] (minusF X)) > 0 ↔ nearF g a b c k < 0)):=by
  have hP : 0 < a.val * g.val:=by
    simp only [List.all_cons,List.all_nil,Bool.and_true,Bool.and_eq_true] at h
    exact Rat.mul_pos (posR_val h.2.1) (posR_val h.1)
  have hs : ¬ (1 / (a.val * g.val)).num.sign < 0:=fun e=>by have:=(nsg _).1 e;have:=rdiv_pos (show (0 : Rat) < 1 by decide) hP;grind
  subst hX
  rw [cmp_k h,cmp_k h,cmp_1 h,lim_hi h,lim_hi h,lim_hi h]
  refine ⟨by omega,by omega,fun e=>⟨.inl (by omega),by omega,near_0 h (by omega)⟩,fun n=>absurd n hs,fun _=>by omega⟩
theorem inside_at {g a b c : FR} {k : Rat} {j : Nat} (h : chkF [g, a, b, c] = 0) (hj : j < (limL g a b c).length) :
    ((limL g a b c).getD j default).length = 4 ∧ sgL [[a.val * g.val],[b.val * c.val,0]] (plusF [-1] (minusF ((limL g a b c).getD j default))) ≤ 0 ∧ sgL [[a.val * g.val],[b.val * c.val,0]] (plusF ((limL g a b c).getD j default) (minusF [1])) ≤ 0 ∧ (sgL [[a.val * g.val],[b.val * c.val,0]] (plusF [k] (minusF ((limL g a b c).getD j default))) = 0 → (nearF g a b c k = 0 ∨ farF g a b c k = 0) ∧ nearF g a b c k ≥ 0 ∧ farF g a b c k ≥ 0) ∧
    ((((limL g a b c).getD j default).getD 3 default).num.sign < 0 → (sgL [[a.val * g.val],[b.val * c.val,0]] (plusF [k] (minusF ((limL g a b c).getD j default))) < 0 ↔ farF g a b c k < 0)) ∧ (¬ (((limL g a b c).getD j default).getD 3 default).num.sign < 0 → (sgL [[a.val * g.val],[b.val * c.val,0]] (plusF [k] (minusF ((limL g a b c).getD j default))) > 0 ↔ nearF g a b c k < 0)) ∧ (j = 1 → ((limL g a b c).getD 0 default).length = 4 ∧ sgL [[a.val * g.val],[b.val * c.val,0]] (plusF ((limL g a b c).getD 0 default) (minusF ((limL g a b c).getD j default))) < 0):=by
  have hp:=chk_pos h
  rw [limL_ok (by omega),← limR_eq hp] at *
  unfold limR at *
  by_cases c1 : (decide (farF g a b c (-1) ≤ 0) && decide (farF g a b c 1 ≥ 0)) = true <;> by_cases c2 : (decide (nearF g a b c (-1) ≥ 0) && decide (nearF g a b c 1 ≤ 0)) = true
  · rw [if_pos c1,if_pos c2] at *
    rw [Bool.and_eq_true,decide_eq_true_eq,decide_eq_true_eq] at c1 c2
    match j,hj with
    | 0,_ =>
      obtain ⟨q1,q2,q3,q4,q5⟩:=at_lo hp (k:=k) c1.1 c1.2 rfl
      exact ⟨rfl,q1,q2,q3,q4,q5,fun e=>by omega⟩
    | 1,_ =>
      obtain ⟨q1,q2,q3,q4,q5⟩:=at_hi hp (k:=k) c2.1 c2.2 rfl
      exact ⟨rfl,q1,q2,q3,q4,q5,fun e=>⟨rfl,cmp_2 hp⟩⟩
  · rw [if_pos c1,if_neg c2] at *
    rw [Bool.and_eq_true,decide_eq_true_eq,decide_eq_true_eq] at c1
    match j,hj with
    | 0,_ =>
      obtain ⟨q1,q2,q3,q4,q5⟩:=at_lo hp (k:=k) c1.1 c1.2 rfl
      exact ⟨rfl,q1,q2,q3,q4,q5,fun e=>by omega⟩
  · rw [if_neg c1,if_pos c2] at *
    rw [Bool.and_eq_true,decide_eq_true_eq,decide_eq_true_eq] at c2
    match j,hj with
    | 0,_ =>
      obtain ⟨q1,q2,q3,q4,q5⟩:=at_hi hp (k:=k) c2.1 c2.2 rfl
      exact ⟨rfl,q1,q2,q3,q4,q5,fun e=>by omega⟩
  · rw [if_neg c1,if_neg c2] at *
    exact absurd hj (Nat.not_lt_zero _)
theorem inside_none {g a b c : FR} (h : chkF [g,a,b,c] = 0) (hl : (limL g a b c).length = 0) : fullF g a b c = true:=by
  have hp:=chk_pos h
  rw [limL_ok (by omega),← limR_eq hp] at hl
  unfold limR at hl
  have hx:=near_far_ok h
  rw [full_ok (by omega),Bool.and_eq_true,decide_eq_true_eq,decide_eq_true_eq]
  by_cases c1 : (decide (farF g a b c (-1) ≤ 0) && decide (farF g a b c 1 ≥ 0)) = true
  · rw [if_pos c1] at hl;simp at hl
  · by_cases c2 : (decide (nearF g a b c (-1) ≥ 0) && decide (nearF g a b c 1 ≤ 0)) = true
    · rw [if_pos c2] at hl;simp at hl
    · rw [Bool.and_eq_true,decide_eq_true_eq,decide_eq_true_eq] at c1 c2
      omega
theorem gap_rng {g a b c : FR} {x : Rat} (h : gapC g a b c (FR.of x) = 0) : chkF [g,a,b,c] = 0 ∧ -1 ≤ x ∧ x ≤ 1:=by
  unfold gapC at h
  rw [FR.of_ok,if_pos rfl,FR.of_val] at h
  split at h
  · refine ⟨by assumption,?_⟩
    split at h
    · cases h
    · grind
  · omega
theorem inside_full {g a b c : FR} {k : Rat} (h : chkF [g,a,b,c] = 0) (hf : fullF g a b c = true) (h1 : -1 ≤ k) (h2 : k ≤ 1) : nearF g a b c k ≥ 0 ∧ farF g a b c k ≥ 0:=by
  rw [full_ok (by omega),Bool.and_eq_true,decide_eq_true_eq,decide_eq_true_eq] at hf
  have:=near_anti (chk_pos h) h2;have:=far_mono (chk_pos h) h1
  omega
theorem pw_l4 {k : Nat} {l : List Rat} (hk : 2 ≤ k) (h : l.length = 4) : PW k l:=.inr ⟨2,hk,h⟩
theorem lt3 {n : Nat} (h : n = 4) : 3 < n:=by omega
theorem shl {s t : Bool} (h : (s && t) = true) : s = true ∧ t = true:=by simpa using h
theorem lim_le (g a b c : FR) : (limL g a b c).length ≤ 2:=by
  unfold limL
  split
  · exact lim_len g a b c 2
  · exact Nat.zero_le _
theorem in_full {g a b c : FR} {x : Rat} (h : chkF [g,a,b,c] = 0) (h2 : gapC g a b c (FR.of x) = 0) : (fullF g a b c = true → nearF g a b c x ≥ 0 ∧ farF g a b c x ≥ 0) ∧ ((limL g a b c).length = 0 → fullF g a b c = true):=⟨fun hf=>inside_full h hf (gap_rng h2).2.1 (gap_rng h2).2.2,inside_none h⟩
theorem gap_bad {g a b c k : FR} (h : k.ok = false) : gapC g a b c k ≠ 0:=by
  unfold gapC
  split
  · rw [h];simp
  · assumption
instance NR.lx8 {τs : List MT} {xs : List FR} [h : AsTL τs RX xs] : NR (LSC (some 3) τs) (LS (some 3) (xs.map RX)):=⟨fun hv=>h.ls hv.1⟩
instance AsT.fxr8 {n : Nat} {r : FR} : AsT (FX n r) RX r:=⟨fun h=>FX.toRX h⟩
instance AsT.qxr8 {n : Nat} {x : Rat} : AsT (QC n x) RX (FR.of x):=⟨fun h=>NR.h h⟩
theorem QC.ofFX {n : Nat} {x : Rat} {v : Value} {G : Gh} (h : (FX n (FR.of x)).t v G) : (QC n x).t v G:=by
  obtain ⟨h1,h2,h3,h4⟩:=h
  refine ⟨⟨?_,?_⟩,h4⟩
  · rwa [show (FR.of x).p = words x.num.natAbs from rfl,val_words] at h2
  · rw [show (FR.of x).q = dwords x from rfl] at h3
    unfold dwords at h3
    split at h3
    · have e : x = 0:=by assumption
      rw [e];exact Nat.lt_of_lt_of_le (by decide : (1 : Nat) < 2 ^ 1) (Nat.pow_le_pow_right (by decide) h1)
    · rwa [val_words] at h3
theorem QC.of_ok {n : Nat} {r : FR} {v : Value} {G : Gh} (h : (FX n r).t v G) (hok : r.ok = true) : (QC n r.val).t v G:=by
  have h2:=FX.self h hok
  exact QC.ofFX h2
attribute [local irreducible] plusF minusF joinF levI lev PW RLN tB sB timesF stepF tmF normF TOK sgL surdsF chkF gapC fullF nearF farF limL limJ
instance {rg ra rb rc : FR} : Con Try.prog 7 [PTS [(some 3,RX rg),(some 3,RX ra),(some 3,RX rb),(some 3,RX rc)]] (shortF [rg,ra,rb,rc] = true) (.ex (errV 54 (chkF [rg,ra,rb,rc]))):=.o1 fun hok h1 hp=>by
  have hq:=hp
  (try simp only [shortF,List.all_cons,List.all_nil,Bool.and_true,Bool.and_eq_true] at hq)
  exact (inferInstance : Con Try.prog 7 [QUD 64 rg ra rb rc] _ (.ex (errV 54 (chkF [rg,ra,rb,rc])))).c1 hok (NS.h (τ':=QUD 64 rg ra rb rc) (by (try simp only [and_true,true_and]);grind) h1) (by decide)
instance (priority:=2000) {n : Nat} {rg ra rb rc : FR} : Con Try.prog 9 [QUD n rg ra rb rc] (1000 * n + 300000 ≤ BIG ∧ chkF [rg,ra,rb,rc] = 0) (MT.tup3 (TWR (n + n) [[ra.val * rg.val],[rb.val * rc.val,0]]) (LS none ((limL rg ra rb rc).map (NM (6 * n + 100)))) (.ex (errV 54 (0)))):=.o1 fun hok h1 hp=>by
  have h:=(inferInstance : Con Try.prog 9 [QUD n rg ra rb rc] _ _).c1 hok h1 hp.1
  rw [if_pos hp.2,hp.2] at h
  exact h
theorem longRotationInside {rg ra rb rc rk : FR} : Con Try.prog 3 [PTS [(some 3,RX rg),(some 3,RX ra),(some 3,RX rb),(some 3,RX rc)],RX rk] ((shortF [rg,ra,rb,rc] && shortF [rk]) = false) (BT true):=.o2 fun hok h1 h2 hp=>by
  refine St.enter (N:=213) Try.func3 rfl rfl rfl hok (enter2 h1 h2) fun a=>?_
  repeat' (first | refine W.cbt (long2_1 hp) ?_ | ((with_reducible refine gS_ ?_);first | ((with_reducible refine gL_ ?_);first | refine W.run ?_ fun a w G=>?_ | refine W.mv fun a w G=>?_ | refine W.asg fun a w G=>?_ | refine W.bx fun b a w G=>?_ | (refine W.nn hK ?_;clear hK K) | refine W.nl ?_ | refine W.al fun b a w G=>?_ | refine W.st fun w=>?_ | refine W.stp fun w=>?_ | refine W.ste ?_ fun w=>?_) | ((with_reducible refine gC_ ?_);first | refine W.reg fun K hK=>?_ | refine W.reg1 ?_ | refine W.sq fun K hK=>?_ | refine W.ds ?_ (fun β a w G hu=>W.fin ?_ hu) mixedOrders (by kernel_rfl) | refine W.sk ?_ | refine W.cd (fun hc=>?_) (fun hc=>?_) | refine W.cb (fun hc=>?_) (fun hc=>?_) | refine W.bl ?_ | refine W.ex ?_ | refine W.rt ?_) | ((with_reducible refine W.kn hK ?_);clear hK K) | with_reducible refine W.bn ?_ | with_reducible refine W.xt ?_ | with_reducible refine W.xb ?_ | with_reducible refine W.xo ?_ | with_reducible refine W.tr ?_ | with_reducible refine W.br ?_ | refine W.rt1 rfl ?_ | refine W.rt2 rfl ?_ ?_ | refine W.rt3 rfl ?_ ?_ ?_) | clear hK K | clear hu | exact True.intro | exact Nat.le_trans (by clear hp;omega) hp | exact Nat.le_trans (by clear hp;omega) hp.1 | exact Nat.le_trans (by clear hp;omega) hp.2 | (clear hp;omega) | apply And.intro | refine GI.i fun _=>?_ | with_reducible rfl | decide | (simp only [List.length_cons,List.length_nil];omega))
  all_goals first | exact (gi2_0 hp (by assumption)).elim | skip
instance gTV8_3_2 : GcT 3 2 false 2 [3,4,25,26,27,28,29,30,31,32,33,34,35,36,37,38,39,40,41,42]:=⟨⟩
instance gTV8_3_3 : GcT 3 3 false 4 [25,26,27,28,29,30,31,32,33,34,35,36,37,38,39,40,41,42]:=⟨⟩
instance gTV8_3_4 : GcT 3 4 false 44 [45,46,47,48,49,50]:=⟨⟩
instance gTV8_3_7 : GcT 3 7 false 7 [51,52,59,60,61,62,63,64]:=⟨⟩
instance gTV8_3_8 : GcT 3 8 false 2 [65,66,67,68,69]:=⟨⟩
instance gTV8_3_9 : GcT 3 9 false 3 [5,6,8,9,10,11,12,70,71,72,73,74,75,76,77,78,79,80,81,82,83,84,85,86,87,88,89]:=⟨⟩
instance gTV8_3_10 : GcT 3 10 false 10 [12,70,71,72,73,74,75,76,77,78,79,80,81,82,83,84,85,86,87,88,89]:=⟨⟩
instance gTV8_3_11 : GcT 3 11 false 90 [91,92,93,94,95]:=⟨⟩
instance gTV8_3_12 : GcT 3 12 false 3 [5,6,8,9,11,13,96,97,98,99,100]:=⟨⟩
instance gTV8_3_13 : GcT 3 13 false 11 [96,97,98,99,100]:=⟨⟩
instance gTV8_3_17 : GcT 3 17 false 104 [105,106,107,108,109,110,111,112,113,114,115]:=⟨⟩
instance gTV8_3_18 : GcT 3 18 false 116 [117,118,119,120,121,122,123]:=⟨⟩
instance gTV8_3_19 : GcT 3 19 false 124 [125,126,127,128,129,130,131]:=⟨⟩
instance gTV8_3_20 : GcT 3 20 false 14 [15,16,17,18,19,20,21,132,133,134,135,136,137,138,139,140,141,142,143,144,145,146,147,148,149]:=⟨⟩
instance gTV8_3_21 : GcT 3 21 false 16 [17,18,19,21,132,133,134,135,136,137,138,139,140,141,142,143,144,145,146,147,148,149]:=⟨⟩
instance gTV8_3_23 : GcT 3 23 false 14 [150,151,152,153,154,155,156,157,158,159,160]:=⟨⟩
instance gTV8_3_24 : GcT 3 24 false 15 [20,22,23,161,162,163,164,165,166]:=⟨⟩
instance gTV8_3_26 : GcT 3 26 false 15 [20,167,168,169,170,171,172,173,174,175,176,177,178,179,180,181,182,183,184]:=⟨⟩
instance gTV8_3_27 : GcT 3 27 false 167 [168,169,170,171,172,173,174,175,176,177,178,179,180,181,182,183,184]:=⟨⟩
instance gTV8_3_30 : GcT 3 30 false 15 [185,186,187,188,189,190,191,192]:=⟨⟩
instance gTV8_3_31 : GcT 3 31 false 20 [24,193,194,195,196,197,198,199,200,201,202,203,204,205,206,207,208,209,210,211]:=⟨⟩
instance gTV8_3_33 : GcT 3 33 false 3 [5,6,8,9,13,101,102]:=⟨⟩
theorem badRotationInside {rg ra rb rc rk : FR} : Con Try.prog 3 [QUD 64 rg ra rb rc,FX 64 rk] ((shortF [rg,ra,rb,rc] && shortF [rk]) = true ∧ rk.ok = false) (BT true):=.o2 fun hok h1 h2 hp=>by
  refine St.enter (N:=213) Try.func3 rfl rfl rfl hok (enter2 h1 h2) fun a=>?_
  repeat' (first | refine W.cbt (decide_eq_true (gap_bad hp.2)) ?_ | ((with_reducible refine gS_ ?_);first | ((with_reducible refine gL_ ?_);first | refine W.run ?_ fun a w G=>?_ | refine W.mv fun a w G=>?_ | refine W.asg fun a w G=>?_ | refine W.bx fun b a w G=>?_ | (refine W.nn hK ?_;clear hK K) | refine W.nl ?_ | refine W.al fun b a w G=>?_ | refine W.st fun w=>?_ | refine W.stp fun w=>?_ | refine W.ste ?_ fun w=>?_) | ((with_reducible refine gC_ ?_);first | with_reducible refine W.gcc 3 ?_ | with_reducible refine W.gcd 3 ?_ | refine W.reg fun K hK=>?_ | refine W.reg1 ?_ | refine W.sq fun K hK=>?_ | refine W.ds ?_ (fun β a w G hu=>W.fin ?_ hu) mixedOrders (by kernel_rfl) | refine W.sk ?_ | refine W.cd (fun hc=>?_) (fun hc=>?_) | refine W.cb (fun hc=>?_) (fun hc=>?_) | refine W.bl ?_ | refine W.ex ?_ | refine W.rt ?_) | ((with_reducible refine W.kn hK ?_);clear hK K) | with_reducible refine W.bn ?_ | with_reducible refine W.xt ?_ | with_reducible refine W.xb ?_ | with_reducible refine W.xo ?_ | with_reducible refine W.tr ?_ | with_reducible refine W.br ?_ | refine W.rt1 rfl ?_ | refine W.rt2 rfl ?_ ?_ | refine W.rt3 rfl ?_ ?_ ?_) | clear hK K | clear hu | exact True.intro | exact Nat.le_trans (by clear hp;omega) hp | exact Nat.le_trans (by clear hp;omega) hp.1 | exact Nat.le_trans (by clear hp;omega) hp.2 | (clear hp;omega) | apply And.intro | refine GI.i fun _=>?_ | with_reducible rfl | decide | (simp only [List.length_cons,List.length_nil];omega))
  all_goals first
    | omega
    | (simp only [Bool.and_eq_true] at hp;exact hp.1.1)
    | (rw [if_neg (gap_bad hp.2),if_neg (gap_bad hp.2)];rfl)
    | skip
theorem shortRotationInsideA {rg ra rb rc : FR} {x : Rat} : Con Try.prog 3 [QUD 64 rg ra rb rc,QC 64 x] ((shortF [rg,ra,rb,rc] && shortF [FR.of x]) = true ∧ chkF [rg,ra,rb,rc] ≠ 0) (BT true):=.o2 fun hok h1 h2 hp=>by
  refine St.enter (N:=213) Try.func3 rfl rfl rfl hok (enter2 h1 h2) fun a=>?_
  repeat' (first | ((with_reducible refine gS_ ?_);first | ((with_reducible refine gL_ ?_);first | refine W.run ?_ fun a w G=>?_ | refine W.mv fun a w G=>?_ | refine W.asg fun a w G=>?_ | refine W.bx fun b a w G=>?_ | (refine W.nn hK ?_;clear hK K) | refine W.nl ?_ | refine W.al fun b a w G=>?_ | refine W.st fun w=>?_ | refine W.stp fun w=>?_ | refine W.ste ?_ fun w=>?_) | ((with_reducible refine gC_ ?_);first | with_reducible refine W.cbt (by first | (simp [hp.1,hp.2];done) | fail) ?_ | with_reducible refine W.cbf (by first | (simp [hp.1,hp.2];done) | fail) ?_ | with_reducible refine W.gcc 3 ?_ | with_reducible refine W.gcd 3 ?_ | refine W.reg fun K hK=>?_ | refine W.reg1 ?_ | refine W.sq fun K hK=>?_ | refine W.ds ?_ (fun β a w G hu=>W.fin ?_ hu) mixedOrders (by kernel_rfl) | refine W.sk ?_ | refine W.cd (fun hc=>?_) (fun hc=>?_) | refine W.cb (fun hc=>?_) (fun hc=>?_) | refine W.bl ?_ | refine W.ex ?_ | refine W.rt ?_) | ((with_reducible refine W.kn hK ?_);clear hK K) | with_reducible refine W.bn ?_ | with_reducible refine W.xt ?_ | with_reducible refine W.xb ?_ | with_reducible refine W.xo ?_ | with_reducible refine W.tr ?_ | with_reducible refine W.br ?_ | refine W.rt1 rfl ?_ | refine W.rt2 rfl ?_ ?_ | refine W.rt3 rfl ?_ ?_ ?_) | clear hK K | clear hu | exact True.intro | exact Nat.le_trans (by clear hp;omega) hp | exact Nat.le_trans (by clear hp;omega) hp.1 | exact Nat.le_trans (by clear hp;omega) hp.2 | (clear hp;omega) | apply And.intro | refine GI.i fun _=>?_ | with_reducible rfl | decide | (simp only [List.length_cons,List.length_nil];omega))
  all_goals first
    | omega
    | (simp only [Bool.and_eq_true] at hp;exact hp.1.1)
    | skip
theorem shortRotationInsideB {rg ra rb rc : FR} {x : Rat} : Con Try.prog 3 [QUD 64 rg ra rb rc,QC 64 x] ((shortF [rg,ra,rb,rc] && shortF [FR.of x]) = true ∧ chkF [rg,ra,rb,rc] = 0 ∧ gapC rg ra rb rc (FR.of x) ≠ 0) (BT true):=.o2 fun hok h1 h2 hp=>by
  refine St.enter (N:=213) Try.func3 rfl rfl rfl hok (enter2 h1 h2) fun a=>?_
  have e1:=hp.2.1
  have e2:=hp.2.2
  have e3:=shl hp.1
  repeat' (first | ((with_reducible refine gS_ ?_);first | ((with_reducible refine gL_ ?_);first | refine W.run ?_ fun a w G=>?_ | refine W.mv fun a w G=>?_ | refine W.asg fun a w G=>?_ | refine W.bx fun b a w G=>?_ | (refine W.nn hK ?_;clear hK K) | refine W.nl ?_ | refine W.al fun b a w G=>?_ | refine W.st fun w=>?_ | refine W.stp fun w=>?_ | refine W.ste ?_ fun w=>?_) | ((with_reducible refine gC_ ?_);first | with_reducible refine W.cbt (by first | (simp [e1,e2,e3];done) | fail) ?_ | with_reducible refine W.cbf (by first | (simp [e1,e2,e3];done) | fail) ?_ | with_reducible refine W.gcc 3 ?_ | with_reducible refine W.gcd 3 ?_ | refine W.reg fun K hK=>?_ | refine W.reg1 ?_ | refine W.sq fun K hK=>?_ | refine W.ds ?_ (fun β a w G hu=>W.fin ?_ hu) mixedOrders (by kernel_rfl) | refine W.sk ?_ | refine W.cd (fun hc=>?_) (fun hc=>?_) | refine W.cb (fun hc=>?_) (fun hc=>?_) | refine W.bl ?_ | refine W.ex ?_ | refine W.rt ?_) | ((with_reducible refine W.kn hK ?_);clear hK K) | with_reducible refine W.bn ?_ | with_reducible refine W.xt ?_ | with_reducible refine W.xb ?_ | with_reducible refine W.xo ?_ | with_reducible refine W.tr ?_ | with_reducible refine W.br ?_ | refine W.rt1 rfl ?_ | refine W.rt2 rfl ?_ ?_ | refine W.rt3 rfl ?_ ?_ ?_) | clear hK K | clear hu | exact True.intro | exact Nat.le_trans (by clear hp;omega) hp | exact Nat.le_trans (by clear hp;omega) hp.1 | exact Nat.le_trans (by clear hp;omega) hp.2 | (clear hp;omega) | apply And.intro | refine GI.i fun _=>?_ | with_reducible rfl | decide | (simp only [List.length_cons,List.length_nil];omega))
  all_goals first
    | omega
    | (simp only [Bool.and_eq_true] at hp;exact hp.1.1)
    | (simp [e1,e2];done)
    | skip
instance (priority:=2000) gap8 {n m : Nat} {rg ra rb rc : FR} {x : Rat} : Con Try.prog 8 [QUD n rg ra rb rc,QC m x] (1000 * n + 1000 * m + 200000 ≤ BIG ∧ gapC rg ra rb rc (FR.of x) = 0) (MT.tup3 (IT (nearF rg ra rb rc x)) (IT (farF rg ra rb rc x)) (.ex (errV 54 (0)))):=.o2 fun hok h1 h2 hp=>by
  have h:=(inferInstance : Con Try.prog 8 [QUD n rg ra rb rc,QC m x] (1000 * n + 1000 * m + 200000 ≤ BIG) _).c2 hok h1 h2 hp.1
  simp only [hp.2,if_true,FR.of_val] at h
  exact h
section
variable {g a b c : FR} {x : Rat} {j : Nat}
theorem in_t0a (h : chkF [g,a,b,c] = 0) : (decide ((0 : Int) ≠ 0) || decide (chkF [g,a,b,c] ≠ 0) || decide ((((limL g a b c).length : Nat) : Int) > 2) || decide ((((limL g a b c).length : Nat) : Int) = 0) && !fullF g a b c) = false:=by
  have h1:=lim_le g a b c
  rw [h,decide_eq_false (show ¬ ((((limL g a b c).length : Nat) : Int) > 2) by omega)]
  by_cases h2 : (limL g a b c).length = 0
  · rw [inside_none h h2];simp
  · rw [decide_eq_false (show ¬ ((((limL g a b c).length : Nat) : Int) = 0) by omega)];simp
theorem in_t0b (h : chkF [g,a,b,c] = 0) (h2 : gapC g a b c (FR.of x) = 0) : (fullF g a b c && !(decide (nearF g a b c x ≥ 0) && decide (farF g a b c x ≥ 0))) = false:=by
  cases hf : fullF g a b c with
  | false=>rfl
  | true =>
    have:=inside_full h hf (gap_rng h2).2.1 (gap_rng h2).2.2
    rw [decide_eq_true this.1,decide_eq_true this.2];rfl
theorem in_t1 (h : chkF [g,a,b,c] = 0) (hj : j < (limL g a b c).length) : (decide ((0 : Int) ≠ 0) || decide ((0 : Int) ≠ 0) || decide ((0 : Int) ≠ 0) || decide (sgL [[a.val * g.val],[b.val * c.val,0]] (plusF [-1] (minusF ((limL g a b c).getD j default))) > 0) || decide (sgL [[a.val * g.val],[b.val * c.val,0]] (plusF ((limL g a b c).getD j default) (minusF [1])) > 0)) = false:=by
  have hi:=inside_at (k:=0) h hj
  rw [decide_eq_false (show ¬ sgL [[a.val * g.val],[b.val * c.val,0]] (plusF [-1] (minusF ((limL g a b c).getD j default))) > 0 by have:=hi.2.1;omega),decide_eq_false (show ¬ sgL [[a.val * g.val],[b.val * c.val,0]] (plusF ((limL g a b c).getD j default) (minusF [1])) > 0 by have:=hi.2.2.1;omega)];rfl
theorem in_t2 (h : chkF [g,a,b,c] = 0) (hj : j < (limL g a b c).length) (h1 : ((j : Nat) : Int) = 1) : decide (sgL [[a.val * g.val],[b.val * c.val,0]] (plusF ((limL g a b c).getD 0 default) (minusF ((limL g a b c).getD j default))) ≥ 0) = false:=by
  have hi:=(inside_at (k:=0) h hj).2.2.2.2.2.2 (by omega)
  exact decide_eq_false (by have:=hi.2;omega)
theorem in_t2a (h : chkF [g,a,b,c] = 0) (hj : j < (limL g a b c).length) (h1 : ((j : Nat) : Int) = 1) : (decide ((0 : Int) ≠ 0) || decide (sgL [[a.val * g.val],[b.val * c.val,0]] (plusF ((limL g a b c).getD 0 default) (minusF ((limL g a b c).getD j default))) ≥ 0)) = false:=by rw [in_t2 h hj h1];rfl
theorem in_t3 (h : chkF [g,a,b,c] = 0) (hj : j < (limL g a b c).length) : (decide (sgL [[a.val * g.val],[b.val * c.val,0]] (plusF [x] (minusF ((limL g a b c).getD j default))) = 0) && decide (nearF g a b c x ≠ 0) && decide (farF g a b c x ≠ 0) || decide (sgL [[a.val * g.val],[b.val * c.val,0]] (plusF [x] (minusF ((limL g a b c).getD j default))) = 0) && !(decide (nearF g a b c x ≥ 0) && decide (farF g a b c x ≥ 0))) = false:=by
  have hi:=(inside_at (k:=x) h hj).2.2.2.1
  by_cases e : sgL [[a.val * g.val],[b.val * c.val,0]] (plusF [x] (minusF ((limL g a b c).getD j default))) = 0
  · obtain ⟨h1,h2,h3⟩:=hi e
    rw [decide_eq_true e,decide_eq_true h2,decide_eq_true h3]
    rcases h1 with h1 | h1 <;> rw [h1] <;> simp
  · rw [decide_eq_false e];rfl
theorem in_t4 (h : chkF [g,a,b,c] = 0) (hj : j < (limL g a b c).length) : decide (((((limL g a b c).getD j default).length : Nat) : Int) ≠ 4) = false:=by
  have hi:=(inside_at (k:=0) h hj).1
  rw [hi];rfl
theorem in_t5 (h : chkF [g,a,b,c] = 0) (hj : j < (limL g a b c).length) : (decide ((((limL g a b c).getD j default).getD 3 default).num.sign < 0) && decide (sgL [[a.val * g.val],[b.val * c.val,0]] (plusF [x] (minusF ((limL g a b c).getD j default))) < 0) != decide (farF g a b c x < 0) || !decide ((((limL g a b c).getD j default).getD 3 default).num.sign < 0) && decide (sgL [[a.val * g.val],[b.val * c.val,0]] (plusF [x] (minusF ((limL g a b c).getD j default))) > 0) != decide (nearF g a b c x < 0)) = false:=by
  have hi:=inside_at (k:=x) h hj
  by_cases e : (((limL g a b c).getD j default).getD 3 default).num.sign < 0
  · rw [decide_eq_true e,show decide (sgL [[a.val * g.val],[b.val * c.val,0]] (plusF [x] (minusF ((limL g a b c).getD j default))) < 0) = decide (farF g a b c x < 0) from decide_eq_decide.2 (hi.2.2.2.2.1 e)];simp
  · rw [decide_eq_false e,show decide (sgL [[a.val * g.val],[b.val * c.val,0]] (plusF [x] (minusF ((limL g a b c).getD j default))) > 0) = decide (nearF g a b c x < 0) from decide_eq_decide.2 (hi.2.2.2.2.2.1 e)];simp
theorem pw_lim {k : Nat} (hk : 2 ≤ k) (h : chkF [g,a,b,c] = 0) (hj : j < (limL g a b c).length) : PW k ((limL g a b c).getD j default):=pw_l4 hk (inside_at (k:=0) h hj).1
end
theorem shortRotationInsideC {rg ra rb rc : FR} {x : Rat} : Con Try.prog 3 [QUD 64 rg ra rb rc,QC 64 x] ((shortF [rg,ra,rb,rc] && shortF [FR.of x]) = true ∧ chkF [rg,ra,rb,rc] = 0 ∧ gapC rg ra rb rc (FR.of x) = 0) (BT true):=.o2 fun hok h1 h2 hp=>by
  refine St.enter (N:=213) Try.func3 rfl rfl rfl hok (enter2 h1 h2) fun a=>?_
  have e1:=hp.2.1
  have e2:=hp.2.2
  have e3:=shl hp.1
  have e4:=lim_le rg ra rb rc
  repeat' (first | ((with_reducible refine gS_ ?_);first | ((with_reducible refine gL_ ?_);first | refine W.run ?_ fun a w G=>?_ | refine W.mv fun a w G=>?_ | refine W.asg fun a w G=>?_ | refine W.bx fun b a w G=>?_ | (refine W.nn hK ?_;clear hK K) | refine W.nl ?_ | refine W.al fun b a w G=>?_ | refine W.st fun w=>?_ | refine W.stp fun w=>?_ | refine W.ste ?_ fun w=>?_) | ((with_reducible refine gC_ ?_);first | with_reducible refine W.cbf (in_t0a e1) ?_ | with_reducible refine W.cbf (in_t0b e1 e2) ?_ | with_reducible refine W.cbf (in_t1 e1 (show j < (limL rg ra rb rc).length by omega)) ?_ | with_reducible refine W.cbf (in_t3 e1 (show j < (limL rg ra rb rc).length by omega)) ?_ | with_reducible refine W.cbf (in_t5 e1 (show j < (limL rg ra rb rc).length by omega)) ?_ | with_reducible refine W.cbf (in_t4 e1 (show j < (limL rg ra rb rc).length by omega)) ?_ | with_reducible refine W.cbf (in_t2 e1 (show j < (limL rg ra rb rc).length by omega) (by assumption)) ?_ | with_reducible refine W.cbf (in_t2a e1 (show j < (limL rg ra rb rc).length by omega) (by assumption)) ?_ | with_reducible refine W.cbt (by first | (simp [e1,e2,e3];done) | fail) ?_ | with_reducible refine W.cbf (by first | (simp [e1,e2,e3];done) | fail) ?_ | with_reducible refine W.gcc 3 ?_ | with_reducible refine W.gcd 3 ?_ | refine W.reg fun K hK=>?_ | refine W.reg1 ?_ | refine W.sq fun K hK=>?_ | refine W.ds ?_ (fun β a w G hu=>W.fin ?_ hu) mixedOrders (by kernel_rfl) | refine W.sk ?_ | refine W.cd (fun hc=>?_) (fun hc=>?_) | refine W.cb (fun hc=>?_) (fun hc=>?_) | refine W.bl ?_ | refine W.ex ?_ | refine W.rt ?_) | ((with_reducible refine W.kn hK ?_);clear hK K) | with_reducible refine W.bn ?_ | with_reducible refine W.xt ?_ | with_reducible refine W.xb ?_ | with_reducible refine W.xo ?_ | with_reducible refine W.tr ?_ | with_reducible refine W.br ?_ | refine W.rt1 rfl ?_ | refine W.rt2 rfl ?_ ?_ | refine W.rt3 rfl ?_ ?_ ?_) | refine W.lp 104 (α:=Nat) (fun j=>(limL rg ra rb rc).length - j) (fun j=>j ≤ (limL rg ra rb rc).length) [4,14,15,16,17,18,19,20,21,22,23,24,103,104,105,106,107,108,109,110,111,112,113,114,115,116,117,118,119,120,121,122,123,124,125,126,127,128,129,130,131,132,133,134,135,136,137,138,139,140,141,142,143,144,145,146,147,148,149,150,151,152,153,154,155,156,157,158,159,160,161,162,163,164,165,166,167,168,169,170,171,172,173,174,175,176,177,178,179,180,181,182,183,184,185,186,187,188,189,190,191,192,193,194,195,196,197,198,199,200,201,202,203,204,205,206,207,208,209,210,211,212] (fun j=>[(103,NT j)]) (fun j=>[]) (0) ?_ ?_ ?_ fun j hj a w G=>?_ | refine W.ag (x:=j) (j+1) ?_ ?_ ?_ ?_ | clear hK K | clear hu | exact True.intro | exact Nat.le_trans (by clear hp;omega) hp | exact Nat.le_trans (by clear hp;omega) hp.1 | exact Nat.le_trans (by clear hp;omega) hp.2 | (clear hp;omega) | apply And.intro | refine GI.i fun _=>?_ | with_reducible rfl | decide | (simp only [List.length_cons,List.length_nil];omega))
  all_goals first
    | omega
    | (simp only [Bool.and_eq_true] at hp;exact hp.1.1)
    | exact tok2 (pos_nn (chk_pos e1)).1 (pos_nn (chk_pos e1)).2
    | exact pw1
    | (show PW 2 [_];exact pw1)
    | exact pw_lim (Nat.le_refl 2) e1 (by omega)
    | (show PW 2 _;exact pw_lim (Nat.le_refl 2) e1 (by omega))
    | (show sB 2 _ _ ≤ BIG;rw [sB2];omega)
    | (show sB 2 _ _ ≤ BIG;rw [sB2];decide)
    | exact lt3 (inside_at (k:=x) e1 (by omega)).1
    | (show PW 2 _;exact pw_lim (j:=0) (Nat.le_refl 2) e1 (by omega))
    | skip
theorem lawRotationInside {rg ra rb rc rk : FR} {w : World} {G : Gh} {v1 v2 : Value} (hok : Gok w G) (h1 : (PTS [(some 3,RX rg),(some 3,RX ra),(some 3,RX rb),(some 3,RX rc)]).t v1 G) (h2 : (RX rk).t v2 G) : Calls Try.prog 3 #[v1,v2] w (Ret w G (BT true)):=by
  cases hs : (shortF [rg,ra,rb,rc] && shortF [rk]) with
  | true =>
    have hq:=hs
    simp only [shortF,List.all_cons,List.all_nil,Bool.and_true,Bool.and_eq_true] at hq
    have g1:=NS.h (τ':=QUD 64 rg ra rb rc) (by (try simp only [and_true,true_and]);grind) h1
    have g2:=NS.h (τ':=FX 64 rk) (by (try simp only [and_true,true_and]);grind) h2
    cases hk : rk.ok with
    | true =>
      have e : FR.of rk.val = rk:=fr_self (QR.wf (FX.qr g2)) hk
      have hs' : (shortF [rg,ra,rb,rc] && shortF [FR.of rk.val]) = true:=by rw [e];exact hs
      have g3:=QC.of_ok g2 hk
      by_cases c1 : chkF [rg,ra,rb,rc] = 0
      · by_cases c2 : gapC rg ra rb rc (FR.of rk.val) = 0
        · exact shortRotationInsideC.c2 hok g1 g3 ⟨hs',c1,c2⟩
        · exact shortRotationInsideB.c2 hok g1 g3 ⟨hs',c1,c2⟩
      · exact shortRotationInsideA.c2 hok g1 g3 ⟨hs',c1⟩
    | false=>exact badRotationInside.c2 hok g1 g2 ⟨hs,hk⟩
  | false=>exact longRotationInside.c2 hok h1 h2 hs
end Go.Proofs.Ytdbdnabpaadigaa
namespace Go.Proofs.Ytdbdnabpaadigaa
open Go.RowKit (Below)
def G0of (W : World) : Gh:=fun b=>W.heap[b]?
theorem G0of_ok (W : World) : Gok W (G0of W):=fun _ _ h=>h
theorem Gc_G0 {W : World} {b i : Nat} : Gc (G0of W) b i = W.cell? ⟨b,i,none⟩:=by
  unfold Gc G0of World.cell?;cases W.heap[b]? with
  | none=>rfl
  | some o=>cases o <;> rfl
def RdA (P : Program) (W : World) (t : TypeId) (k : Option Nat) (A : MT → Prop) : Prop:=∀ (H : Type) (enc : TypeId × Value → H) (fuel : Nat) (cs : List Value) (x : DataW H × List MemPlace),
  DataW.trod enc P W 0 (fun _=>true) true fuel t cs = some x → (x.1.weights P t).all (· ≤ reachBytes) = true → ∃ (v : Value) (τ : MT),A τ ∧ v.cells.toList = cs ∧ Shaped k v ∧ τ.t v (G0of W)
section
variable {P : Program} {W : World} {t e : TypeId} {k : Option Nat} {A A' : MT → Prop}
theorem RdA.mono (h : RdA P W t k A) (hA : ∀ τ v,A τ → τ.t v (G0of W) → ∃ σ,A' σ ∧ σ.t v (G0of W)) : RdA P W t k A':=fun H enc fuel cs x hx hw=>by
  obtain ⟨v,τ,h1,h2,h3,h4⟩:=h H enc fuel cs x hx hw
  obtain ⟨σ,h5,h6⟩:=hA τ v h1 h4
  exact ⟨v,σ,h5,h2,h3,h6⟩
theorem rd_bool (ht : P.underlying t = some .bool) : RdA P W t none (fun τ=>∃ b,τ = .ex (.bool b)):=fun H enc fuel cs x hx hw=>by
  obtain ⟨b,rfl,rfl⟩:=DataW.trod_bool ht hx
  exact ⟨.bool b,_,⟨b,rfl⟩,rfl,⟨rfl,rfl⟩,rfl⟩
theorem rd_int {kk : IntKind} (ht : P.underlying t = some (.int kk)) : RdA P W t none (fun τ=>∃ z,(Lit.int kk z).wf = true ∧ τ = .ex (.int kk z)):=fun H enc fuel cs x hx hw=>by
  obtain ⟨z,rfl,rfl,h⟩:=DataW.trod_int ht hx
  exact ⟨.int kk z,_,⟨z,h,rfl⟩,rfl,⟨rfl,rfl⟩,rfl⟩
theorem rd_i64 (ht : P.underlying t = some (.int .i64)) : RdA P W t none (fun τ=>∃ z : Int,τ = .ex (.int .i64 z)):=(rd_int ht).mono fun τ v ⟨z,_,e⟩ hv=>⟨τ,⟨z,e⟩,hv⟩
theorem rd_u8 (ht : P.underlying t = some (.int .u8)) : RdA P W t none (fun τ=>∃ z : Fin 256,τ = .ex (.int .u8 ((z.val : Nat) : Int))):=(rd_int ht).mono fun τ v ⟨z,hz,e⟩ hv=>by
  have h0 : (0 : Int) ≤ z:=of_decide_eq_true (Bool.and_eq_true_iff.1 hz).1
  have h1 : z ≤ 255:=of_decide_eq_true (Bool.and_eq_true_iff.1 hz).2
  refine ⟨τ,⟨⟨z.toNat,by omega⟩,?_⟩,hv⟩
  rw [e];show _ = MT.ex (.int .u8 ((z.toNat : Nat) : Int));rw [Int.toNat_of_nonneg h0]
theorem cells_get {a : Addr} {n : Nat} {L : List Value} (h : W.cells? 0 a n = some L) : L.length = n ∧ ∀ j,j < n → W.cell? (a.add j) = L[j]?:=by
  unfold World.cells? at h
  rw [if_pos (Nat.zero_le _)] at h
  exact ⟨by simpa using mapM_some_length h,fun j hj=>mapM_some_get h j j (by simp [hj])⟩
theorem weightsAll_mem {H : Type} {es : List (DataW H)} {d : DataW H} {i : Nat} (hi : es[i]? = some d) : ∀ n ∈ d.weights P e,n ∈ DataW.weightsAll P e es:=by
  induction es generalizing i with
  | nil=>simp at hi
  | cons x r ih =>
    intro n hn
    rw [DataW.weightsAll,List.mem_append]
    cases i with
    | zero=>simp at hi;subst hi;exact .inl hn
    | succ j=>exact .inr (ih (by simpa using hi) n hn)
theorem rd_slice (ht : P.underlying t = some (.slice e)) (hc : P.cellsOf e = k.getD 1) (hc0 : 0 < k.getD 1) (hb : 4 ≤ P.bytesOf e) (h : RdA P W e k A) : RdA P W t none (fun τ=>∃ τs,(∀ σ ∈ τs,A σ) ∧ τ = LS k τs):=fun H enc fuel cs x hx hw=>by
  rcases DataW.trod_slice ht hx with ⟨rfl,rfl⟩ | ⟨a,len,cap,elems,rest,n,rfl,rfl,rfl,hb0,hlc,hcm,hel,hE,_,_⟩
  · exact ⟨.slice none 0 0,LS k [],⟨[],by simp,rfl⟩,rfl,⟨rfl,rfl⟩,LS.nil⟩
  · simp only [DataW.weights,ht,List.all_cons,List.all_append,Bool.and_eq_true,decide_eq_true_eq] at hw
    obtain ⟨hw1,hw2,_⟩:=hw
    have hlim : len ≤ LIM:=by
      have h1 : len * 4 ≤ ((elems.map (·.1)).length + (rest.map (·.1)).length) * P.bytesOf e:=Nat.mul_le_mul (by simp;omega) hb
      have h2 : reachBytes = 140737488351232:=rfl
      simp only [LIM];omega
    have each : ∀ i,∃ (v : Value) (τ : MT),i < len → W.cells? 0 (a.add (i * k.getD 1)) (k.getD 1) = some v.cells.toList ∧ A τ ∧ Shaped k v ∧ τ.t v (G0of W):=fun i=>by
      by_cases hi : i < len
      · have h1:=hE i hi
        rw [List.getElem?_eq_getElem (by omega),Option.bind_eq_some_iff,hc] at h1
        obtain ⟨cs',h2,h3⟩:=h1
        obtain ⟨v,τ,h4,h5,h6,h7⟩:=h H enc n cs' _ h3 (List.all_eq_true.2 fun m hm=>List.all_eq_true.1 hw2 m (weightsAll_mem (i:=i) (by rw [List.getElem?_map,List.getElem?_eq_getElem (by omega)];rfl) m hm))
        exact ⟨v,τ,fun _=>⟨by rw [h5];exact h2,h4,h6,h7⟩⟩
      · exact ⟨undef,.ex undef,fun h=>absurd h hi⟩
    obtain ⟨f,g,hfg⟩ : ∃ (f : Nat → Value) (g : Nat → MT),∀ i,i < len → W.cells? 0 (a.add (i * k.getD 1)) (k.getD 1) = some (f i).cells.toList ∧ A (g i) ∧ Shaped k (f i) ∧ (g i).t (f i) (G0of W):=⟨fun i=>(each i).choose,fun i=>(each i).choose_spec.choose,fun i=>(each i).choose_spec.choose_spec⟩
    refine ⟨.slice (some a) len cap,LS k ((List.range len).map g),⟨_,fun σ hσ=>?_,rfl⟩,rfl,⟨rfl,rfl⟩,LS.of_vals (us:=(List.range len).map f) (A:=some a) (c:=cap) (by simp) (by simpa using hlc) (by simpa using hlim) ⟨by simp,fun i τ u hi hu=>?_⟩ fun i u hu=>?_⟩
    · obtain ⟨i,hi,rfl⟩:=List.mem_map.1 hσ
      exact (hfg i (by simpa using hi)).2.1
    · have hlt : i < len:=by have:=(List.getElem?_eq_some_iff.1 hi).1;simpa using this
      simp [List.getElem?_range hlt] at hi hu
      subst hi;subst hu
      exact (hfg i hlt).2.2
    · have hlt : i < len:=by have:=(List.getElem?_eq_some_iff.1 hu).1;simpa using this
      simp [List.getElem?_range hlt] at hu
      subst hu
      obtain ⟨h1,h2,h3,h4⟩:=hfg i hlt
      obtain ⟨h5,h6⟩:=cells_get h1
      obtain ⟨g5,g6⟩:=cells_get (hfg 0 (by omega)).1
      obtain ⟨b,off,spot⟩:=a
      have h7:=g6 0 hc0
      rw [List.getElem?_eq_getElem (by omega)] at h7
      have hs : spot = none:=by simpa [Addr.add] using World.cell?_spot h7
      subst hs
      refine ⟨b,off,rfl,fun j x hj=>?_⟩
      have hjl : j < k.getD 1:=by have:=(Array.getElem?_eq_some_iff.1 hj).1;rw [← h5,Array.length_toList];exact this
      have h8:=h6 j hjl
      rw [Gc_G0]
      rw [addr_add,addr_add,Array.getElem?_toList,hj] at h8
      exact h8
theorem forall_map {α : Type} {T : α → MT} {τs : List MT} (h : ∀ σ ∈ τs,∃ x,σ = T x) : ∃ xs : List α,τs = xs.map T:=by
  induction τs with
  | nil=>exact ⟨[],rfl⟩
  | cons a r ih =>
    obtain ⟨l,rfl⟩:=ih fun σ h'=>h σ (List.mem_cons_of_mem _ h')
    obtain ⟨x,rfl⟩:=h a (List.mem_cons_self ..)
    exact ⟨x :: l,rfl⟩
theorem forall_map' {α : Type} {T : α → MT} {p : α → Prop} {τs : List MT} (h : ∀ σ ∈ τs,∃ x,p x ∧ σ = T x) : ∃ xs : List α,τs = xs.map T ∧ ∀ x ∈ xs,p x:=by
  induction τs with
  | nil=>exact ⟨[],rfl,by simp⟩
  | cons a r ih =>
    obtain ⟨l,rfl,hl⟩:=ih fun σ h'=>h σ (List.mem_cons_of_mem _ h')
    obtain ⟨x,hx,rfl⟩:=h a (List.mem_cons_self ..)
    exact ⟨x :: l,rfl,by simpa using ⟨hx,hl⟩⟩
theorem rd_words (ht : P.underlying t = some (.slice e)) (hu : P.underlying e = some (.int .u32)) (hc : P.cellsOf e = 1) (hb : 4 ≤ P.bytesOf e) : RdA P W t none (fun τ=>∃ l,τ = SL l):=by
  have h1 : RdA P W e none (fun τ=>∃ x : Nat,x < 4294967296 ∧ τ = .ex (u32 x)):=(rd_int hu).mono fun τ v ⟨z,hz,hτ⟩ hv=>by
    subst hτ
    have hm : IntKind.u32.min = 0:=by decide
    have hM : IntKind.u32.max = 4294967295:=by decide
    simp [Lit.wf,hm,hM] at hz
    exact ⟨_,⟨z.toNat,by omega,rfl⟩,by
      have : (z.toNat : Int) = z:=by omega
      show v = .int .u32 (z.toNat : Int);rw [this];exact hv⟩
  refine (rd_slice (k:=none) ht hc (by decide) hb h1).mono fun τ v ⟨τs,hσ,hτ⟩ hv=>?_
  subst hτ
  obtain ⟨l,hl,hlt⟩:=forall_map' hσ
  subst hl
  obtain ⟨A,c,us,h2,h3,h4,h5,h6⟩:=LS.vals hv
  rw [List.length_map] at h2 h3 h4
  refine ⟨_,⟨l,rfl⟩,A,c,h2,h3,h4,hlt,fun i x hi=>?_⟩
  have hil:=(List.getElem?_eq_some_iff.1 hi).1
  have hul : i < us.length:=by rw [h5.1,List.length_map];exact hil
  have hui : us[i]? = some us[i]:=by rw [List.getElem?_eq_getElem hul]
  have h7:=(h5.2 i (.ex (u32 x)) us[i] (by rw [List.getElem?_map,hi];rfl) hui).2
  obtain ⟨b,off,e1,h8⟩:=h6 i us[i] hui
  refine ⟨b,off,e1,?_⟩
  have h9 : us[i] = u32 x:=h7
  rw [h9] at h8
  simpa using h8 0 (u32 x) rfl
def FldOk (P : Program) (W : World) : Nat → List Field → List (Option Nat × (MT → Prop)) → Prop
  | _,[],[]=>True
  | off,f :: fs,a :: As=>f.offset = off ∧ P.cellsOf f.type = a.1.getD 1 ∧ RdA P W f.type a.1 a.2 ∧ FldOk P W (off + a.1.getD 1) fs As
  | _,_,_=>False
def Mt : List (Option Nat × (MT → Prop)) → List (Option Nat × MT) → Prop
  | [],[]=>True
  | a :: As,f :: F=>f.1 = a.1 ∧ a.2 f.2 ∧ Mt As F
  | _,_=>False
def tot (As : List (Option Nat × (MT → Prop))) : Nat:=(As.map fun a=>a.1.getD 1).sum
theorem Mt.tot : ∀ {As : List (Option Nat × (MT → Prop))} {F : List (Option Nat × MT)},Mt As F → (F.map fun f=>f.1.getD 1).sum = Go.Proofs.Ytdbdnabpaadigaa.tot As
  | [],[],_=>rfl
  | a :: As,f :: F,h=>by
    have:=Mt.tot h.2.2
    simp only [Go.Proofs.Ytdbdnabpaadigaa.tot,List.map_cons,List.sum_cons,h.1] at this ⊢
    rw [this]
  | [],_ :: _,h=>h.elim
  | _ :: _,[],h=>h.elim
theorem rd_fields {H : Type} {enc : TypeId × Value → H} {n : Nat} {cs : List Value} : ∀ (fs : List Field) (As : List (Option Nat × (MT → Prop))) (xs : List (DataW H × List MemPlace)) (off : Nat), FldOk P W off fs As → xs.length = fs.length →
    (∀ (i : Nat) (f : Field),fs[i]? = some f → DataW.trod enc P W 0 (fun _=>true) true n f.type ((cs.drop f.offset).take (P.cellsOf f.type)) = xs[i]?) → (DataW.weightsEach P (fs.map (·.type)) (xs.map (·.1))).all (· ≤ reachBytes) = true → cs.length = off + tot As →
    ∃ us F,Mt As F ∧ flat us = cs.drop off ∧ us.length = F.length ∧ ∀ (i : Nat) (f : Option Nat × MT) (u : Value),F[i]? = some f → us[i]? = some u → Shaped f.1 u ∧ f.2.t u (G0of W)
  | [],[],xs,off,_,_,_,_,hl=>⟨[],[],trivial,by rw [List.drop_eq_nil_of_le (by rw [hl];simp [tot])];rfl,rfl,fun i f u h=>by simp at h⟩
  | f :: fs,a :: As,[],off,_,hx,_,_,_=>by simp at hx
  | f :: fs,a :: As,x :: xs,off,hF,hx,hT,hw,hl=>by
    obtain ⟨h1,h2,h3,h4⟩:=hF
    simp only [List.map_cons,DataW.weightsEach,List.all_append,Bool.and_eq_true] at hw
    obtain ⟨v,τ,h5,h6,h7,h8⟩:=h3 H enc n _ x (hT 0 f rfl) hw.1
    obtain ⟨us,F,g1,g2,g3,g4⟩:=rd_fields fs As xs (off + a.1.getD 1) h4 (by simpa using hx) (fun i g hg=>by simpa using hT (i + 1) g (by simpa using hg)) hw.2 (by rw [hl];simp [tot];omega)
    refine ⟨v :: us,(a.1,τ) :: F,⟨rfl,h5,g1⟩,?_,by simp [g3],fun i f' u hf hu=>?_⟩
    · rw [flat_cons,h6,g2,h1,h2,← List.drop_drop,List.take_append_drop]
    · cases i with
      | zero=>simp at hf hu;subst hf;subst hu;exact ⟨h7,h8⟩
      | succ i=>exact g4 i f' u (by simpa using hf) (by simpa using hu)
  | [],_ :: _,_,_,h,_,_,_,_=>h.elim
  | _ :: _,[],_,_,h,_,_,_,_=>h.elim
theorem rd_struct {fs : Array Field} {As : List (Option Nat × (MT → Prop))} {n : Nat} (ht : P.underlying t = some (.struct fs)) (hn : P.cellsOf t = n) (hnA : tot As = n) (hF : FldOk P W 0 fs.toList As) : RdA P W t (some n) (fun τ=>∃ F,Mt As F ∧ τ = PTS F):=fun H enc fuel cs x hx hw=>by
  obtain ⟨xs,m,rfl,rfl,hl,hxl,hT⟩:=DataW.trod_struct ht hx
  simp only [DataW.weights,ht] at hw
  obtain ⟨us,F,h1,h2,h3,h4⟩:=rd_fields fs.toList As xs 0 hF (by simpa using hxl) (fun i f hf=>hT i f (by simpa using hf)) hw (by omega)
  have hP : (PTS F).t (.agg (flat us).toArray) (G0of W):=⟨us,rfl,h3,h4⟩
  refine ⟨.agg (flat us).toArray,PTS F,⟨F,h1,rfl⟩,by rw [h2];rfl,PTS.shaped (by unfold offs;rw [List.take_length,h1.tot,hnA]) hP,hP⟩
theorem shaped1 {u : Value} (h : Shaped none u) : u.cells = #[u]:=h.1
theorem PTS.toQR {s : Bool} {p q : List Nat} {v : Value} {G : Gh} (h : (PTS [(none,.ex (.bool s)),(none,SL p),(none,SL q)]).t v G) : (QR s p q).t v G:=by
  obtain ⟨us,rfl,hl,h⟩:=h
  match us,hl,h with
  | [u0,u1,u2],_,h =>
    obtain ⟨a0,b0⟩:=h 0 _ u0 rfl rfl
    obtain ⟨a1,b1⟩:=h 1 _ u1 rfl rfl
    obtain ⟨a2,b2⟩:=h 2 _ u2 rfl rfl
    refine ⟨u1,u2,?_,b1,b2⟩
    have e0 : u0 = .bool s:=b0
    simp only [flat,List.flatMap_cons,List.flatMap_nil,shaped1 a0,shaped1 a1,shaped1 a2]
    rw [e0];rfl
theorem rd_frac {fs : Array Field} {f0 f1 f2 : Field} {tw : TypeId} (ht : P.underlying t = some (.struct fs)) (hf : fs.toList = [f0, f1, f2]) (hn : P.cellsOf t = 3) (h0 : f0.offset = 0 ∧ P.cellsOf f0.type = 1 ∧ P.underlying f0.type = some .bool) (h1 : f1.offset = 1 ∧ f1.type = tw) (h2 : f2.offset = 2 ∧ f2.type = tw)
    (hw : P.underlying tw = some (.slice e) ∧ P.cellsOf tw = 1) (he : P.underlying e = some (.int .u32) ∧ P.cellsOf e = 1 ∧ 4 ≤ P.bytesOf e) : RdA P W t (some 3) (fun τ=>∃ r : FR,τ = QR r.s r.p r.q):=by
  have hW : RdA P W tw none (fun τ=>∃ l,τ = SL l):=rd_words hw.1 he.1 he.2.1 he.2.2
  refine (rd_struct (As:=[(none,fun τ=>∃ b,τ = .ex (.bool b)),(none,fun τ=>∃ l,τ = SL l),(none,fun τ=>∃ l,τ = SL l)]) ht hn rfl (by
    rw [hf];exact ⟨h0.1,h0.2.1,rd_bool h0.2.2,h1.1,by rw [h1.2];exact hw.2,by rw [h1.2];exact hW,h2.1,by rw [h2.2];exact hw.2,by rw [h2.2];exact hW,trivial⟩)).mono fun τ v ⟨F,hM,hτ⟩ hv=>?_
  subst hτ
  match F,hM with
  | [a,b,c],⟨a1,⟨s,a2⟩,b1,⟨p,b2⟩,c1,⟨q,c2⟩,_⟩ =>
    obtain ⟨a0,a'⟩:=a;obtain ⟨b0,b'⟩:=b;obtain ⟨c0,c'⟩:=c
    simp only at a1 a2 b1 b2 c1 c2
    subst a1;subst a2;subst b1;subst b2;subst c1;subst c2
    exact ⟨_,⟨⟨s,p,q⟩,rfl⟩,PTS.toQR hv⟩
theorem rd_list {α : Type} {T : α → MT} (ht : P.underlying t = some (.slice e)) (hc : P.cellsOf e = k.getD 1) (hc0 : 0 < k.getD 1) (hb : 4 ≤ P.bytesOf e) (h : RdA P W e k (fun τ=>∃ x,τ = T x)) : RdA P W t none (fun τ=>∃ xs : List α,τ = LS k (xs.map T)) :=
  (rd_slice ht hc hc0 hb h).mono fun τ v ⟨τs,hσ,hτ⟩ hv=>by
    obtain ⟨xs,rfl⟩:=forall_map hσ
    subst hτ
    exact ⟨_,⟨xs,rfl⟩,hv⟩
theorem rd_arg {H : Type} {enc : TypeId × Value → H} {v : Value} {d : DataW H} {ps : List MemPlace} (h : RdA P W t k A) (hd : DataW.Trod enc P W 0 (fun _ => true) true t v d ps) (hw : (d.weights P t).all (· ≤ reachBytes) = true)
    (hv : match k with | none=>v.cells = #[v] | some _=>∃ cs,v = .agg cs) : ∃ τ,A τ ∧ Shaped k v ∧ τ.t v (G0of W):=by
  obtain ⟨fuel,hf⟩:=hd
  obtain ⟨u,τ,h1,h2,h3,h4⟩:=h H enc fuel _ _ hf hw
  have : u = v:=by
    cases k with
    | none =>
      have h5 : u.cells = #[u]:=h3.1
      rw [h5,hv] at h2
      simpa using h2
    | some n =>
      obtain ⟨cs,rfl⟩:=hv
      obtain ⟨cs',rfl,_⟩:=h3
      have : cs'.toList = cs.toList:=h2
      rw [Array.toList_inj.1 this]
  subst this
  exact ⟨τ,h1,h3,h4⟩
end
end Go.Proofs.Ytdbdnabpaadigaa
