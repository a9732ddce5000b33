import Derived.ChangeArms
import Derived.SizedLaws
import Derived.WideShapes
import Derived.Test.YtnjbcjmkkejfpaaGreatDoorQDi
set_option linter.unusedVariables false
set_option linter.unusedSimpArgs false
set_option linter.unusedVariables false
set_option linter.unusedSimpArgs false
set_option maxHeartbeats 4000000
set_option maxRecDepth 100000
set_option synthInstance.maxSize 100000
set_option synthInstance.maxHeartbeats 400000
namespace Go.Proofs.YtnjbcjmkkejfpaaGreatDoor
open Go.RowKit (Below)
attribute [local irreducible] Go.Code.wp Go.wpList Go.bodyPost
private theorem gS_ {W0 : World} {G0 : Gh} {N : Nat} {L : List (Nat × MT)} {B : List BX} {a : Act} {w : World} {G : Gh} {q : Prop} (h : St W0 G0 N L B a w G → q) : St W0 G0 N L B a w G → q:=h
private theorem gL_ {p : Prop} {P : Program} {arr : Array Oper} {Q : Exit → Act → World → Prop} {l : List Oper} {a : Act} {w : World} (h : p → wpList P arr Q l a w) : p → wpList P arr Q l a w:=h
private theorem gC_ {p : Prop} {P : Program} {c : Code} {Q : Exit → Act → World → Prop} {a : Act} {w : World} (h : p → c.wp P Q a w) : p → c.wp P Q a w:=h
private theorem mixedOrders : Tryz.prog.follows .mixedOrders = true:=by kernel_rfl
section
variable {x y W v B C X s : Rat}
theorem sq2 {a b p q : Rat} {r : RR} : (RR.of a + RR.of p * r) * (RR.of a + RR.of p * r) + (RR.of b + RR.of q * r) * (RR.of b + RR.of q * r) = RR.of (a * a + b * b) + RR.of (2 * (a * p + b * q)) * r + RR.of (p * p + q * q) * (r * r):=by
  obtain ⟨f,hf,rfl⟩:=RR.rep r
  exact RR.ext fun n=>by grind
theorem cr2 {x y a b p q : Rat} {r : RR} : RR.of x * (RR.of b + RR.of q * r) + -(RR.of y * (RR.of a + RR.of p * r)) = RR.of (x * b - y * a) + RR.of (x * q - y * p) * r:=by
  obtain ⟨f,hf,rfl⟩:=RR.rep r
  exact RR.ext fun n=>by grind
theorem circ_1 (hW : W = x * x + y * y) (hv : 2 * W * v = 1) (hX : X = 4 * (B * C) - (B + C - W) * (B + C - W)) (hs : s * s * X = X) :
    ((W + B - C) * v * x) * ((W + B - C) * v * x) + ((W + B - C) * v * y) * ((W + B - C) * v * y) + ((s * -(v * y)) * (s * -(v * y)) + (s * (v * x)) * (s * (v * x))) * X = B:=by
  have e1 : ((W + B - C) * v * x) * ((W + B - C) * v * x) + ((W + B - C) * v * y) * ((W + B - C) * v * y) = (W + B - C) * (W + B - C) * (v * v) * W:=by rw [hW];grind
  have e2 : ((s * -(v * y)) * (s * -(v * y)) + (s * (v * x)) * (s * (v * x))) * X = (s * s * X) * (v * v) * (x * x + y * y):=by grind
  rw [e1,e2,hs,← hW]
  have e3 : (W + B - C) * (W + B - C) * (v * v) * W + X * (v * v) * W = ((W + B - C) * (W + B - C) + X) * (v * v) * W:=by grind
  have e4 : (W + B - C) * (W + B - C) + X = 4 * B * W:=by rw [hX];grind
  rw [e3,e4]
  have e5 : 4 * B * W * (v * v) * W = B * (2 * W * v) * (2 * W * v):=by grind
  rw [e5,hv];grind
theorem circ_2 (hW : W = x * x + y * y) (hv : 2 * W * v = 1) (hX : X = 4 * (B * C) - (B + C - W) * (B + C - W)) (hs : s * s * X = X) :
    ((W + B - C) * v * x - x) * ((W + B - C) * v * x - x) + ((W + B - C) * v * y - y) * ((W + B - C) * v * y - y) + ((s * -(v * y)) * (s * -(v * y)) + (s * (v * x)) * (s * (v * x))) * X = C:=by
  have h:=circ_1 hW hv hX hs
  have e1 : ((W + B - C) * v * x - x) * ((W + B - C) * v * x - x) + ((W + B - C) * v * y - y) * ((W + B - C) * v * y - y) = ((W + B - C) * v * x) * ((W + B - C) * v * x) + ((W + B - C) * v * y) * ((W + B - C) * v * y) - 2 * ((W + B - C) * v) * (x * x + y * y) + (x * x + y * y):=by grind
  rw [e1,← hW]
  have e2 : 2 * ((W + B - C) * v) * W = (W + B - C) * (2 * W * v):=by grind
  rw [e2,hv]
  generalize ((W + B - C) * v * x) * ((W + B - C) * v * x) + ((W + B - C) * v * y) * ((W + B - C) * v * y) = A at *
  generalize ((s * -(v * y)) * (s * -(v * y)) + (s * (v * x)) * (s * (v * x))) * X = A2 at *
  grind
end
section
variable {g a b c : FR} {h : Bool} {t : Rat}
theorem ou_val {j : Nat} (hj : j < (ouL g a b c h t).length) : ∃ s : Int, ((ouL g a b c h t).getD j default).1 = s ∧ (s : Rat) * s * dsc g a b c h t = dsc g a b c h t ∧ (s = 0 ∨ s = 1 ∨ s = -1) ∧ w2F g a h t ≠ 0 ∧ 0 ≤ dsc g a b c h t ∧ (s ≠ 0 → 0 < dsc g a b c h t) ∧
    vlL (ouR g a b c h t) ((ouL g a b c h t).getD j default).2.1 = RR.of (ouX g a b c h t) + RR.of ((s : Rat) * ouMX g a h t) * rt (dsc g a b c h t) ∧
    vlL (ouR g a b c h t) ((ouL g a b c h t).getD j default).2.2 = RR.of (ouY g a b c h t) + RR.of ((s : Rat) * ouMY g a h t) * rt (dsc g a b c h t):=by
  rcases ou_cases g a b c h t with ⟨_,e,e2⟩ | ⟨_,k,k2,e,e2⟩ | ⟨_,k,k2,e,e2⟩ <;> rw [e2] at hj <;> rw [e,e2]
  · exact absurd hj (Nat.not_lt_zero _)
  · match j,hj with
    | 0,_ =>
      refine ⟨0,rfl,by rw [k];grind,.inl rfl,k2,by rw [k];decide,fun e=>absurd rfl e,?_,?_⟩
      · show vlL [] [ouX g a b c h t] = _
        rw [vlc,show ((0 : Int) : Rat) * ouMX g a h t = 0 by grind,show RR.of 0 = (0 : RR) from rfl,RR.zero_mul,RR.add_zero]
      · show vlL [] [ouY g a b c h t] = _
        rw [vlc,show ((0 : Int) : Rat) * ouMY g a h t = 0 by grind,show RR.of 0 = (0 : RR) from rfl,RR.zero_mul,RR.add_zero]
  · match j,hj with
    | 0,_ =>
      refine ⟨1,rfl,by grind,.inr (.inl rfl),k2,Rat.le_of_lt k,fun _=>k,?_,?_⟩
      · show vlL _ [ouX g a b c h t,ouMX g a h t] = _
        rw [vl1,show ((1 : Int) : Rat) * ouMX g a h t = ouMX g a h t by grind]
      · show vlL _ [ouY g a b c h t,ouMY g a h t] = _
        rw [vl1,show ((1 : Int) : Rat) * ouMY g a h t = ouMY g a h t by grind]
    | 1,_ =>
      refine ⟨-1,rfl,by grind,.inr (.inr rfl),k2,Rat.le_of_lt k,fun _=>k,?_,?_⟩
      · show vlL _ [ouX g a b c h t,-ouMX g a h t] = _
        rw [vl1,show ((-1 : Int) : Rat) * ouMX g a h t = -ouMX g a h t by grind]
      · show vlL _ [ouY g a b c h t,-ouMY g a h t] = _
        rw [vl1,show ((-1 : Int) : Rat) * ouMY g a h t = -ouMY g a h t by grind]
theorem ou_v (k : w2F g a h t ≠ 0) : ∃ v : Rat,0 < v ∧ 2 * w2F g a h t * v = 1 ∧ ouK g a b c h t = (w2F g a h t + b.val - c.val) * v ∧ ouMX g a h t = -(v * wayY a.val h t) ∧ ouMY g a h t = v * wayX g.val a.val h t:=by
  have hi:=Rat.mul_inv_cancel (2 * w2F g a h t) (two_ne k)
  have hp : 0 < 2 * w2F g a h t:=by
    have h1:=sq_nn (wayX g.val a.val h t);have h2:=sq_nn (wayY a.val h t)
    have : 0 ≤ w2F g a h t:=by unfold w2F d2F;grind
    grind
  refine ⟨(2 * w2F g a h t)⁻¹,?_,hi,by unfold ouK;rw [Rat.div_def],by unfold ouMX;rw [Rat.div_def,Rat.one_mul],by unfold ouMY;rw [Rat.div_def,Rat.one_mul]⟩
  apply Classical.byContradiction
  intro e
  have h3:=Rat.mul_nonneg (Rat.le_of_lt hp) (show 0 ≤ -(2 * w2F g a h t)⁻¹ by grind)
  rw [Rat.mul_neg,hi] at h3
  exact absurd h3 (by decide)
theorem ou_dist {j : Nat} (hj : j < (ouL g a b c h t).length) {p q : RR} (hp : p = vlL (ouR g a b c h t) ((ouL g a b c h t).getD j default).2.1) (hq : q = vlL (ouR g a b c h t) ((ouL g a b c h t).getD j default).2.2) :
    (p + -RR.of (a.val * dirC h t)) * (p + -RR.of (a.val * dirC h t)) + (q + -RR.of (a.val * dirS h t)) * (q + -RR.of (a.val * dirS h t)) = RR.of b.val ∧
    (p + -RR.of g.val) * (p + -RR.of g.val) + q * q = RR.of c.val ∧
    sgR ((RR.of g.val + -RR.of (a.val * dirC h t)) * (q + -RR.of (a.val * dirS h t)) + -((-RR.of (a.val * dirS h t)) * (p + -RR.of (a.val * dirC h t)))) = ((ouL g a b c h t).getD j default).1:=by
  obtain ⟨s,hm,hs,h3,k,hd,hd2,e1,e2⟩:=ou_val hj
  obtain ⟨v,hv0,hv,eK,eX,eY⟩:=ou_v (b:=b) (c:=c) k
  have hr : rt (dsc g a b c h t) * rt (dsc g a b c h t) = RR.of (dsc g a b c h t):=rt_sq hd
  have hrs : s ≠ 0 → 0 < rt (dsc g a b c h t):=fun e=>rt_pos (hd2 e)
  rw [e1] at hp
  rw [e2] at hq
  rw [hm]
  unfold ouX at hp
  unfold ouY at hq
  rw [eK,eX] at hp
  rw [eK,eY] at hq
  have hW : w2F g a h t = wayX g.val a.val h t * wayX g.val a.val h t + wayY a.val h t * wayY a.val h t:=rfl
  have hX : dsc g a b c h t = 4 * (b.val * c.val) - (b.val + c.val - w2F g a h t) * (b.val + c.val - w2F g a h t):=rfl
  have hx : wayX g.val a.val h t = g.val - a.val * dirC h t:=rfl
  have hy : wayY a.val h t = -(a.val * dirS h t):=rfl
  generalize rt (dsc g a b c h t) = r at *
  generalize dsc g a b c h t = X at *
  generalize w2F g a h t = W at *
  generalize wayX g.val a.val h t = x at *
  generalize wayY a.val h t = y at *
  generalize a.val * dirC h t = dx at *
  generalize a.val * dirS h t = dy at *
  have c1:=circ_1 hW hv hX hs
  have c2:=circ_2 hW hv hX hs
  subst hp hq
  refine ⟨?_,?_,?_⟩
  · have q1 : RR.of (dx + (W + b.val - c.val) * v * x) + RR.of (↑s * -(v * y)) * r + -RR.of dx = RR.of ((W + b.val - c.val) * v * x) + RR.of (↑s * -(v * y)) * r := by
      obtain ⟨f,hf,rfl⟩:=RR.rep r
      exact RR.ext fun n=>by grind
    have q2 : RR.of (dy + (W + b.val - c.val) * v * y) + RR.of (↑s * (v * x)) * r + -RR.of dy = RR.of ((W + b.val - c.val) * v * y) + RR.of (↑s * (v * x)) * r:=by
      obtain ⟨f,hf,rfl⟩:=RR.rep r
      exact RR.ext fun n=>by grind
    rw [q1,q2,sq2,hr,show (W + b.val - c.val) * v * x * (↑s * -(v * y)) + (W + b.val - c.val) * v * y * (↑s * (v * x)) = 0 by grind,show (2 : Rat) * 0 = 0 by grind,show RR.of 0 = (0 : RR) from rfl,RR.zero_mul,RR.add_zero,← RR.of_mul,← RR.of_add,c1]
  · have q1 : RR.of (dx + (W + b.val - c.val) * v * x) + RR.of (↑s * -(v * y)) * r + -RR.of g.val = RR.of ((W + b.val - c.val) * v * x - x) + RR.of (↑s * -(v * y)) * r := by
      obtain ⟨f,hf,rfl⟩:=RR.rep r
      exact RR.ext fun n=>by grind
    have q2 : RR.of (dy + (W + b.val - c.val) * v * y) + RR.of (↑s * (v * x)) * r = RR.of ((W + b.val - c.val) * v * y - y) + RR.of (↑s * (v * x)) * r:=by
      obtain ⟨f,hf,rfl⟩:=RR.rep r
      exact RR.ext fun n=>by grind
    rw [q1,q2,sq2,hr,show ((W + b.val - c.val) * v * x - x) * (↑s * -(v * y)) + ((W + b.val - c.val) * v * y - y) * (↑s * (v * x)) = 0 by grind,show (2 : Rat) * 0 = 0 by grind,show RR.of 0 = (0 : RR) from rfl,RR.zero_mul,RR.add_zero,← RR.of_mul,← RR.of_add,c2]
  · have q1 : RR.of (dx + (W + b.val - c.val) * v * x) + RR.of (↑s * -(v * y)) * r + -RR.of dx = RR.of ((W + b.val - c.val) * v * x) + RR.of (↑s * -(v * y)) * r := by
      obtain ⟨f,hf,rfl⟩:=RR.rep r
      exact RR.ext fun n=>by grind
    have q2 : RR.of (dy + (W + b.val - c.val) * v * y) + RR.of (↑s * (v * x)) * r + -RR.of dy = RR.of ((W + b.val - c.val) * v * y) + RR.of (↑s * (v * x)) * r:=by
      obtain ⟨f,hf,rfl⟩:=RR.rep r
      exact RR.ext fun n=>by grind
    have q3 : RR.of g.val + -RR.of dx = RR.of x:=by rw [hx];exact RR.ext fun n=>by grind
    have q4 : -RR.of dy = RR.of y:=by rw [hy];exact RR.ext fun n=>by grind
    rw [q1,q2,q3,q4,cr2,show x * ((W + b.val - c.val) * v * y) - y * ((W + b.val - c.val) * v * x) = 0 by grind,show RR.of 0 = (0 : RR) from rfl,RR.zero_add]
    have q5 : x * (↑s * (v * x)) - y * (↑s * -(v * y)) = ↑s * (1 / 2):=by
      have : x * (↑s * (v * x)) - y * (↑s * -(v * y)) = ↑s * (2 * (x * x + y * y) * v) * (1 / 2):=by grind
      rw [this,← hW,hv];grind
    rw [q5]
    rcases h3 with rfl | rfl | rfl
    · rw [show ((0 : Int) : Rat) * (1 / 2) = 0 by grind,show RR.of 0 = (0 : RR) from rfl,RR.zero_mul];exact sgR_zero
    · have:=RR.mul_pos (show 0 < RR.of (((1 : Int) : Rat) * (1 / 2)) from RR.of_lt (p:=0) |>.2 (by grind)) (hrs (by decide))
      exact sgR_pos this
    · have:=RR.mul_pos (show 0 < RR.of (1 / 2) from RR.of_lt (p:=0) |>.2 (by grind)) (hrs (by decide))
      have e9 : RR.of (((-1 : Int) : Rat) * (1 / 2)) * r = -(RR.of (1 / 2) * r):=by
        obtain ⟨f,hf,rfl⟩:=RR.rep r
        exact RR.ext fun n=>by grind
      rw [e9,sgR_negate,sgR_pos this]
end
section
variable {g a b c : FR} {h : Bool} {t : Rat}
theorem of_pw0 {K : Nat} {x : Rat} (hK : K ≤ 5) : PW K (shoF [x]):=sho_pw hK pw1k
theorem of_v0 {R : List (List Rat)} {x : Rat} : vlL R (shoF [x]) = RR.of x:=by
  rw [vlL_sho (k:=0) (by decide) (.inr ⟨0,Nat.le_refl _,rfl⟩)];exact vlc
theorem les_v {R : List (List Rat)} (hT : TOK R) {p q : List Rat × List Rat} (hp : PWp R.length p) (hq : PWp R.length q) : vlL R (lesF p q).1 = vlL R p.1 + -vlL R q.1 ∧ vlL R (lesF p q).2 = vlL R p.2 + -vlL R q.2:=by
  have h5:=hT.rl.2
  unfold PWp at hp hq
  unfold lesF
  exact ⟨by rw [vlL_sho h5 (hp.1.plus hq.1.minus),vlL_plus,vlL_minus],by rw [vlL_sho h5 (hp.2.plus hq.2.minus),vlL_plus,vlL_minus]⟩
theorem dot_v {R : List (List Rat)} (hT : TOK R) {p q : List Rat × List Rat} (hp : PWp R.length p) (hq : PWp R.length q) : vlL R (dotF R p q) = vlL R p.1 * vlL R q.1 + vlL R p.2 * vlL R q.2:=by
  have h5:=hT.rl
  have hd:=PWp.dot hT hp hq
  unfold PWp at hp hq
  unfold dotF
  rw [vlL_sho h5.2 (hd.1.plus hd.2.1),vlL_plus,vlL_sho h5.2 (PW.tm h5.1 (Nat.le_refl _) hp.1 hq.1),vlL_sho h5.2 (PW.tm h5.1 (Nat.le_refl _) hp.2 hq.2),vlL_tm hT hp.1 hq.1,vlL_tm hT hp.2 hq.2]
theorem cro_v {R : List (List Rat)} (hT : TOK R) {p q : List Rat × List Rat} (hp : PWp R.length p) (hq : PWp R.length q) : vlL R (croF R p q) = vlL R p.1 * vlL R q.2 + -(vlL R p.2 * vlL R q.1):=by
  have h5:=hT.rl
  have hd:=PWp.cro hT hp hq
  unfold PWp at hp hq
  unfold croF
  rw [vlL_sho h5.2 (hd.1.plus hd.2.1.minus),vlL_plus,vlL_minus,vlL_sho h5.2 (PW.tm h5.1 (Nat.le_refl _) hp.1 hq.2),vlL_sho h5.2 (PW.tm h5.1 (Nat.le_refl _) hp.2 hq.1),vlL_tm hT hp.1 hq.2,vlL_tm hT hp.2 hq.1]
def ptF (x y : Rat) : List Rat × List Rat:=(shoF [x],shoF [y])
theorem pt_pw {K : Nat} (hK : K ≤ 5) {x y : Rat} : PWp K (ptF x y):=⟨of_pw0 hK,of_pw0 hK⟩
theorem end_pw {j : Nat} (hj : j < (ouL g a b c h t).length) : PWp (ouR g a b c h t).length ((ouL g a b c h t).getD j default).2:=ou_pw hj
theorem di_1 {j : Nat} (hj : j < (ouL g a b c h t).length) : sgL (ouR g a b c h t) (plusF (dotF (ouR g a b c h t) (lesF ((ouL g a b c h t).getD j default).2 (ptF (a.val * dirC h t) (a.val * dirS h t))) (lesF ((ouL g a b c h t).getD j default).2 (ptF (a.val * dirC h t) (a.val * dirS h t)))) (minusF [b.val])) = 0:=by
  have hT:=ou_tok g a b c h t
  have e1:=end_pw hj
  have e2 : PWp (ouR g a b c h t).length (ptF (a.val * dirC h t) (a.val * dirS h t)):=pt_pw hT.rl.2
  have e3:=PWp.les hT e1 e2
  have e4:=les_v hT e1 e2
  have e5:=(ou_dist hj rfl rfl).1
  unfold sgL
  rw [vlL_plus,vlL_minus,dot_v hT e3 e3,e4.1,e4.2,vlc]
  unfold ptF
  simp only [of_v0]
  rw [e5,RR.add_neg];exact sgR_zero
theorem di_2 {j : Nat} (hj : j < (ouL g a b c h t).length) : sgL (ouR g a b c h t) (plusF (dotF (ouR g a b c h t) (lesF ((ouL g a b c h t).getD j default).2 (ptF g.val 0)) (lesF ((ouL g a b c h t).getD j default).2 (ptF g.val 0))) (minusF [c.val])) = 0:=by
  have hT:=ou_tok g a b c h t
  have e1:=end_pw hj
  have e2 : PWp (ouR g a b c h t).length (ptF g.val 0):=pt_pw hT.rl.2
  have e3:=PWp.les hT e1 e2
  have e4:=les_v hT e1 e2
  have e5:=(ou_dist hj rfl rfl).2.1
  unfold sgL
  rw [vlL_plus,vlL_minus,dot_v hT e3 e3,e4.1,e4.2,vlc]
  unfold ptF
  simp only [of_v0]
  rw [show -RR.of (0 : Rat) = (0 : RR) from RR.ext fun n=>by grind,RR.add_zero,e5,RR.add_neg];exact sgR_zero
theorem di_3 {j : Nat} (hj : j < (ouL g a b c h t).length) : sgL (ouR g a b c h t) (croF (ouR g a b c h t) (lesF (ptF g.val 0) (ptF (a.val * dirC h t) (a.val * dirS h t))) (lesF ((ouL g a b c h t).getD j default).2 (ptF (a.val * dirC h t) (a.val * dirS h t)))) = ((ouL g a b c h t).getD j default).1:=by
  have hT:=ou_tok g a b c h t
  have e1:=end_pw hj
  have e2 : PWp (ouR g a b c h t).length (ptF (a.val * dirC h t) (a.val * dirS h t)):=pt_pw hT.rl.2
  have e2' : PWp (ouR g a b c h t).length (ptF g.val 0):=pt_pw hT.rl.2
  have e3:=PWp.les hT e1 e2
  have e3':=PWp.les hT e2' e2
  have e4:=les_v hT e1 e2
  have e4':=les_v hT e2' e2
  have e5:=(ou_dist hj rfl rfl).2.2
  unfold sgL
  rw [cro_v hT e3' e3,e4.1,e4.2,e4'.1,e4'.2]
  unfold ptF
  simp only [of_v0]
  rw [show RR.of (0 : Rat) = (0 : RR) from rfl,RR.zero_add,e5]
end
theorem FX.qc0 {n : Nat} {z : Rat} {v : Value} {G : Gh} (h : (FX n (FR.of z)).t v G) : (QC n z).t v G:=by
  obtain ⟨h1,h2,h5,hq⟩:=h
  refine ⟨⟨by have : Go.Proofs.YtnjbcjmkkejfpaaGreatDoor.val (words z.num.natAbs) < 2 ^ n := h2
              rwa [val_words] at this,?_⟩,hq⟩
  have hq : Go.Proofs.YtnjbcjmkkejfpaaGreatDoor.val (dwords z) < 2 ^ n:=h5
  unfold dwords at hq
  split at hq
  · rename_i e0
    have : z.den = 1:=by
      have h0 : z = 0:=by first | exact e0 | exact Rat.num_eq_zero.1 e0
      rw [h0];rfl
    rw [this];exact Nat.lt_of_lt_of_le (show (1 : Nat) < 2 ^ 1 by decide) (Nat.pow_le_pow_right (by decide) h1)
  · rwa [val_words] at hq
instance {n m : Nat} {z : Rat} : Fit (FX n (FR.of z)) (QC m) z (n ≤ m):=⟨fun e _ _ h=>QC.up (FX.qc0 h) e⟩
instance {n : Nat} {z : Rat} : Rdn (FX n (FR.of z)) QC n z:=⟨fun h=>FX.qc0 h⟩
section
variable {g a b c : FR} {h : Bool} {t : Rat}
theorem di_1x {x : Rat} {j : Nat} (hj : j < (ouL g a b c h t).length) (hb : b.val = x) : sgL (ouR g a b c h t) (plusF (dotF (ouR g a b c h t) (lesF ((ouL g a b c h t).getD j default).2 (ptF (a.val * dirC h t) (a.val * dirS h t))) (lesF ((ouL g a b c h t).getD j default).2 (ptF (a.val * dirC h t) (a.val * dirS h t)))) (minusF [x])) = 0:=hb ▸ di_1 hj
theorem di_2x {x z : Rat} {j : Nat} (hj : j < (ouL g a b c h t).length) (hc : c.val = x) (hz : z = 0) : sgL (ouR g a b c h t) (plusF (dotF (ouR g a b c h t) (lesF ((ouL g a b c h t).getD j default).2 (ptF g.val z)) (lesF ((ouL g a b c h t).getD j default).2 (ptF g.val z))) (minusF [x])) = 0:=by subst hz;exact hc ▸ di_2 hj
theorem di_3x {z : Rat} {j : Nat} (hj : j < (ouL g a b c h t).length) (hz : z = 0) : sgL (ouR g a b c h t) (croF (ouR g a b c h t) (lesF (ptF g.val z) (ptF (a.val * dirC h t) (a.val * dirS h t))) (lesF ((ouL g a b c h t).getD j default).2 (ptF (a.val * dirC h t) (a.val * dirS h t)))) = ((ouL g a b c h t).getD j default).1:=by subst hz;exact di_3 hj
theorem ou_m2 {j : Nat} (hj : j < (ouL g a b c h t).length) (h2 : (((ouL g a b c h t).length : Nat) : Int) = 2) : ((ouL g a b c h t).getD j default).1 = 1 - 2 * (j : Int):=by
  rcases ou_cases g a b c h t with ⟨_,_,e⟩ | ⟨_,_,_,_,e⟩ | ⟨_,_,_,_,e⟩ <;> rw [e] at hj h2 ⊢
  · exact absurd hj (Nat.not_lt_zero _)
  · simp at h2
  · match j,hj with
    | 0,_=>rfl
    | 1,_=>rfl
theorem di_all {A B C m L : Int} {q : Int} (hA : A = 0) (hB : B = 0) (hC : C = m) (hL : L = 2 → m = q) : (((((decide ((0 : Int) ≠ 0) || decide ((0 : Int) ≠ 0)) || decide (A ≠ 0)) || decide (B ≠ 0)) || decide (C ≠ m)) || (decide (L = 2) && decide (m ≠ q))) = false:=by
  subst hA hB hC
  by_cases h : L = 2
  · rw [hL h];simp
  · simp [h]
theorem ou_r8 (h0 : ouE g a b c h t = 0) : ((((decide ((0 : Int) ≠ 0) || decide ((0 : Int) ≠ 0)) || decide ((((ouL g a b c h t).length : Nat) : Int) = 0)) || decide ((((ouL g a b c h t).length : Nat) : Int) > 2)) || (decide ((dsc g a b c h t).num.sign = 0) != decide ((((ouL g a b c h t).length : Nat) : Int) = 1))) = false:=by
  rcases ou_cases g a b c h t with ⟨k,_,e⟩ | ⟨_,k,_,_,e⟩ | ⟨_,k,_,_,e⟩
  · exact absurd h0 k
  · rw [e,k];rfl
  · rw [e,decide_eq_false (show ¬ (dsc g a b c h t).num.sign = 0 from fun e=>by rw [sg0.1 e] at k;exact absurd k (by grind))];rfl
end
end Go.Proofs.YtnjbcjmkkejfpaaGreatDoor
set_option linter.unusedVariables false
set_option linter.unusedSimpArgs false
set_option maxHeartbeats 4000000
set_option maxRecDepth 100000
set_option synthInstance.maxSize 100000
set_option synthInstance.maxHeartbeats 400000
namespace Go.Proofs.YtnjbcjmkkejfpaaGreatDoor
open Go.RowKit (Below)
attribute [local irreducible] Go.Code.wp Go.wpList Go.bodyPost
attribute [local irreducible] plusF minusF joinF levI lev PW RLN tB sB timesF stepF tmF normF shoF TOK sgL barC trnC btC dirC dirS dsc ouE ouR ouL ouX ouY ouMX ouMY oaE oaR oaL okV quF poL poP hoB hoC dotF croF lesF PWp
instance gTO9_8_2 : GcT 8 2 false 2 [3,4,26,27,28,29,30,31,32,33,34,35,36,37,38,39,40,41,42,43,44,45,46,47]:=⟨⟩
instance gTO9_8_3 : GcT 8 3 false 4 [26,27,28,29,30,31,32,33,34,35,36,37,38,39,40,41,42,43,44,45,46,47]:=⟨⟩
instance gTO9_8_4 : GcT 8 4 false 49 [50,51,52,53,54,55]:=⟨⟩
instance gTO9_8_5 : GcT 8 5 false 2 [3,5,7,56,57]:=⟨⟩
instance gTO9_8_7 : GcT 8 7 false 7 [56,57,61,62,63,64,65,66]:=⟨⟩
instance gTO9_8_8 : GcT 8 8 false 3 [67,68,69,70,71,72]:=⟨⟩
instance gTO9_8_9 : GcT 8 9 false 2 [5,6,8,9,10,11,73,74,75,76,77,78,79,80,81,82,83,84,85,86,87,88,89,90,91,92,93,94,95,96,97]:=⟨⟩
instance gTO9_8_10 : GcT 8 10 false 9 [10,11,73,74,75,76,77,78,79,80,81,82,83,84,85,86,87,88,89,90,91,92,93,94,95,96,97]:=⟨⟩
instance gTO9_8_11 : GcT 8 11 false 8 [98,99,100,101,102]:=⟨⟩
instance gTO9_8_16 : GcT 8 16 false 110 [111,112,113,114,115,116,117,118,119,120,121]:=⟨⟩
instance gTO9_8_17 : GcT 8 17 false 122 [123,124,125,126,127,128,129]:=⟨⟩
instance gTO9_8_18 : GcT 8 18 false 130 [131,132,133,134,135,136,137,138]:=⟨⟩
instance gTO9_8_19 : GcT 8 19 false 14 [15,16,17,18,19,20,21,139,140,141,142,143,144,145,146,147,148]:=⟨⟩
instance gTO9_8_20 : GcT 8 20 false 17 [19,21,139,140,141,142,143,144,145,146,147,148]:=⟨⟩
instance gTO9_8_21 : GcT 8 21 false 16 [149,150,151,152,153,154,155,156,157]:=⟨⟩
instance gTO9_8_22 : GcT 8 22 false 18 [158,159,160,161,162,163,164,165,166]:=⟨⟩
instance gTO9_8_23 : GcT 8 23 false 14 [15,20,22,23,24,25,167,168,169,170,171,172,173,174,175,176,177,178,179,180,181,182,183,184,185,186,187,188,189,190,191,192,193,194,195,196,197,198,199]:=⟨⟩
instance gTO9_8_25 : GcT 8 25 false 2 [5,6,12,13,103,104,105,106,107,108]:=⟨⟩
theorem shortOutputDistancesB {rg ra rb rc t : FR} {h : Bool} : ConT Tryz.prog 8 [QUD 64 rg ra rb rc,TRN 64 t h] (([rg,ra,rb,rc].all shortR && shortR t) = true ∧ (¬ barC [rg,ra,rb,rc] = 0)) (BT true):=.o2 fun hok ht h1 h2 hp=>by
  refine St.enter (N:=201) Tryz.func8 rfl rfl rfl hok (enter2 h1 h2) fun a=>?_
  refine W.tab ht ?_
  have e0:=hp.1
  have e1:=hp.2
  repeat' (first|((with_reducible refine gS_ ?_);first|((with_reducible refine gL_ ?_);first|refine W.run ?_ fun a w G=>?_|refine W.mv fun a w G=>?_|refine W.asg fun a w G=>?_|refine W.bx fun b a w G=>?_|(refine W.nn hK ?_;clear hK K)|refine W.nl ?_|refine W.al fun b a w G=>?_|refine W.st fun w=>?_|refine W.stp fun w=>?_|refine W.ste ?_ fun w=>?_)|((with_reducible refine gC_ ?_);first|with_reducible refine W.cbt (by first|assumption|(simp [e0,e1];done)|fail) ?_|with_reducible refine W.cbf (by first|assumption|(simp [e0,e1];done)|fail) ?_|with_reducible refine W.gcc 8 ?_|with_reducible refine W.gcd 8 ?_|refine W.reg fun K hK=>?_|refine W.reg1 ?_|refine W.sq fun K hK=>?_|refine W.ds ?_ (fun β a w G hu=>W.fin ?_ hu) mixedOrders (by kernel_rfl)|refine W.sk ?_|refine W.cd (fun hc=>?_) (fun hc=>?_)|refine W.cb (fun hc=>?_) (fun hc=>?_)|refine W.bl ?_|refine W.ex ?_|refine W.rt ?_)|((with_reducible refine W.kn hK ?_);clear hK K)|(with_reducible first|refine W.bn ?_|refine W.xt ?_|refine W.xb ?_|refine W.xo ?_|refine W.tr ?_|refine W.br ?_)|refine W.rt1 rfl ?_|refine W.rt2 rfl ?_ ?_|refine W.rt3 rfl ?_ ?_ ?_)|clear hK K|clear hu|exact True.intro|exact Nat.le_trans (by clear hp;omega) hp|exact Nat.le_trans (by clear hp;omega) hp.1|exact Nat.le_trans (by clear hp;omega) hp.2|(clear hp;omega)|apply And.intro|refine GI.i fun _=>?_|with_reducible rfl|decide|(simp only [List.length_cons,List.length_nil];omega))
  all_goals first
    | omega
    | (simp [e0,e1];done)
    | exact e1
    | exact e5
    | rfl
    | skip
theorem shortOutputDistancesC {rg ra rb rc t : FR} {h : Bool} : ConT Tryz.prog 8 [QUD 64 rg ra rb rc,TRN 64 t h] (([rg,ra,rb,rc].all shortR && shortR t) = true ∧ (barC [rg,ra,rb,rc] = 0 ∧ trnF h t = false)) (BT true):=.o2 fun hok ht h1 h2 hp=>by
  refine St.enter (N:=201) Tryz.func8 rfl rfl rfl hok (enter2 h1 h2) fun a=>?_
  refine W.tab ht ?_
  have e0:=hp.1
  have e1:=hp.2.1
  have e5:=hp.2.2
  repeat' (first|((with_reducible refine gS_ ?_);first|((with_reducible refine gL_ ?_);first|refine W.run ?_ fun a w G=>?_|refine W.mv fun a w G=>?_|refine W.asg fun a w G=>?_|refine W.bx fun b a w G=>?_|(refine W.nn hK ?_;clear hK K)|refine W.nl ?_|refine W.al fun b a w G=>?_|refine W.st fun w=>?_|refine W.stp fun w=>?_|refine W.ste ?_ fun w=>?_)|((with_reducible refine gC_ ?_);first|with_reducible refine W.cbt (by first|assumption|(simp [e0,e1,e5];done)|fail) ?_|with_reducible refine W.cbf (by first|assumption|(simp [e0,e1,e5];done)|fail) ?_|with_reducible refine W.gcc 8 ?_|with_reducible refine W.gcd 8 ?_|refine W.reg fun K hK=>?_|refine W.reg1 ?_|refine W.sq fun K hK=>?_|refine W.ds ?_ (fun β a w G hu=>W.fin ?_ hu) mixedOrders (by kernel_rfl)|refine W.sk ?_|refine W.cd (fun hc=>?_) (fun hc=>?_)|refine W.cb (fun hc=>?_) (fun hc=>?_)|refine W.bl ?_|refine W.ex ?_|refine W.rt ?_)|((with_reducible refine W.kn hK ?_);clear hK K)|(with_reducible first|refine W.bn ?_|refine W.xt ?_|refine W.xb ?_|refine W.xo ?_|refine W.tr ?_|refine W.br ?_)|refine W.rt1 rfl ?_|refine W.rt2 rfl ?_ ?_|refine W.rt3 rfl ?_ ?_ ?_)|clear hK K|clear hu|exact True.intro|exact Nat.le_trans (by clear hp;omega) hp|exact Nat.le_trans (by clear hp;omega) hp.1|exact Nat.le_trans (by clear hp;omega) hp.2|(clear hp;omega)|apply And.intro|refine GI.i fun _=>?_|with_reducible rfl|decide|(simp only [List.length_cons,List.length_nil];omega))
  all_goals first
    | omega
    | (simp [e0,e1,e5];done)
    | exact e1
    | exact e5
    | rfl
    | skip
instance (priority:=3000) {n m : Nat} {rg ra rb rc t : FR} {h : Bool} {τ1 τ2 : MT} [j1 : NF τ1 (QUD n rg ra rb rc)] [j2 : NF τ2 (TRN m t h)] : Con Tryz.prog 21 [τ1,τ2] (10000 * n + 10000 * m + 100000 ≤ BIG ∧ barC [rg,ra,rb,rc] = 0 ∧ trnF h t = true) (MT.tup2 (PLQ (n + 4 * m + 130) (ra.val * dirC h t.val) (ra.val * dirS h t.val)) (.ex (errV 67 (0)))):=.o2 fun hok h1 h2 hp=>w21.c2 hok (j1.h h1) (j2.h h2) hp
instance (priority:=3000) {n m : Nat} {rg ra rb rc t : FR} {h : Bool} {τ1 τ2 : MT} [j1 : NF τ1 (QUD n rg ra rb rc)] [j2 : NF τ2 (TRN m t h)] : Con Tryz.prog 22 [τ1,τ2] (10000 * n + 10000 * m + 100000 ≤ BIG ∧ barC [rg,ra,rb,rc] = 0 ∧ trnF h t = true) (MT.tup2 (QC (22 * n + 32 * m + 1119) (dsc rg ra rb rc h t.val)) (.ex (errV 67 (0)))):=.o2 fun hok h1 h2 hp=>w22.c2 hok (j1.h h1) (j2.h h2) hp
instance (priority:=3000) {n m : Nat} {rg ra rb rc t : FR} {h : Bool} {τ1 τ2 : MT} [j1 : NF τ1 (QUD n rg ra rb rc)] [j2 : NF τ2 (TRN m t h)] : Con Tryz.prog 13 [τ1,τ2] (10000 * n + 10000 * m + 100000 ≤ BIG ∧ barC [rg,ra,rb,rc] = 0 ∧ trnF h t = true) (MT.tup3 (TWR (100 * n + 200 * m + 10000) (ouR rg ra rb rc h t.val)) (LS (some 3) ((ouL rg ra rb rc h t.val).map (BPT (100 * n + 200 * m + 10000)))) (.ex (errV 67 (ouE rg ra rb rc h t.val)))):=.o2 fun hok h1 h2 hp=>atPM.c2 hok (j1.h h1) (j2.h h2) hp
theorem shortOutputDistancesD {rg ra rb rc t : FR} {h : Bool} : ConT Tryz.prog 8 [QUD 64 rg ra rb rc,TRN 64 t h] (([rg,ra,rb,rc].all shortR && shortR t) = true ∧ (barC [rg,ra,rb,rc] = 0 ∧ trnF h t = true ∧ ouE rg ra rb rc h t.val ≠ 0)) (BT true):=.o2 fun hok ht h1 h2 hp=>by
  refine St.enter (N:=201) Tryz.func8 rfl rfl rfl hok (enter2 h1 h2) fun a=>?_
  refine W.tab ht ?_
  have e0:=hp.1
  have e0:=Bool.and_eq_true_iff.1 hp.1
  have e1:=hp.2.1
  have e5:=hp.2.2.1
  have e3:=hp.2.2.2
  have e4:=(ou_e (e:=ouE rg ra rb rc h t.val) rfl e3).2
  repeat' (first|((with_reducible refine gS_ ?_);first|((with_reducible refine gL_ ?_);first|refine W.run ?_ fun a w G=>?_|refine W.mv fun a w G=>?_|refine W.asg fun a w G=>?_|refine W.bx fun b a w G=>?_|(refine W.nn hK ?_;clear hK K)|refine W.nl ?_|refine W.al fun b a w G=>?_|refine W.st fun w=>?_|refine W.stp fun w=>?_|refine W.ste ?_ fun w=>?_)|((with_reducible refine gC_ ?_);first|with_reducible refine W.cbt (by first|assumption|(simp [e0.1,e0.2,e1,e5,e3,e4];done)|fail) ?_|with_reducible refine W.cbf (by first|assumption|(simp [e0.1,e0.2,e1,e5,e3,e4];done)|fail) ?_|with_reducible refine W.gcc 8 ?_|with_reducible refine W.gcd 8 ?_|refine W.reg fun K hK=>?_|refine W.reg1 ?_|refine W.sq fun K hK=>?_|refine W.ds ?_ (fun β a w G hu=>W.fin ?_ hu) mixedOrders (by kernel_rfl)|refine W.sk ?_|refine W.cd (fun hc=>?_) (fun hc=>?_)|refine W.cb (fun hc=>?_) (fun hc=>?_)|refine W.bl ?_|refine W.ex ?_|refine W.rt ?_)|((with_reducible refine W.kn hK ?_);clear hK K)|(with_reducible first|refine W.bn ?_|refine W.xt ?_|refine W.xb ?_|refine W.xo ?_|refine W.tr ?_|refine W.br ?_)|refine W.rt1 rfl ?_|refine W.rt2 rfl ?_ ?_|refine W.rt3 rfl ?_ ?_ ?_)|clear hK K|clear hu|exact True.intro|exact Nat.le_trans (by clear hp;omega) hp|exact Nat.le_trans (by clear hp;omega) hp.1|exact Nat.le_trans (by clear hp;omega) hp.2|(clear hp;omega)|apply And.intro|refine GI.i fun _=>?_|with_reducible rfl|decide|(simp only [List.length_cons,List.length_nil];omega))
  all_goals first
    | omega
    | (simp [e0.1,e0.2,e1,e5,e3,e4];done)
    | exact e1
    | exact e5
    | rfl
    | (rw [e4];rfl)
    | skip
theorem shortOutputDistancesE {rg ra rb rc t : FR} {h : Bool} : ConT Tryz.prog 8 [QUD 64 rg ra rb rc,TRN 64 t h] (([rg,ra,rb,rc].all shortR && shortR t) = true ∧ (barC [rg,ra,rb,rc] = 0 ∧ trnF h t = true ∧ ouE rg ra rb rc h t.val = 0)) (BT true):=.o2 fun hok ht h1 h2 hp=>by
  obtain ⟨xb,rfl⟩ : ∃ x,rb = FR.of x:=⟨rb.val,(of_self h1 hp.2.1).1.symm⟩
  obtain ⟨xc,rfl⟩ : ∃ x,rc = FR.of x:=⟨rc.val,(of_self h1 hp.2.1).2.symm⟩
  refine St.enter (N:=201) Tryz.func8 rfl rfl rfl hok (enter2 h1 h2) fun a=>?_
  refine W.tab ht ?_
  have e0:=hp.1
  have e0:=Bool.and_eq_true_iff.1 hp.1
  have e1:=hp.2.1
  have e5:=hp.2.2.1
  have e3:=hp.2.2.2
  have hk:=ou_tok rg ra (FR.of xb) (FR.of xc) h t.val
  have hr1:=ou_len rg ra (FR.of xb) (FR.of xc) h t.val
  have hl2:=ouL_t rg ra (FR.of xb) (FR.of xc) h t.val
  have tb1:=tB1u (x:=max (64 + 2) (1 + 2) + (64 + 4 * 64 + 130 + 2) + 1 + (100 * 64 + 200 * 64 + 10000 + (64 + 4 * 64 + 130 + 2) + 1)) (r:=100 * 64 + 200 * 64 + 10000) hr1
  have tb2:=tB1u (x:=100 * 64 + 200 * 64 + 10000 + (64 + 4 * 64 + 130 + 2) + 1 + (100 * 64 + 200 * 64 + 10000 + (64 + 4 * 64 + 130 + 2) + 1)) (r:=100 * 64 + 200 * 64 + 10000) hr1
  have tb3:=tB1u (x:=100 * 64 + 200 * 64 + 10000 + max (64 + 2) (1 + 2) + 1 + (100 * 64 + 200 * 64 + 10000 + max (64 + 2) (1 + 2) + 1)) (r:=100 * 64 + 200 * 64 + 10000) hr1
  repeat' (first|((with_reducible refine gS_ ?_);first|((with_reducible refine gL_ ?_);first|refine W.run ?_ fun a w G=>?_|refine W.mv fun a w G=>?_|refine W.asg fun a w G=>?_|refine W.bx fun b a w G=>?_|(refine W.nn hK ?_;clear hK K)|refine W.nl ?_|refine W.al fun b a w G=>?_|refine W.st fun w=>?_|refine W.stp fun w=>?_|refine W.ste ?_ fun w=>?_)|((with_reducible refine gC_ ?_);first|with_reducible refine W.cbt (by first|assumption|(simp [e0.1,e0.2,e1,e5,e3];done)|fail) ?_|with_reducible refine W.cbf (by first|assumption|(simp [e0.1,e0.2,e1,e5,e3];done)|fail) ?_|with_reducible refine W.cbf (ou_r8 e3) ?_|with_reducible refine W.gcc 8 ?_|with_reducible refine W.gcd 8 ?_|refine W.reg fun K hK=>?_|refine W.reg1 ?_|refine W.sq fun K hK=>?_|refine W.ds ?_ (fun β a w G hu=>W.fin ?_ hu) mixedOrders (by kernel_rfl)|refine W.sk ?_|refine W.cd (fun hc=>?_) (fun hc=>?_)|refine W.cb (fun hc=>?_) (fun hc=>?_)|refine W.bl ?_|refine W.ex ?_|refine W.rt ?_)|((with_reducible refine W.kn hK ?_);clear hK K)|(with_reducible first|refine W.bn ?_|refine W.xt ?_|refine W.xb ?_|refine W.xo ?_|refine W.tr ?_|refine W.br ?_)|refine W.rt1 rfl ?_|refine W.rt2 rfl ?_ ?_|refine W.rt3 rfl ?_ ?_ ?_)|refine W.lp 110 (α:=Nat) (fun j=>(ouL rg ra (FR.of xb) (FR.of xc) h t.val).length - j) (fun j=>j ≤ (ouL rg ra (FR.of xb) (FR.of xc) h t.val).length) [4,14,15,16,17,18,19,20,21,22,23,24,25,109,110,111,112,113,114,115,116,117,118,119,120,121,122,123,124,125,126,127,128,129,130,131,132,133,134,135,136,137,138,139,140,141,142,143,144,145,146,147,148,149,150,151,152,153,154,155,156,157,158,159,160,161,162,163,164,165,166,167,168,169,170,171,172,173,174,175,176,177,178,179,180,181,182,183,184,185,186,187,188,189,190,191,192,193,194,195,196,197,198,199,200] (fun j=>[(109,NT j)]) (fun j=>[]) (0) ?_ ?_ ?_ fun j hj a w G=>?_|refine W.ag (x:=j) (j+1) ?_ ?_ ?_ ?_|clear hK K|clear hu|exact True.intro|exact Nat.le_trans (by clear hp;omega) hp|exact Nat.le_trans (by clear hp;omega) hp.1|exact Nat.le_trans (by clear hp;omega) hp.2|(clear hp;omega)|apply And.intro|refine GI.i fun _=>?_|with_reducible rfl|decide|(simp only [List.length_cons,List.length_nil];omega))
  all_goals (try have hjj : j < (ouL rg ra (FR.of xb) (FR.of xc) h t.val).length:=by omega)
  all_goals (try have d0:=end_pw hjj)
  all_goals (try have d1 : PWp (ouR rg ra (FR.of xb) (FR.of xc) h t.val).length (ptF (ra.val * dirC h t.val) (ra.val * dirS h t.val)):=pt_pw hk.rl.2)
  all_goals (try have d2 : PWp (ouR rg ra (FR.of xb) (FR.of xc) h t.val).length (ptF rg.val (default : FR).val):=pt_pw hk.rl.2)
  all_goals (try have d3:=PWp.les hk d0 d1)
  all_goals (try have d4:=PWp.les hk d0 d2)
  all_goals first
    | omega
    | (simp [e0.1,e0.2,e1,e5,e3];done)
    | exact e1
    | exact e5
    | rfl
    | exact hk
    | exact d0
    | exact d1
    | exact d2
    | exact d0.a
    | exact d0.b
    | exact (PWp.dot hk d3 d3).2.2
    | exact (PWp.dot hk d4 d4).2.2
    | exact pw1k
    | exact Nat.le_trans (sB1u hr1) (by decide)
    | (refine Nat.le_trans (sB1u hr1) ?_;simp only [BIG];omega)
    | exact Nat.le_trans (Nat.succ_le_succ (Nat.mul_le_mul_left 2 (tB1u hr1))) (by decide)
    | (have q1:=di_1x hjj (FR.of_val (x:=xb));have q2:=di_2x hjj (FR.of_val (x:=xc)) zv0;have q3:=di_3x hjj zv0;have q4:=di_all q1 q2 q3 (ou_m2 hjj);exact absurd (q4.symm.trans hc) (by decide))
    | skip
instance {rg ra rb rc : FR} : Con Tryz.prog 23 [PTS [(some 3,RX rg),(some 3,RX ra),(some 3,RX rb),(some 3,RX rc)]] ([rg,ra,rb,rc].all shortR = true) (.ex (errV 67 (barC [rg,ra,rb,rc]))):=.o1 fun hok h1 hp=>by
  have hq:=hp
  (try simp only [shortF,List.all_cons,List.all_nil,Bool.and_true,Bool.and_eq_true] at hq)
  exact (inferInstance : Con Tryz.prog 23 [QUD 64 rg ra rb rc] _ (.ex (errV 67 (barC [rg,ra,rb,rc])))).c1 hok (NS.h (τ':=QUD 64 rg ra rb rc) (by (try simp only [and_true,true_and]);grind) h1) (by decide)
instance {t : FR} {h : Bool} : Con Tryz.prog 15 [PTS [(some 3,RX t),(none,BT h)]] (shortR t = true) (BT (trnF h t)):=.o1 fun hok h1 hp=>w15.c1 hok (NS.h (τ':=TRN 64 t h) ⟨hp,trivial,trivial⟩ h1) (by decide)
theorem longOutputDistances {rg ra rb rc t : FR} {h : Bool} : ConT Tryz.prog 8 [PTS [(some 3,RX rg),(some 3,RX ra),(some 3,RX rb),(some 3,RX rc)],PTS [(some 3,RX t),(none,BT h)]] (([rg,ra,rb,rc].all shortR && shortR t) = false) (BT true):=.o2 fun hok ht h1 h2 hp=>by
  refine St.enter (N:=201) Tryz.func8 rfl rfl rfl hok (enter2 h1 h2) fun a=>?_
  refine W.tab ht ?_
  repeat' (first|refine W.cbt (long2_2 hp) ?_|((with_reducible refine gS_ ?_);first|((with_reducible refine gL_ ?_);first|refine W.run ?_ fun a w G=>?_|refine W.mv fun a w G=>?_|refine W.asg fun a w G=>?_|refine W.bx fun b a w G=>?_|(refine W.nn hK ?_;clear hK K)|refine W.nl ?_|refine W.al fun b a w G=>?_|refine W.st fun w=>?_|refine W.stp fun w=>?_|refine W.ste ?_ fun w=>?_)|((with_reducible refine gC_ ?_);first|refine W.reg fun K hK=>?_|refine W.reg1 ?_|refine W.sq fun K hK=>?_|refine W.ds ?_ (fun β a w G hu=>W.fin ?_ hu) mixedOrders (by kernel_rfl)|refine W.sk ?_|refine W.cd (fun hc=>?_) (fun hc=>?_)|refine W.cb (fun hc=>?_) (fun hc=>?_)|refine W.bl ?_|refine W.ex ?_|refine W.rt ?_)|((with_reducible refine W.kn hK ?_);clear hK K)|(with_reducible first|refine W.bn ?_|refine W.xt ?_|refine W.xb ?_|refine W.xo ?_|refine W.tr ?_|refine W.br ?_)|refine W.rt1 rfl ?_|refine W.rt2 rfl ?_ ?_|refine W.rt3 rfl ?_ ?_ ?_)|clear hK K|clear hu|exact True.intro|exact Nat.le_trans (by clear hp;omega) hp|exact Nat.le_trans (by clear hp;omega) hp.1|exact Nat.le_trans (by clear hp;omega) hp.2|(clear hp;omega)|apply And.intro|refine GI.i fun _=>?_|with_reducible rfl|decide|(simp only [List.length_cons,List.length_nil];omega))
  all_goals first | exact (gi2_0 hp (by assumption)).elim | exact (gi2_1 hp (by assumption)).elim | skip
theorem lawOutputDistances {rg ra rb rc t : FR} {h : Bool} {w : World} {G : Gh} {v1 v2 : Value} (hok : Gok w G) (ht : TAB G) (h1 : (PTS [(some 3,RX rg),(some 3,RX ra),(some 3,RX rb),(some 3,RX rc)]).t v1 G) (h2 : (PTS [(some 3,RX t),(none,BT h)]).t v2 G) : Calls Tryz.prog 8 #[v1,v2] w (Ret w G (BT true)):=by
  cases hs : ([rg,ra,rb,rc].all shortR && shortR t) with
  | true =>
    have hq:=hs
    (try simp only [shortF,List.all_cons,List.all_nil,Bool.and_true,Bool.and_eq_true] at hq)
    have hcs : (¬ barC [rg,ra,rb,rc] = 0) ∨ (barC [rg,ra,rb,rc] = 0 ∧ trnF h t = false) ∨ (barC [rg,ra,rb,rc] = 0 ∧ trnF h t = true ∧ ouE rg ra rb rc h t.val ≠ 0) ∨ (barC [rg,ra,rb,rc] = 0 ∧ trnF h t = true ∧ ouE rg ra rb rc h t.val = 0):=by
      by_cases e : barC [rg,ra,rb,rc] = 0
      · cases e2 : trnF h t with
        | false=>exact .inr (.inl ⟨e,rfl⟩)
        | true =>
          by_cases e3 : ouE rg ra rb rc h t.val = 0
          · exact .inr (.inr (.inr ⟨e,rfl,e3⟩))
          · exact .inr (.inr (.inl ⟨e,rfl,e3⟩))
      · exact .inl e
    rcases hcs with hcs | hcs | hcs | hcs
    · exact shortOutputDistancesB.c2 hok ht (NS.h (τ':=QUD 64 rg ra rb rc) (by (try simp only [and_true,true_and]);grind) h1) (NS.h (τ':=TRN 64 t h) (by (try simp only [and_true,true_and]);grind) h2) ⟨hs,hcs⟩
    · exact shortOutputDistancesC.c2 hok ht (NS.h (τ':=QUD 64 rg ra rb rc) (by (try simp only [and_true,true_and]);grind) h1) (NS.h (τ':=TRN 64 t h) (by (try simp only [and_true,true_and]);grind) h2) ⟨hs,hcs⟩
    · exact shortOutputDistancesD.c2 hok ht (NS.h (τ':=QUD 64 rg ra rb rc) (by (try simp only [and_true,true_and]);grind) h1) (NS.h (τ':=TRN 64 t h) (by (try simp only [and_true,true_and]);grind) h2) ⟨hs,hcs⟩
    · exact shortOutputDistancesE.c2 hok ht (NS.h (τ':=QUD 64 rg ra rb rc) (by (try simp only [and_true,true_and]);grind) h1) (NS.h (τ':=TRN 64 t h) (by (try simp only [and_true,true_and]);grind) h2) ⟨hs,hcs⟩
  | false=>exact longOutputDistances.c2 hok ht h1 h2 hs
end Go.Proofs.YtnjbcjmkkejfpaaGreatDoor
namespace Go.Proofs.YtnjbcjmkkejfpaaGreatDoor
open Go.RowKit (Below)
def G0of (W : World) : Gh:=fun b=>W.heap[b]?
theorem G0of_ok (W : World) : Gok W (G0of W):=fun _ _ h=>h
theorem Gc_G0 {W : World} {b i : Nat} : Gc (G0of W) b i = W.cell? ⟨b,i,none⟩:=by
  unfold Gc G0of World.cell?;cases W.heap[b]? with
  | none=>rfl
  | some o=>cases o <;> rfl
def RdA (P : Program) (W : World) (t : TypeId) (k : Option Nat) (A : MT → Prop) : Prop:=∀ (H : Type) (enc : TypeId × Value → H) (fuel : Nat) (cs : List Value) (x : DataW H × List MemPlace),
  DataW.trod enc P W 0 (fun _=>true) true fuel t cs = some x → (x.1.weights P t).all (· ≤ reachBytes) = true → ∃ (v : Value) (τ : MT),A τ ∧ v.cells.toList = cs ∧ Shaped k v ∧ τ.t v (G0of W)
section
variable {P : Program} {W : World} {t e : TypeId} {k : Option Nat} {A A' : MT → Prop}
theorem RdA.mono (h : RdA P W t k A) (hA : ∀ τ v,A τ → τ.t v (G0of W) → ∃ σ,A' σ ∧ σ.t v (G0of W)) : RdA P W t k A':=fun H enc fuel cs x hx hw=>by
  obtain ⟨v,τ,h1,h2,h3,h4⟩:=h H enc fuel cs x hx hw
  obtain ⟨σ,h5,h6⟩:=hA τ v h1 h4
  exact ⟨v,σ,h5,h2,h3,h6⟩
theorem rd_bool (ht : P.underlying t = some .bool) : RdA P W t none (fun τ=>∃ b,τ = .ex (.bool b)):=fun H enc fuel cs x hx hw=>by
  obtain ⟨b,rfl,rfl⟩:=DataW.trod_bool ht hx
  exact ⟨.bool b,_,⟨b,rfl⟩,rfl,⟨rfl,rfl⟩,rfl⟩
theorem rd_int {kk : IntKind} (ht : P.underlying t = some (.int kk)) : RdA P W t none (fun τ=>∃ z,(Lit.int kk z).wf = true ∧ τ = .ex (.int kk z)):=fun H enc fuel cs x hx hw=>by
  obtain ⟨z,rfl,rfl,h⟩:=DataW.trod_int ht hx
  exact ⟨.int kk z,_,⟨z,h,rfl⟩,rfl,⟨rfl,rfl⟩,rfl⟩
theorem cells_get {a : Addr} {n : Nat} {L : List Value} (h : W.cells? 0 a n = some L) : L.length = n ∧ ∀ j,j < n → W.cell? (a.add j) = L[j]?:=by
  unfold World.cells? at h
  rw [if_pos (Nat.zero_le _)] at h
  exact ⟨by simpa using mapM_some_length h,fun j hj=>mapM_some_get h j j (by simp [hj])⟩
theorem weightsAll_mem {H : Type} {es : List (DataW H)} {d : DataW H} {i : Nat} (hi : es[i]? = some d) : ∀ n ∈ d.weights P e,n ∈ DataW.weightsAll P e es:=by
  induction es generalizing i with
  | nil=>simp at hi
  | cons x r ih =>
    intro n hn
    rw [DataW.weightsAll,List.mem_append]
    cases i with
    | zero=>simp at hi;subst hi;exact .inl hn
    | succ j=>exact .inr (ih (by simpa using hi) n hn)
theorem rd_sliceB (ht : P.underlying t = some (.slice e)) (hc : P.cellsOf e = k.getD 1) (hc0 : 0 < k.getD 1) (hb : 4 ≤ P.bytesOf e) (h : RdA P W e k A) : RdA P W t none (fun τ=>∃ τs,(∀ σ ∈ τs,A σ) ∧ τs.length * P.bytesOf e ≤ 140737488351232 ∧ τ = LS k τs):=fun H enc fuel cs x hx hw=>by
  rcases DataW.trod_slice ht hx with ⟨rfl,rfl⟩ | ⟨a,len,cap,elems,rest,n,rfl,rfl,rfl,hb0,hlc,hcm,hel,hE,_,_⟩
  · exact ⟨.slice none 0 0,LS k [],⟨[],by simp,by simp,rfl⟩,rfl,⟨rfl,rfl⟩,LS.nil⟩
  · simp only [DataW.weights,ht,List.all_cons,List.all_append,Bool.and_eq_true,decide_eq_true_eq] at hw
    obtain ⟨hw1,hw2,_⟩:=hw
    have hlim : len ≤ LIM:=by
      have h1 : len * 4 ≤ ((elems.map (·.1)).length + (rest.map (·.1)).length) * P.bytesOf e:=Nat.mul_le_mul (by simp;omega) hb
      have h2 : reachBytes = 140737488351232:=rfl
      simp only [LIM];omega
    have hby : len * P.bytesOf e ≤ 140737488351232:=by
      have h1 : len * P.bytesOf e ≤ ((elems.map (·.1)).length + (rest.map (·.1)).length) * P.bytesOf e:=Nat.mul_le_mul_right _ (by simp;omega)
      have h2 : reachBytes = 140737488351232:=rfl
      omega
    have each : ∀ i,∃ (v : Value) (τ : MT),i < len → W.cells? 0 (a.add (i * k.getD 1)) (k.getD 1) = some v.cells.toList ∧ A τ ∧ Shaped k v ∧ τ.t v (G0of W):=fun i=>by
      by_cases hi : i < len
      · have h1:=hE i hi
        rw [List.getElem?_eq_getElem (by omega),Option.bind_eq_some_iff,hc] at h1
        obtain ⟨cs',h2,h3⟩:=h1
        obtain ⟨v,τ,h4,h5,h6,h7⟩:=h H enc n cs' _ h3 (List.all_eq_true.2 fun m hm=>List.all_eq_true.1 hw2 m (weightsAll_mem (i:=i) (by rw [List.getElem?_map,List.getElem?_eq_getElem (by omega)];rfl) m hm))
        exact ⟨v,τ,fun _=>⟨by rw [h5];exact h2,h4,h6,h7⟩⟩
      · exact ⟨undef,.ex undef,fun h=>absurd h hi⟩
    obtain ⟨f,g,hfg⟩ : ∃ (f : Nat → Value) (g : Nat → MT),∀ i,i < len → W.cells? 0 (a.add (i * k.getD 1)) (k.getD 1) = some (f i).cells.toList ∧ A (g i) ∧ Shaped k (f i) ∧ (g i).t (f i) (G0of W):=⟨fun i=>(each i).choose,fun i=>(each i).choose_spec.choose,fun i=>(each i).choose_spec.choose_spec⟩
    refine ⟨.slice (some a) len cap,LS k ((List.range len).map g),⟨_,fun σ hσ=>?_,by simpa using hby,rfl⟩,rfl,⟨rfl,rfl⟩,LS.of_vals (us:=(List.range len).map f) (A:=some a) (c:=cap) (by simp) (by simpa using hlc) (by simpa using hlim) ⟨by simp,fun i τ u hi hu=>?_⟩ fun i u hu=>?_⟩
    · obtain ⟨i,hi,rfl⟩:=List.mem_map.1 hσ
      exact (hfg i (by simpa using hi)).2.1
    · have hlt : i < len:=by have:=(List.getElem?_eq_some_iff.1 hi).1;simpa using this
      simp [List.getElem?_range hlt] at hi hu
      subst hi;subst hu
      exact (hfg i hlt).2.2
    · have hlt : i < len:=by have:=(List.getElem?_eq_some_iff.1 hu).1;simpa using this
      simp [List.getElem?_range hlt] at hu
      subst hu
      obtain ⟨h1,h2,h3,h4⟩:=hfg i hlt
      obtain ⟨h5,h6⟩:=cells_get h1
      obtain ⟨g5,g6⟩:=cells_get (hfg 0 (by omega)).1
      obtain ⟨b,off,spot⟩:=a
      have h7:=g6 0 hc0
      rw [List.getElem?_eq_getElem (by omega)] at h7
      have hs : spot = none:=by simpa [Addr.add] using World.cell?_spot h7
      subst hs
      refine ⟨b,off,rfl,fun j x hj=>?_⟩
      have hjl : j < k.getD 1:=by have:=(Array.getElem?_eq_some_iff.1 hj).1;rw [← h5,Array.length_toList];exact this
      have h8:=h6 j hjl
      rw [Gc_G0]
      rw [addr_add,addr_add,Array.getElem?_toList,hj] at h8
      exact h8
theorem rd_slice (ht : P.underlying t = some (.slice e)) (hc : P.cellsOf e = k.getD 1) (hc0 : 0 < k.getD 1) (hb : 4 ≤ P.bytesOf e) (h : RdA P W e k A) : RdA P W t none (fun τ=>∃ τs,(∀ σ ∈ τs,A σ) ∧ τ = LS k τs) :=
  (rd_sliceB ht hc hc0 hb h).mono fun τ v ⟨τs,h1,_,h2⟩ hv=>⟨τ,⟨τs,h1,h2⟩,hv⟩
theorem forall_map' {α : Type} {T : α → MT} {p : α → Prop} {τs : List MT} (h : ∀ σ ∈ τs,∃ x,p x ∧ σ = T x) : ∃ xs : List α,τs = xs.map T ∧ ∀ x ∈ xs,p x:=by
  induction τs with
  | nil=>exact ⟨[],rfl,by simp⟩
  | cons a r ih =>
    obtain ⟨l,rfl,hl⟩:=ih fun σ h'=>h σ (List.mem_cons_of_mem _ h')
    obtain ⟨x,hx,rfl⟩:=h a (List.mem_cons_self ..)
    exact ⟨x :: l,rfl,by simpa using ⟨hx,hl⟩⟩
theorem rd_words (ht : P.underlying t = some (.slice e)) (hu : P.underlying e = some (.int .u32)) (hc : P.cellsOf e = 1) (hb : 4 ≤ P.bytesOf e) : RdA P W t none (fun τ=>∃ l,τ = SL l):=by
  have h1 : RdA P W e none (fun τ=>∃ x : Nat,x < 4294967296 ∧ τ = .ex (u32 x)):=(rd_int hu).mono fun τ v ⟨z,hz,hτ⟩ hv=>by
    subst hτ
    have hm : IntKind.u32.min = 0:=by decide
    have hM : IntKind.u32.max = 4294967295:=by decide
    simp [Lit.wf,hm,hM] at hz
    exact ⟨_,⟨z.toNat,by omega,rfl⟩,by
      have : (z.toNat : Int) = z:=by omega
      show v = .int .u32 (z.toNat : Int);rw [this];exact hv⟩
  refine (rd_slice (k:=none) ht hc (by decide) hb h1).mono fun τ v ⟨τs,hσ,hτ⟩ hv=>?_
  subst hτ
  obtain ⟨l,hl,hlt⟩:=forall_map' hσ
  subst hl
  obtain ⟨A,c,us,h2,h3,h4,h5,h6⟩:=LS.vals hv
  rw [List.length_map] at h2 h3 h4
  refine ⟨_,⟨l,rfl⟩,A,c,h2,h3,h4,hlt,fun i x hi=>?_⟩
  have hil:=(List.getElem?_eq_some_iff.1 hi).1
  have hul : i < us.length:=by rw [h5.1,List.length_map];exact hil
  have hui : us[i]? = some us[i]:=by rw [List.getElem?_eq_getElem hul]
  have h7:=(h5.2 i (.ex (u32 x)) us[i] (by rw [List.getElem?_map,hi];rfl) hui).2
  obtain ⟨b,off,e1,h8⟩:=h6 i us[i] hui
  refine ⟨b,off,e1,?_⟩
  have h9 : us[i] = u32 x:=h7
  rw [h9] at h8
  simpa using h8 0 (u32 x) rfl
def FldOk (P : Program) (W : World) : Nat → List Field → List (Option Nat × (MT → Prop)) → Prop
  | _,[],[]=>True
  | off,f :: fs,a :: As=>f.offset = off ∧ P.cellsOf f.type = a.1.getD 1 ∧ RdA P W f.type a.1 a.2 ∧ FldOk P W (off + a.1.getD 1) fs As
  | _,_,_=>False
def Mt : List (Option Nat × (MT → Prop)) → List (Option Nat × MT) → Prop
  | [],[]=>True
  | a :: As,f :: F=>f.1 = a.1 ∧ a.2 f.2 ∧ Mt As F
  | _,_=>False
def tot (As : List (Option Nat × (MT → Prop))) : Nat:=(As.map fun a=>a.1.getD 1).sum
theorem Mt.tot : ∀ {As : List (Option Nat × (MT → Prop))} {F : List (Option Nat × MT)},Mt As F → (F.map fun f=>f.1.getD 1).sum = Go.Proofs.YtnjbcjmkkejfpaaGreatDoor.tot As
  | [],[],_=>rfl
  | a :: As,f :: F,h=>by
    have:=Mt.tot h.2.2
    simp only [Go.Proofs.YtnjbcjmkkejfpaaGreatDoor.tot,List.map_cons,List.sum_cons,h.1] at this ⊢
    rw [this]
  | [],_ :: _,h=>h.elim
  | _ :: _,[],h=>h.elim
theorem rd_fields {H : Type} {enc : TypeId × Value → H} {n : Nat} {cs : List Value} : ∀ (fs : List Field) (As : List (Option Nat × (MT → Prop))) (xs : List (DataW H × List MemPlace)) (off : Nat), FldOk P W off fs As → xs.length = fs.length →
    (∀ (i : Nat) (f : Field),fs[i]? = some f → DataW.trod enc P W 0 (fun _=>true) true n f.type ((cs.drop f.offset).take (P.cellsOf f.type)) = xs[i]?) → (DataW.weightsEach P (fs.map (·.type)) (xs.map (·.1))).all (· ≤ reachBytes) = true → cs.length = off + tot As →
    ∃ us F,Mt As F ∧ flat us = cs.drop off ∧ us.length = F.length ∧ ∀ (i : Nat) (f : Option Nat × MT) (u : Value),F[i]? = some f → us[i]? = some u → Shaped f.1 u ∧ f.2.t u (G0of W)
  | [],[],xs,off,_,_,_,_,hl=>⟨[],[],trivial,by rw [List.drop_eq_nil_of_le (by rw [hl];simp [tot])];rfl,rfl,fun i f u h=>by simp at h⟩
  | f :: fs,a :: As,[],off,_,hx,_,_,_=>by simp at hx
  | f :: fs,a :: As,x :: xs,off,hF,hx,hT,hw,hl=>by
    obtain ⟨h1,h2,h3,h4⟩:=hF
    simp only [List.map_cons,DataW.weightsEach,List.all_append,Bool.and_eq_true] at hw
    obtain ⟨v,τ,h5,h6,h7,h8⟩:=h3 H enc n _ x (hT 0 f rfl) hw.1
    obtain ⟨us,F,g1,g2,g3,g4⟩:=rd_fields fs As xs (off + a.1.getD 1) h4 (by simpa using hx) (fun i g hg=>by simpa using hT (i + 1) g (by simpa using hg)) hw.2 (by rw [hl];simp [tot];omega)
    refine ⟨v :: us,(a.1,τ) :: F,⟨rfl,h5,g1⟩,?_,by simp [g3],fun i f' u hf hu=>?_⟩
    · rw [flat_cons,h6,g2,h1,h2,← List.drop_drop,List.take_append_drop]
    · cases i with
      | zero=>simp at hf hu;subst hf;subst hu;exact ⟨h7,h8⟩
      | succ i=>exact g4 i f' u (by simpa using hf) (by simpa using hu)
  | [],_ :: _,_,_,h,_,_,_,_=>h.elim
  | _ :: _,[],_,_,h,_,_,_,_=>h.elim
theorem rd_struct {fs : Array Field} {As : List (Option Nat × (MT → Prop))} {n : Nat} (ht : P.underlying t = some (.struct fs)) (hn : P.cellsOf t = n) (hnA : tot As = n) (hF : FldOk P W 0 fs.toList As) : RdA P W t (some n) (fun τ=>∃ F,Mt As F ∧ τ = PTS F):=fun H enc fuel cs x hx hw=>by
  obtain ⟨xs,m,rfl,rfl,hl,hxl,hT⟩:=DataW.trod_struct ht hx
  simp only [DataW.weights,ht] at hw
  obtain ⟨us,F,h1,h2,h3,h4⟩:=rd_fields fs.toList As xs 0 hF (by simpa using hxl) (fun i f hf=>hT i f (by simpa using hf)) hw (by omega)
  have hP : (PTS F).t (.agg (flat us).toArray) (G0of W):=⟨us,rfl,h3,h4⟩
  refine ⟨.agg (flat us).toArray,PTS F,⟨F,h1,rfl⟩,by rw [h2];rfl,PTS.shaped (by unfold offs;rw [List.take_length,h1.tot,hnA]) hP,hP⟩
theorem shaped1 {u : Value} (h : Shaped none u) : u.cells = #[u]:=h.1
theorem PTS.toQR {s : Bool} {p q : List Nat} {v : Value} {G : Gh} (h : (PTS [(none,.ex (.bool s)),(none,SL p),(none,SL q)]).t v G) : (QR s p q).t v G:=by
  obtain ⟨us,rfl,hl,h⟩:=h
  match us,hl,h with
  | [u0,u1,u2],_,h =>
    obtain ⟨a0,b0⟩:=h 0 _ u0 rfl rfl
    obtain ⟨a1,b1⟩:=h 1 _ u1 rfl rfl
    obtain ⟨a2,b2⟩:=h 2 _ u2 rfl rfl
    refine ⟨u1,u2,?_,b1,b2⟩
    have e0 : u0 = .bool s:=b0
    simp only [flat,List.flatMap_cons,List.flatMap_nil,shaped1 a0,shaped1 a1,shaped1 a2]
    rw [e0];rfl
theorem rd_frac {fs : Array Field} {f0 f1 f2 : Field} {tw : TypeId} (ht : P.underlying t = some (.struct fs)) (hf : fs.toList = [f0, f1, f2]) (hn : P.cellsOf t = 3) (h0 : f0.offset = 0 ∧ P.cellsOf f0.type = 1 ∧ P.underlying f0.type = some .bool) (h1 : f1.offset = 1 ∧ f1.type = tw) (h2 : f2.offset = 2 ∧ f2.type = tw)
    (hw : P.underlying tw = some (.slice e) ∧ P.cellsOf tw = 1) (he : P.underlying e = some (.int .u32) ∧ P.cellsOf e = 1 ∧ 4 ≤ P.bytesOf e) : RdA P W t (some 3) (fun τ=>∃ r : FR,τ = QR r.s r.p r.q):=by
  have hW : RdA P W tw none (fun τ=>∃ l,τ = SL l):=rd_words hw.1 he.1 he.2.1 he.2.2
  refine (rd_struct (As:=[(none,fun τ=>∃ b,τ = .ex (.bool b)),(none,fun τ=>∃ l,τ = SL l),(none,fun τ=>∃ l,τ = SL l)]) ht hn rfl (by
    rw [hf];exact ⟨h0.1,h0.2.1,rd_bool h0.2.2,h1.1,by rw [h1.2];exact hw.2,by rw [h1.2];exact hW,h2.1,by rw [h2.2];exact hw.2,by rw [h2.2];exact hW,trivial⟩)).mono fun τ v ⟨F,hM,hτ⟩ hv=>?_
  subst hτ
  match F,hM with
  | [a,b,c],⟨a1,⟨s,a2⟩,b1,⟨p,b2⟩,c1,⟨q,c2⟩,_⟩ =>
    obtain ⟨a0,a'⟩:=a;obtain ⟨b0,b'⟩:=b;obtain ⟨c0,c'⟩:=c
    simp only at a1 a2 b1 b2 c1 c2
    subst a1;subst a2;subst b1;subst b2;subst c1;subst c2
    exact ⟨_,⟨⟨s,p,q⟩,rfl⟩,PTS.toQR hv⟩
theorem rd_arg {H : Type} {enc : TypeId × Value → H} {v : Value} {d : DataW H} {ps : List MemPlace} (h : RdA P W t k A) (hd : DataW.Trod enc P W 0 (fun _ => true) true t v d ps) (hw : (d.weights P t).all (· ≤ reachBytes) = true)
    (hv : match k with | none=>v.cells = #[v] | some _=>∃ cs,v = .agg cs) : ∃ τ,A τ ∧ Shaped k v ∧ τ.t v (G0of W):=by
  obtain ⟨fuel,hf⟩:=hd
  obtain ⟨u,τ,h1,h2,h3,h4⟩:=h H enc fuel _ _ hf hw
  have : u = v:=by
    cases k with
    | none =>
      have h5 : u.cells = #[u]:=h3.1
      rw [h5,hv] at h2
      simpa using h2
    | some n =>
      obtain ⟨cs,rfl⟩:=hv
      obtain ⟨cs',rfl,_⟩:=h3
      have : cs'.toList = cs.toList:=h2
      rw [Array.toList_inj.1 this]
  subst this
  exact ⟨τ,h1,h3,h4⟩
end
end Go.Proofs.YtnjbcjmkkejfpaaGreatDoor
