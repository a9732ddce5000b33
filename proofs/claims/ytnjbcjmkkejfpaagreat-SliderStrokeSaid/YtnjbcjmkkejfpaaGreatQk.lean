import Derived.ChangeArms
import Derived.SizedLaws
import Derived.WideShapes
import Derived.Test.YtnjbcjmkkejfpaaGreatQj
set_option linter.unusedVariables false
set_option linter.unusedSimpArgs false
namespace Go.Proofs.YtnjbcjmkkejfpaaGreat
theorem rt_prod {a b : Rat} (ha : 0 ≤ a) (hb : 0 ≤ b) : rt (a * b) = rt a * rt b:=rt_mul ha hb
theorem dead_nn {a b e : Rat} (ha : 0 ≤ a) (hb : 0 ≤ b) (h : rt a + rt (e * e) ≤ rt b) : 0 ≤ RR.of (a + b - e * e) + RR.of (-2) * rt (a * b):=by
  have hE:=rt_nn (e * e)
  have he2 : rt (e * e) * rt (e * e) = RR.of (e * e):=by
    rcases rt_abs e with ⟨h1,h2⟩ | ⟨h1,h2⟩ <;> rw [h2,← RR.of_mul]
    congr 1;grind
  rw [RR.le_iff_sub] at h
  have k1 : 0 ≤ rt b - (rt a + rt (e * e)) + (rt (e * e) + rt (e * e)):=RR.add_nn h (RR.add_nn hE hE)
  have p:=RR.mul_nn h k1
  have e1 : (rt b - (rt a + rt (e * e))) * (rt b - (rt a + rt (e * e)) + (rt (e * e) + rt (e * e))) = rt b * rt b + rt a * rt a - rt (e * e) * rt (e * e) + RR.of (-2) * (rt a * rt b):=by
    generalize rt a = A;generalize rt b = B;generalize rt (e * e) = E
    obtain ⟨f,hf,rfl⟩:=RR.rep A;obtain ⟨f2,hf2,rfl⟩:=RR.rep B;obtain ⟨f3,hf3,rfl⟩:=RR.rep E
    exact RR.ext fun n=>by grind
  rw [e1,rt_sq ha,rt_sq hb,he2,← rt_prod ha hb,← RR.of_add,← RR.of_sub] at p
  rw [show a + b - e * e = b + a - e * e by grind]
  exact p
theorem dead_out {a b e : Rat} (ha : 0 ≤ a) (hb : 0 ≤ b) (h : rt a + rt (e * e) ≤ rt b) : 0 ≤ RR.of (a + b - e * e) + RR.of 2 * rt (a * b):=by
  have h1:=dead_nn ha hb h
  have h2 : 0 ≤ RR.of 4 * rt (a * b):=RR.mul_nn (RR.of_le (p:=0) |>.2 (by decide)) (rt_nn _)
  have h3:=RR.add_nn h1 h2
  generalize rt (a * b) = U at *
  have e : RR.of (a + b - e * e) + RR.of (-2) * U + RR.of 4 * U = RR.of (a + b - e * e) + RR.of 2 * U:=by obtain ⟨f,hf,rfl⟩:=RR.rep U;exact RR.ext fun n=>by grind
  rw [e] at h3;exact h3
theorem stroke_pos {x u : RR} (h1 : 0 ≤ x + RR.of (-2) * u) (h2 : 0 ≤ x + RR.of 2 * u) (hu : 0 < u) : sgR ((x + RR.of 2 * u).sq - (x + RR.of (-2) * u).sq) = 1:=by
  rw [sgR_sq (RR.sq_nonneg _) (RR.sq_nonneg _),RR.sq_sq h1,RR.sq_sq h2]
  refine sgR_pos ?_
  have e : x + RR.of 2 * u - (x + RR.of (-2) * u) = RR.of 4 * u:=by obtain ⟨f,hf,rfl⟩:=RR.rep u;obtain ⟨f2,hf2,rfl⟩:=RR.rep x;exact RR.ext fun n=>by grind
  rw [e];exact RR.mul_pos (RR.of_lt (p:=0) |>.2 (by decide)) hu
theorem stroke_sum {x u : RR} (h1 : 0 ≤ x + RR.of (-2) * u) (h2 : 0 ≤ x + RR.of 2 * u) : (x + RR.of (-2) * u).sq * (x + RR.of (-2) * u).sq + (x + RR.of 2 * u).sq * (x + RR.of 2 * u).sq = x + x ∧ (x + RR.of 2 * u).sq * (x + RR.of 2 * u).sq - (x + RR.of (-2) * u).sq * (x + RR.of (-2) * u).sq = RR.of 4 * u:=by
  rw [RR.sq_sq h1,RR.sq_sq h2]
  obtain ⟨f,hf,rfl⟩:=RR.rep u;obtain ⟨f2,hf2,rfl⟩:=RR.rep x
  exact ⟨RR.ext fun n=>by grind,RR.ext fun n=>by grind⟩
theorem first_nn {a b e c s : Rat} {D : RR} (ha : 0 ≤ a) (hb : 0 ≤ b) (h : rt a + rt (e * e) ≤ rt b) (hcs : c * c + s * s = 1) (h1 : -1 ≤ s) (h2 : s ≤ 1) (hD : 0 ≤ D) (hDD : D * D = radR a b e s) : 0 ≤ RR.of c * rt a + D:=by
  have hA:=rt_nn a
  rcases (Rat.le_total : 0 ≤ c ∨ c ≤ 0) with hc | hc
  · exact RR.add_nn (RR.mul_nn (RR.of_le (p:=0) |>.2 hc) hA) hD
  · have he:=abs_nn e
    have hE:=rt_nn (e * e)
    have he2 : rt (e * e) * rt (e * e) = RR.of (e * e):=by
      rcases rt_abs e with ⟨h1,h2⟩ | ⟨h1,h2⟩ <;> rw [h2,← RR.of_mul]
      congr 1;grind
    have hle : RR.of (-c) * rt a ≤ D:=by
      refine le_sqR (RR.mul_nn (RR.of_le (p:=0) |>.2 (by grind)) hA) hD ?_
      rw [hDD]
      rw [RR.le_iff_sub] at h
      have k1:=RR.mul_nn h (RR.add_nn h (RR.add_nn (RR.add_nn hA hA) (RR.add_nn hE hE)))
      have k2 : 0 ≤ rt a * (RR.of (1 + s) * (rt (e * e) + RR.of e) + RR.of (1 - s) * (rt (e * e) - RR.of e)):=RR.mul_nn hA (RR.add_nn (RR.mul_nn (RR.of_le (p:=0) |>.2 (by grind)) he.2) (RR.mul_nn (RR.of_le (p:=0) |>.2 (by grind)) he.1))
      have k:=RR.add_nn k1 k2
      have e1 : radR a b e s - RR.of (-c) * rt a * (RR.of (-c) * rt a) = (rt b - (rt a + rt (e * e))) * (rt b - (rt a + rt (e * e)) + (rt a + rt a + (rt (e * e) + rt (e * e)))) + rt a * (RR.of (1 + s) * (rt (e * e) + RR.of e) + RR.of (1 - s) * (rt (e * e) - RR.of e)):=by
        have hcc : c * c = 1 - s * s:=by grind
        have e2 : radR a b e s - RR.of (-c) * rt a * (RR.of (-c) * rt a) = RR.of (b - e * e) + RR.of (2 * (e * s)) * rt a - rt a * rt a:=by
          unfold radR
          generalize rt a = A
          obtain ⟨f,hf,rfl⟩:=RR.rep A
          exact RR.ext fun n=>by grind
        have e3 : (rt b - (rt a + rt (e * e))) * (rt b - (rt a + rt (e * e)) + (rt a + rt a + (rt (e * e) + rt (e * e)))) + rt a * (RR.of (1 + s) * (rt (e * e) + RR.of e) + RR.of (1 - s) * (rt (e * e) - RR.of e)) = rt b * rt b - rt a * rt a - rt (e * e) * rt (e * e) + RR.of (2 * (e * s)) * rt a:=by
          generalize rt a = A;generalize rt b = B;generalize rt (e * e) = E
          obtain ⟨f,hf,rfl⟩:=RR.rep A;obtain ⟨f2,hf2,rfl⟩:=RR.rep B;obtain ⟨f3,hf3,rfl⟩:=RR.rep E
          exact RR.ext fun n=>by grind
        rw [e2,e3,rt_sq hb,he2]
        generalize rt a = A
        obtain ⟨f,hf,rfl⟩:=RR.rep A
        exact RR.ext fun n=>by grind
      rw [e1];exact k
    rw [RR.le_iff_sub] at hle
    generalize rt a = A at *
    have : D - RR.of (-c) * A = RR.of c * A + D:=by obtain ⟨f,hf,rfl⟩:=RR.rep A;obtain ⟨f2,hf2,rfl⟩:=RR.rep D;exact RR.ext fun n=>by grind
    rw [this] at hle;exact hle
theorem first_in {a b e c s : Rat} {D : RR} (ha : 0 ≤ a) (hcs : c * c + s * s = 1) (hDD : D * D = radR a b e s) :
    0 ≤ RR.of (4 * (a * b)) - ((RR.of c * rt a + D) * (RR.of c * rt a + D) - RR.of (a + b - e * e)) * ((RR.of c * rt a + D) * (RR.of c * rt a + D) - RR.of (a + b - e * e)):=by
  have hcc : c * c = 1 - s * s:=by grind
  have hA:=rt_sq ha
  have e1 : (RR.of c * rt a + D) * (RR.of c * rt a + D) - RR.of (a + b - e * e) = RR.of 2 * (rt a * (RR.of c * D + RR.of s * (RR.of e - RR.of s * rt a))):=by
    have e2 : (RR.of c * rt a + D) * (RR.of c * rt a + D) - RR.of (a + b - e * e) = RR.of (c * c) * (rt a * rt a) + RR.of (2 * c) * (rt a * D) + D * D - RR.of (a + b - e * e):=by
      generalize rt a = A
      obtain ⟨f,hf,rfl⟩:=RR.rep A;obtain ⟨f2,hf2,rfl⟩:=RR.rep D
      exact RR.ext fun n=>by grind
    rw [e2,hDD]
    unfold radR
    have e3 : RR.of (c * c) * (rt a * rt a) + RR.of (2 * c) * (rt a * D) + (RR.of b - (RR.of e - RR.of s * rt a) * (RR.of e - RR.of s * rt a)) - RR.of (a + b - e * e) = RR.of 2 * (rt a * (RR.of c * D + RR.of s * (RR.of e - RR.of s * rt a))) + (rt a * rt a - RR.of a):=by
      generalize rt a = A
      obtain ⟨f,hf,rfl⟩:=RR.rep A;obtain ⟨f2,hf2,rfl⟩:=RR.rep D
      exact RR.ext fun n=>by grind
    rw [e3,hA,RR.sub_self,RR.add_zero]
  rw [e1]
  have e4 : RR.of (4 * (a * b)) - RR.of 2 * (rt a * (RR.of c * D + RR.of s * (RR.of e - RR.of s * rt a))) * (RR.of 2 * (rt a * (RR.of c * D + RR.of s * (RR.of e - RR.of s * rt a)))) = RR.of (4 * a) * ((RR.of c * (RR.of e - RR.of s * rt a) - RR.of s * D) * (RR.of c * (RR.of e - RR.of s * rt a) - RR.of s * D)):=by
    have e5 : RR.of 2 * (rt a * (RR.of c * D + RR.of s * (RR.of e - RR.of s * rt a))) * (RR.of 2 * (rt a * (RR.of c * D + RR.of s * (RR.of e - RR.of s * rt a)))) = RR.of 4 * (rt a * rt a) * ((RR.of c * D + RR.of s * (RR.of e - RR.of s * rt a)) * (RR.of c * D + RR.of s * (RR.of e - RR.of s * rt a))):=by
      generalize rt a = A
      obtain ⟨f,hf,rfl⟩:=RR.rep A;obtain ⟨f2,hf2,rfl⟩:=RR.rep D
      exact RR.ext fun n=>by grind
    have e6 : (RR.of c * D + RR.of s * (RR.of e - RR.of s * rt a)) * (RR.of c * D + RR.of s * (RR.of e - RR.of s * rt a)) = RR.of b - (RR.of c * (RR.of e - RR.of s * rt a) - RR.of s * D) * (RR.of c * (RR.of e - RR.of s * rt a) - RR.of s * D):=by
      have e7 : (RR.of c * D + RR.of s * (RR.of e - RR.of s * rt a)) * (RR.of c * D + RR.of s * (RR.of e - RR.of s * rt a)) + (RR.of c * (RR.of e - RR.of s * rt a) - RR.of s * D) * (RR.of c * (RR.of e - RR.of s * rt a) - RR.of s * D) = D * D + (RR.of e - RR.of s * rt a) * (RR.of e - RR.of s * rt a):=by
        generalize RR.of e - RR.of s * rt a = g
        obtain ⟨f,hf,rfl⟩:=RR.rep g;obtain ⟨f2,hf2,rfl⟩:=RR.rep D
        exact RR.ext fun n=>by grind
      rw [hDD] at e7
      unfold radR at e7
      generalize (RR.of c * D + RR.of s * (RR.of e - RR.of s * rt a)) * (RR.of c * D + RR.of s * (RR.of e - RR.of s * rt a)) = Z1 at *
      generalize (RR.of c * (RR.of e - RR.of s * rt a) - RR.of s * D) * (RR.of c * (RR.of e - RR.of s * rt a) - RR.of s * D) = Z2 at *
      generalize (RR.of e - RR.of s * rt a) * (RR.of e - RR.of s * rt a) = Z3 at *
      have e8 : Z1 = Z1 + Z2 - Z2:=by rw [RR.add_sub]
      rw [e8,e7,RR.sub_add]
    rw [e5,e6,hA]
    generalize (RR.of c * (RR.of e - RR.of s * rt a) - RR.of s * D) * (RR.of c * (RR.of e - RR.of s * rt a) - RR.of s * D) = Z2
    obtain ⟨f,hf,rfl⟩:=RR.rep Z2
    exact RR.ext fun n=>by grind
  rw [e4]
  exact RR.mul_nn (RR.of_le (p:=0) |>.2 (by grind)) (RR.sq_nn _)
end Go.Proofs.YtnjbcjmkkejfpaaGreat
set_option linter.unusedVariables false
set_option linter.unusedSimpArgs false
set_option maxHeartbeats 4000000
set_option maxRecDepth 100000
set_option synthInstance.maxSize 100000
set_option synthInstance.maxHeartbeats 400000
namespace Go.Proofs.YtnjbcjmkkejfpaaGreat
open Go.RowKit (Below)
attribute [local irreducible] Go.Code.wp Go.wpList Go.bodyPost
private theorem gS_ {W0 : World} {G0 : Gh} {N : Nat} {L : List (Nat × MT)} {B : List BX} {a : Act} {w : World} {G : Gh} {q : Prop} (h : St W0 G0 N L B a w G → q) : St W0 G0 N L B a w G → q:=h
private theorem gL_ {p : Prop} {P : Program} {arr : Array Oper} {Q : Exit → Act → World → Prop} {l : List Oper} {a : Act} {w : World} (h : p → wpList P arr Q l a w) : p → wpList P arr Q l a w:=h
private theorem gC_ {p : Prop} {P : Program} {c : Code} {Q : Exit → Act → World → Prop} {a : Act} {w : World} (h : p → c.wp P Q a w) : p → c.wp P Q a w:=h
private theorem mixedOrders : Tryz.prog.follows .mixedOrders = true:=by kernel_rfl
theorem tB3 {N r : Nat} : tB 3 N r = 42 * N + 54 * r + 41:=by simp only [tB];omega
theorem sB3e {n r : Nat} : sB 3 n r = 4032 * n + 2617 * r + 1989:=by simp only [sB,tB];omega
section
variable {a b e : FR}
theorem slT_r {p x : Rat} : vlL [[p],[x,-2],[x,2,0,0]] [x,-2] = RR.of x + RR.of (-2) * rt p ∧ vlL [[p],[x,-2],[x,2,0,0]] [x,2,0,0] = RR.of x + RR.of 2 * rt p:=by
  constructor
  · rw [El.vl_at (k:=1) (l:=[x,-2]) (by decide) (Nat.le_refl 2)];rfl
  · rw [El.vl_at (k:=2) (l:=[x,2,0,0]) (by decide) (Nat.le_refl 4)]
    show (RR.of x + RR.of 2 * rt p) + (RR.of 0 + RR.of 0 * rt p) * _ = _
    rw [show RR.of 0 = (0 : RR) from rfl,RR.zero_mul,RR.add_zero,RR.zero_mul,RR.add_zero]
theorem slT_v {p x : Rat} : vlL [[p],[x,-2],[x,2,0,0]] inL = (RR.of x + RR.of (-2) * rt p).sq ∧ vlL [[p],[x,-2],[x,2,0,0]] ouL8 = (RR.of x + RR.of 2 * rt p).sq ∧ vlL [[p],[x,-2],[x,2,0,0]] stL = (RR.of x + RR.of 2 * rt p).sq - (RR.of x + RR.of (-2) * rt p).sq:=by
  have z0 : RR.of 0 = (0 : RR):=rfl
  have z1 : RR.of 1 = (1 : RR):=rfl
  refine ⟨?_,?_,?_⟩
  · rw [El.vl_at (k:=2) (l:=inL) (by decide) (Nat.le_refl 4)]
    show (RR.of 0 + RR.of 0 * rt p) + (RR.of 1 + RR.of 0 * rt p) * (RR.of x + RR.of (-2) * rt p).sq = _
    rw [z0,z1,RR.zero_mul,RR.add_zero,RR.add_zero,RR.zero_add,RR.one_mul]
  · unfold ouL8;rw [vl3,z0,z1]
    simp only [RR.zero_mul,RR.add_zero,RR.zero_add,RR.one_mul]
  · unfold stL;rw [vl3,z0,z1,show RR.of (-1) = -(1 : RR) from rfl]
    simp only [RR.zero_mul,RR.add_zero,RR.zero_add,RR.one_mul,RR.neg_mul]
    rw [RR.add_comm];rfl
theorem slT_ok (hc : slC a b e = 0) (hf : slF a b e = true) : TOK (slT a b e):=by
  have hp:=sl_pos hc
  have hle:=(sl_full_iff hc).1 hf
  have d1:=dead_nn (Rat.le_of_lt hp.1) (Rat.le_of_lt hp.2) hle
  have d2:=dead_out (Rat.le_of_lt hp.1) (Rat.le_of_lt hp.2) hle
  unfold slT slQ
  refine ⟨show 3 ≤ 5 by decide,fun j hj=>?_,fun j hj=>?_⟩
  · match j,hj with
    | 0,_=>rfl
    | 1,_=>rfl
    | 2,_=>rfl
  · match j,hj with
    | 0,_ =>
      show 0 ≤ vlL _ [a.val * b.val]
      rw [vlc]
      exact RR.of_le (p:=0) |>.2 (Rat.mul_nonneg (Rat.le_of_lt hp.1) (Rat.le_of_lt hp.2))
    | 1,_=>show 0 ≤ vlL _ [_,-2];rw [slT_r.1];exact d1
    | 2,_=>show 0 ≤ vlL _ [_,2,0,0];rw [slT_r.2];exact d2
theorem sk_1 (hc : slC a b e = 0) (hf : slF a b e = true) : sgL (slT a b e) stL = 1 ∧ 0 ≤ sgL (slT a b e) inL ∧ sgL (slT a b e) (plusF ouL8 (minusF inL)) = 1:=by
  have hp:=sl_pos hc
  have hle:=(sl_full_iff hc).1 hf
  have d1:=dead_nn (Rat.le_of_lt hp.1) (Rat.le_of_lt hp.2) hle
  have d2:=dead_out (Rat.le_of_lt hp.1) (Rat.le_of_lt hp.2) hle
  have hu:=rt_pos (Rat.mul_pos hp.1 hp.2)
  have hs:=stroke_pos d1 d2 hu
  unfold slT slQ sgL
  rw [vlL_plus,vlL_minus,slT_v.1,slT_v.2.1,slT_v.2.2]
  exact ⟨hs,sgR_nn.2 (RR.sq_nonneg _),hs⟩
theorem tm_v {R : List (List Rat)} (hT : TOK R) {x y : List Rat} (hx : PW R.length x) (hy : PW R.length y) : vlL R (shoF (tmF R x y)) = vlL R x * vlL R y ∧ PW R.length (shoF (tmF R x y)):=by
  have p:=PW.tm hT.2.1 (Nat.le_refl _) hx hy
  exact ⟨by rw [vlL_sho hT.1 p,vlL_tm hT hx hy],sho_pw hT.1 p⟩
theorem pl_v {R : List (List Rat)} (hT : TOK R) {x y : List Rat} (hx : PW R.length x) (hy : PW R.length y) : vlL R (shoF (plusF x y)) = vlL R x + vlL R y ∧ PW R.length (shoF (plusF x y)):=by
  have p:=hx.plus hy
  exact ⟨by rw [vlL_sho hT.1 p,vlL_plus],sho_pw hT.1 p⟩
theorem pwi : PW 3 inL:=.inr ⟨2,by decide,rfl⟩
theorem pwo : PW 3 ouL8:=.inr ⟨3,by decide,rfl⟩
theorem sk_2 (hc : slC a b e = 0) (hf : slF a b e = true) : sgL (slT a b e) (plusF (shoF (plusF (shoF (tmF (slT a b e) inL inL)) (shoF (tmF (slT a b e) ouL8 ouL8)))) (minusF [a.val + b.val - e.val * e.val + (a.val + b.val - e.val * e.val)])) = 0 ∧
    sgL (slT a b e) (plusF (shoF (plusF (shoF (tmF (slT a b e) ouL8 ouL8)) (minusF (shoF (tmF (slT a b e) inL inL))))) (minusF (shoF (tmF (slT a b e) [4] (rooF 0))))) = 0:=by
  have hT:=slT_ok hc hf
  have hp:=sl_pos hc
  have hle:=(sl_full_iff hc).1 hf
  have d1:=dead_nn (Rat.le_of_lt hp.1) (Rat.le_of_lt hp.2) hle
  have d2:=dead_out (Rat.le_of_lt hp.1) (Rat.le_of_lt hp.2) hle
  have hs:=stroke_sum d1 d2
  have l3 : (slT a b e).length = 3:=rfl
  have i2:=tm_v hT (l3.symm ▸ pwi) (l3.symm ▸ pwi)
  have o2:=tm_v hT (l3.symm ▸ pwo) (l3.symm ▸ pwo)
  have f4:=tm_v hT (x:=[4]) (y:=rooF 0) pw1k (l3.symm ▸ pw_rot (by decide))
  have v1 : vlL (slT a b e) inL = (RR.of (a.val + b.val - e.val * e.val) + RR.of (-2) * rt (a.val * b.val)).sq:=slT_v.1
  have v2 : vlL (slT a b e) ouL8 = (RR.of (a.val + b.val - e.val * e.val) + RR.of 2 * rt (a.val * b.val)).sq:=slT_v.2.1
  have v3 : vlL (slT a b e) (rooF 0) = rt (a.val * b.val):=vl_r0
  constructor
  · unfold sgL
    rw [vlL_plus,vlL_minus,(pl_v hT i2.2 o2.2).1,i2.1,o2.1,v1,v2,hs.1,vlc,RR.of_add,RR.add_neg];exact sgR_zero
  · unfold sgL
    rw [vlL_plus,vlL_minus,(pl_v hT o2.2 i2.2.minus).1,vlL_minus,i2.1,o2.1,f4.1,v1,v2,v3,vlc]
    have hs2 : (RR.of (a.val + b.val - e.val * e.val) + RR.of 2 * rt (a.val * b.val)).sq * (RR.of (a.val + b.val - e.val * e.val) + RR.of 2 * rt (a.val * b.val)).sq + -((RR.of (a.val + b.val - e.val * e.val) + RR.of (-2) * rt (a.val * b.val)).sq * (RR.of (a.val + b.val - e.val * e.val) + RR.of (-2) * rt (a.val * b.val)).sq) = RR.of 4 * rt (a.val * b.val):=hs.2
    rw [hs2,RR.add_neg];exact sgR_zero
end
section
variable {xa xb xe : Rat} {t : FR} {h : Bool}
theorem sl_first (hc : slC (FR.of xa) (FR.of xb) (FR.of xe) = 0) (ht : trnF h t = true) (h0 : slE (FR.of xa) (FR.of xb) (FR.of xe) h t = 0) : ∃ D : RR,0 ≤ D ∧ D * D = radR xa xb xe (dirS h t.val) ∧ vlL (slR (FR.of xa) (FR.of xb) (FR.of xe) h t) ((slL (FR.of xa) (FR.of xb) (FR.of xe) h t).getD 0 default) = RR.of (dirC h t.val) * rt xa + D:=by
  rcases sl_two hc ht h0 with ⟨_,k2,k3,k4⟩ | ⟨_,k2,k3,k4,k5⟩
  · rw [k3,k4]
    exact ⟨0,RR.le_refl 0,by rw [k2,RR.mul_zero],by rw [RR.add_zero];exact vl_0c⟩
  · rw [k3,k4]
    refine ⟨(radR xa xb xe (dirS h t.val)).sq,RR.sq_nonneg _,RR.sq_sq (RR.le_of_lt k2),?_⟩
    show vlL _ [0,dirC h t.val,1,0] = _
    rw [vl_p,k5,show RR.of 1 = (1 : RR) from rfl,RR.one_mul]
theorem sk_3 (hc : slC (FR.of xa) (FR.of xb) (FR.of xe) = 0) (hf : slF (FR.of xa) (FR.of xb) (FR.of xe) = true) (ht : trnF h t = true) : 0 ≤ sgL (slR (FR.of xa) (FR.of xb) (FR.of xe) h t) ((slL (FR.of xa) (FR.of xb) (FR.of xe) h t).getD 0 default) ∧
    sgL (slR (FR.of xa) (FR.of xb) (FR.of xe) h t) (plusF (shoF (tmF (slR (FR.of xa) (FR.of xb) (FR.of xe) h t) (shoF (plusF (shoF (tmF (slR (FR.of xa) (FR.of xb) (FR.of xe) h t) ((slL (FR.of xa) (FR.of xb) (FR.of xe) h t).getD 0 default) ((slL (FR.of xa) (FR.of xb) (FR.of xe) h t).getD 0 default))) (minusF [xa + xb - xe * xe]))) (shoF (plusF (shoF (tmF (slR (FR.of xa) (FR.of xb) (FR.of xe) h t) ((slL (FR.of xa) (FR.of xb) (FR.of xe) h t).getD 0 default) ((slL (FR.of xa) (FR.of xb) (FR.of xe) h t).getD 0 default))) (minusF [xa + xb - xe * xe]))))) (minusF [4 * (xa * xb)])) ≤ 0:=by
  have h0:=sl_full_e hc hf ht
  have hp:=sl_pos hc
  have hle:=(sl_full_iff hc).1 hf
  simp only [FR.of_val] at hp hle
  have v:=sl_vals hc ht h0
  have pw:=(v.2.2.2 0 (slL_pos h0)).1
  obtain ⟨D,hD,hDD,hv⟩:=sl_first hc ht h0
  have sn:=sin_rng (h:=h) (t:=t.val)
  have n1:=first_nn (Rat.le_of_lt hp.1) (Rat.le_of_lt hp.2) hle dir_one sn.1 sn.2 hD hDD
  have n2:=first_in (Rat.le_of_lt hp.1) dir_one hDD
  have q1:=tm_v v.1 pw pw
  have q2:=pl_v v.1 q1.2 (PW.minus (pw1k (x:=xa + xb - xe * xe)))
  have q3:=tm_v v.1 q2.2 q2.2
  constructor
  · unfold sgL;rw [hv];exact sgR_nn.2 n1
  · unfold sgL
    rw [vlL_plus,vlL_minus,q3.1,q2.1,q1.1,vlL_minus,vlc,vlc,hv]
    rw [← RR.sub_def,← RR.sub_def,sgR_le,RR.le_iff_sub]
    exact n2
end
theorem sk_4 {a b e t : FR} {h : Bool} (ha : ∃ x, a = FR.of x) (hb : ∃ x, b = FR.of x) (he : ∃ x, e = FR.of x) (hc : slC a b e = 0) (hf : slF a b e = true) (ht : trnF h t = true) : 0 ≤ sgL (slR a b e h t) ((slL a b e h t).getD 0 default) ∧
    sgL (slR a b e h t) (plusF (shoF (tmF (slR a b e h t) (shoF (plusF (shoF (tmF (slR a b e h t) ((slL a b e h t).getD 0 default) ((slL a b e h t).getD 0 default))) (minusF [a.val + b.val - e.val * e.val]))) (shoF (plusF (shoF (tmF (slR a b e h t) ((slL a b e h t).getD 0 default) ((slL a b e h t).getD 0 default))) (minusF [a.val + b.val - e.val * e.val]))))) (minusF [4 * (a.val * b.val)])) ≤ 0 ∧
    TOK (slR a b e h t) ∧ ((slR a b e h t).length = 1 ∨ (slR a b e h t).length = 2) ∧ PW (slR a b e h t).length ((slL a b e h t).getD 0 default):=by
  obtain ⟨xa,rfl⟩:=ha;obtain ⟨xb,rfl⟩:=hb;obtain ⟨xe,rfl⟩:=he
  have h0:=sl_full_e hc hf ht
  have k:=sk_3 hc hf ht
  have v:=sl_vals hc ht h0
  have l:=sl_len hc ht h0
  simp only [FR.of_val]
  refine ⟨k.1,k.2,v.1,?_,(v.2.2.2 0 (slL_pos h0)).1⟩
  by_cases hs : slS (FR.of xa) (FR.of xb) (FR.of xe) h t.val = 0
  · exact .inl (l.1 hs).1
  · exact .inr (l.2 hs).1
attribute [local irreducible] plusF minusF joinF levI lev PW RLN tB sB timesF stepF tmF normF shoF TOK sgL surdsF surdF trnC trnF dirC dirS slC slE slS slF slEC slR slL slT slEL slET slX slY slH slHC shortF rooF radR
instance gTS9_8_2 : GcT 8 2 false 2 [3,4,47,48,49,50,51,52,53,54,55,56,57,58,59,60,61,62,63,64]:=⟨⟩
instance gTS9_8_3 : GcT 8 3 false 4 [47,48,49,50,51,52,53,54,55,56,57,58,59,60,61,62,63,64]:=⟨⟩
instance gTS9_8_4 : GcT 8 4 false 66 [67,68,69,70,71,72]:=⟨⟩
instance gTS9_8_5 : GcT 8 5 false 73 [74,75,76,77,78]:=⟨⟩
instance gTS9_8_7 : GcT 8 7 false 2 [3,5,6,7,8,9,10,11,12,13,79,80,81,82,83,84,85,86,87,88,89,90,91,92,93,94,95,96,97]:=⟨⟩
instance gTS9_8_8 : GcT 8 8 false 8 [11,13,79,80,81,82,83,84,85,86,87,88,89,90,91,92,93,94,95,96,97]:=⟨⟩
instance gTS9_8_9 : GcT 8 9 false 2 [3,5,6,7,9,10,12,98,99]:=⟨⟩
instance gTS9_8_11 : GcT 8 11 false 9 [10,12,98,99,100,101,102,103,104,105]:=⟨⟩
instance gTS9_8_12 : GcT 8 12 false 106 [107,108,109,110,111]:=⟨⟩
instance gTS9_8_13 : GcT 8 13 false 112 [113,114,115,116,117,118]:=⟨⟩
instance gTS9_8_14 : GcT 8 14 false 2 [3,5,6,7,14,15,16,17,18,19,119,120,121,122,123,124,125,126,127,128,129,130,131,132,133,134,135,136,137,138,139,140]:=⟨⟩
instance gTS9_8_15 : GcT 8 15 false 14 [15,16,17,18,19,119,120,121,122,123,124,125,126,127,128,129,130,131,132,133,134,135,136,137,138,139,140]:=⟨⟩
instance gTS9_8_16 : GcT 8 16 false 6 [141,142,143,144,145,146,147]:=⟨⟩
instance gTS9_8_17 : GcT 8 17 false 7 [148,149,150,151,152,153,154]:=⟨⟩
instance gTS9_8_18 : GcT 8 18 false 155 [156,157,158,159,160,161]:=⟨⟩
instance gTS9_8_19 : GcT 8 19 false 20 [21,162,163,164,165,166,167,168]:=⟨⟩
instance gTS9_8_21 : GcT 8 21 false 25 [169,170,171,172,173,174,175,176,177,178,179,180,181]:=⟨⟩
instance gTS9_8_22 : GcT 8 22 false 2 [3,5,15,17,19,22,23,24,26,27,28,182,183,184,185,186,187,188,189,190,191,192,193,194,195,196,197,198,199,200,201,202,203]:=⟨⟩
instance gTS9_8_23 : GcT 8 23 false 15 [17,19,24,26,28,182,183,184,185,186,187,188,189,190,191,192,193,194,195,196,197,198,199,200,201,202,203]:=⟨⟩
instance gTS9_8_24 : GcT 8 24 false 204 [205,206,207,208,209,210,211,212,213,214]:=⟨⟩
instance gTS9_8_25 : GcT 8 25 false 22 [215,216,217,218,219,220,221,222,223,224]:=⟨⟩
instance gTS9_8_26 : GcT 8 26 false 5 [23,27,225,226,227,228,229,230,231]:=⟨⟩
instance gTS9_8_27 : GcT 8 27 false 2 [3,29,30,31,32,33,232,233,234,235,236,237,238,239,240,241,242,243,244,245]:=⟨⟩
instance gTS9_8_28 : GcT 8 28 false 30 [31,32,33,232,233,234,235,236,237,238,239,240,241,242,243,244,245]:=⟨⟩
instance gTS9_8_29 : GcT 8 29 false 3 [246,247,248,249,250,251,252]:=⟨⟩
instance gTS9_8_30 : GcT 8 30 false 2 [29,34,35,36,253,254,255,256,257,258,259]:=⟨⟩
instance gTS9_8_31 : GcT 8 31 false 36 [253,254,255,256,257,258,259]:=⟨⟩
instance gTS9_8_32 : GcT 8 32 false 260 [261,262,263,264,265,266,267]:=⟨⟩
instance gTS9_8_33 : GcT 8 33 false 35 [268,269,270,271,272,273,274,275,276,277,278]:=⟨⟩
instance gTS9_8_34 : GcT 8 34 false 29 [39,279,280,281,282,283,284,285,286]:=⟨⟩
instance gTS9_8_35 : GcT 8 35 false 41 [287,288,289,290,291,292,293]:=⟨⟩
instance gTS9_8_36 : GcT 8 36 false 2 [34,43,294,295,296,297,298,299,300,301,302,303,304,305,306,307]:=⟨⟩
theorem shortSliderStrokeB {ra rb re t : FR} {h : Bool} : Con Tryz.prog 8 [PTS [(some 3,FX 64 ra),(some 3,FX 64 rb),(some 3,FX 64 re)],TRN 64 t h] (shortF [ra,rb,re,t] = true ∧ (slC ra rb re ≠ 0)) (BT true):=.o2 fun hok h1 h2 hp=>by
  refine St.enter (N:=334) Tryz.func8 rfl rfl rfl hok (enter2 h1 h2) fun a=>?_
  have e0:=hp.1
  have e1:=hp.2
  repeat' (first|((with_reducible refine gS_ ?_);first|((with_reducible refine gL_ ?_);first|refine W.run ?_ fun a w G=>?_|refine W.mv fun a w G=>?_|refine W.asg fun a w G=>?_|refine W.bx fun b a w G=>?_|(refine W.nn hK ?_;clear hK K)|refine W.nl ?_|refine W.al fun b a w G=>?_|refine W.st fun w=>?_|refine W.stp fun w=>?_|refine W.ste ?_ fun w=>?_)|((with_reducible refine gC_ ?_);first|with_reducible refine W.cbt (by first|assumption|(simp [e0,e1];done)|fail) ?_|with_reducible refine W.cbf (by first|assumption|(simp [e0,e1];done)|fail) ?_|with_reducible refine W.gcc 8 ?_|with_reducible refine W.gcd 8 ?_|refine W.reg fun K hK=>?_|refine W.reg1 ?_|refine W.sq fun K hK=>?_|refine W.ds ?_ (fun β a w G hu=>W.fin ?_ hu) mixedOrders (by kernel_rfl)|refine W.sk ?_|refine W.cd (fun hc=>?_) (fun hc=>?_)|refine W.cb (fun hc=>?_) (fun hc=>?_)|refine W.bl ?_|refine W.ex ?_|refine W.rt ?_)|((with_reducible refine W.kn hK ?_);clear hK K)|(with_reducible first|refine W.bn ?_|refine W.xt ?_|refine W.xb ?_|refine W.xo ?_|refine W.tr ?_|refine W.br ?_)|refine W.rt1 rfl ?_|refine W.rt2 rfl ?_ ?_|refine W.rt3 rfl ?_ ?_ ?_)|clear hK K|clear hu|exact True.intro|exact Nat.le_trans (by clear hp;omega) hp|exact Nat.le_trans (by clear hp;omega) hp.1|exact Nat.le_trans (by clear hp;omega) hp.2|(clear hp;omega)|apply And.intro|refine GI.i fun _=>?_|with_reducible rfl|decide|(simp only [List.length_cons,List.length_nil];omega))
  all_goals first
    | omega
    | (simp [e0,e1];done)
    | exact e1
    | exact e2
    | rfl
    | skip
theorem shortSliderStrokeC {ra rb re t : FR} {h : Bool} : Con Tryz.prog 8 [PTS [(some 3,FX 64 ra),(some 3,FX 64 rb),(some 3,FX 64 re)],TRN 64 t h] (shortF [ra,rb,re,t] = true ∧ (slC ra rb re = 0 ∧ trnF h t = false)) (BT true):=.o2 fun hok h1 h2 hp=>by
  refine St.enter (N:=334) Tryz.func8 rfl rfl rfl hok (enter2 h1 h2) fun a=>?_
  have e0:=hp.1
  have e1:=hp.2.1
  have e2:=hp.2.2
  repeat' (first|((with_reducible refine gS_ ?_);first|((with_reducible refine gL_ ?_);first|refine W.run ?_ fun a w G=>?_|refine W.mv fun a w G=>?_|refine W.asg fun a w G=>?_|refine W.bx fun b a w G=>?_|(refine W.nn hK ?_;clear hK K)|refine W.nl ?_|refine W.al fun b a w G=>?_|refine W.st fun w=>?_|refine W.stp fun w=>?_|refine W.ste ?_ fun w=>?_)|((with_reducible refine gC_ ?_);first|with_reducible refine W.cbt (by first|assumption|(simp [e0,e1,e2];done)|fail) ?_|with_reducible refine W.cbf (by first|assumption|(simp [e0,e1,e2];done)|fail) ?_|with_reducible refine W.gcc 8 ?_|with_reducible refine W.gcd 8 ?_|refine W.reg fun K hK=>?_|refine W.reg1 ?_|refine W.sq fun K hK=>?_|refine W.ds ?_ (fun β a w G hu=>W.fin ?_ hu) mixedOrders (by kernel_rfl)|refine W.sk ?_|refine W.cd (fun hc=>?_) (fun hc=>?_)|refine W.cb (fun hc=>?_) (fun hc=>?_)|refine W.bl ?_|refine W.ex ?_|refine W.rt ?_)|((with_reducible refine W.kn hK ?_);clear hK K)|(with_reducible first|refine W.bn ?_|refine W.xt ?_|refine W.xb ?_|refine W.xo ?_|refine W.tr ?_|refine W.br ?_)|refine W.rt1 rfl ?_|refine W.rt2 rfl ?_ ?_|refine W.rt3 rfl ?_ ?_ ?_)|clear hK K|clear hu|exact True.intro|exact Nat.le_trans (by clear hp;omega) hp|exact Nat.le_trans (by clear hp;omega) hp.1|exact Nat.le_trans (by clear hp;omega) hp.2|(clear hp;omega)|apply And.intro|refine GI.i fun _=>?_|with_reducible rfl|decide|(simp only [List.length_cons,List.length_nil];omega))
  all_goals first
    | omega
    | (simp [e0,e1,e2];done)
    | exact e1
    | exact e2
    | rfl
    | skip
theorem shortSliderStrokeD {ra rb re t : FR} {h : Bool} : Con Tryz.prog 8 [PTS [(some 3,FX 64 ra),(some 3,FX 64 rb),(some 3,FX 64 re)],TRN 64 t h] (shortF [ra,rb,re,t] = true ∧ (slC ra rb re = 0 ∧ trnF h t = true ∧ slF ra rb re = false)) (BT true):=.o2 fun hok h1 h2 hp=>by
  refine St.enter (N:=334) Tryz.func8 rfl rfl rfl hok (enter2 h1 h2) fun a=>?_
  have e0:=hp.1
  have e1:=hp.2.1
  have e2:=hp.2.2.1
  have e3:=hp.2.2.2
  have e4:=slec_16 (fun k=>k e1) e3
  repeat' (first|((with_reducible refine gS_ ?_);first|((with_reducible refine gL_ ?_);first|refine W.run ?_ fun a w G=>?_|refine W.mv fun a w G=>?_|refine W.asg fun a w G=>?_|refine W.bx fun b a w G=>?_|(refine W.nn hK ?_;clear hK K)|refine W.nl ?_|refine W.al fun b a w G=>?_|refine W.st fun w=>?_|refine W.stp fun w=>?_|refine W.ste ?_ fun w=>?_)|((with_reducible refine gC_ ?_);first|with_reducible refine W.cbt (by first|assumption|(simp [e0,e1,e2,e3,e4];done)|fail) ?_|with_reducible refine W.cbf (by first|assumption|(simp [e0,e1,e2,e3,e4];done)|fail) ?_|with_reducible refine W.gcc 8 ?_|with_reducible refine W.gcd 8 ?_|refine W.reg fun K hK=>?_|refine W.reg1 ?_|refine W.sq fun K hK=>?_|refine W.ds ?_ (fun β a w G hu=>W.fin ?_ hu) mixedOrders (by kernel_rfl)|refine W.sk ?_|refine W.cd (fun hc=>?_) (fun hc=>?_)|refine W.cb (fun hc=>?_) (fun hc=>?_)|refine W.bl ?_|refine W.ex ?_|refine W.rt ?_)|((with_reducible refine W.kn hK ?_);clear hK K)|(with_reducible first|refine W.bn ?_|refine W.xt ?_|refine W.xb ?_|refine W.xo ?_|refine W.tr ?_|refine W.br ?_)|refine W.rt1 rfl ?_|refine W.rt2 rfl ?_ ?_|refine W.rt3 rfl ?_ ?_ ?_)|clear hK K|clear hu|exact True.intro|exact Nat.le_trans (by clear hp;omega) hp|exact Nat.le_trans (by clear hp;omega) hp.1|exact Nat.le_trans (by clear hp;omega) hp.2|(clear hp;omega)|apply And.intro|refine GI.i fun _=>?_|with_reducible rfl|decide|(simp only [List.length_cons,List.length_nil];omega))
  all_goals first
    | omega
    | (simp [e0,e1,e2,e3,e4];done)
    | exact e1
    | exact e2
    | rfl
    | skip
theorem fr_ex {n : Nat} {a b e : FR} {v : Value} {G : Gh} (h : (PTS [(some 3,FX n a),(some 3,FX n b),(some 3,FX n e)]).t v G) (hc : slC a b e = 0) : (∃ x,a = FR.of x) ∧ (∃ x,b = FR.of x) ∧ (∃ x,e = FR.of x):=⟨(sld_self h).1 (sl_oks hc).1,(sld_self h).2.1 (sl_oks hc).2.1,(sld_self h).2.2 (sl_oks hc).2.2⟩
theorem slT_len {a b e : FR} : (slT a b e).length = 3:=by unfold slT;rfl
theorem pw3 {a b e : FR} {l : List Rat} (h : PW 3 l) : PW (slT a b e).length l:=by rw [slT_len];exact h
theorem pwst : PW 3 stL:=pw8 rfl
theorem dec_ge {z : Int} (h : 0 ≤ z) : decide (z < 0) = false:=decide_eq_false (by omega)
theorem shortSliderStrokeE {ra rb re t : FR} {h : Bool} : Con Tryz.prog 8 [PTS [(some 3,FX 64 ra),(some 3,FX 64 rb),(some 3,FX 64 re)],TRN 64 t h] (shortF [ra,rb,re,t] = true ∧ (slC ra rb re = 0 ∧ trnF h t = true ∧ slF ra rb re = true)) (BT true):=.o2 fun hok h1 h2 hp=>by
  refine St.enter (N:=334) Tryz.func8 rfl rfl rfl hok (enter2 h1 h2) fun a=>?_
  have e0:=hp.1
  have e1:=hp.2.1
  have e2:=hp.2.2.1
  have e3:=hp.2.2.2
  have e4:=slec_0 (fun k=>k e1) e3
  have e5:=(slec_y (l:=[]) e4).1
  have e5b:=fun l=>(slec_y (a:=ra) (b:=rb) (e:=re) (l:=l) e4).2
  have e6:=slT_ok e1 e3
  have e7:=(sk_1 e1 e3).1
  have e8:=(sk_1 e1 e3).2.1
  have e9:=(sk_1 e1 e3).2.2
  have ea:=(sk_2 e1 e3).1
  have eb:=(sk_2 e1 e3).2
  have ec:=sl_full_e e1 e3 e2
  have kf:=fr_ex h1 e1
  have k4:=sk_4 kf.1 kf.2.1 kf.2.2 e1 e3 e2
  have ed:=dec_ge e8
  have ee:=dec_ge k4.1
  have ef:=slL_pos ec
  repeat' (first|((with_reducible refine gS_ ?_);first|((with_reducible refine gL_ ?_);first|refine W.run ?_ fun a w G=>?_|refine W.mv fun a w G=>?_|refine W.asg fun a w G=>?_|refine W.bx fun b a w G=>?_|(refine W.nn hK ?_;clear hK K)|refine W.nl ?_|refine W.al fun b a w G=>?_|refine W.st fun w=>?_|refine W.stp fun w=>?_|refine W.ste ?_ fun w=>?_)|((with_reducible refine gC_ ?_);first|with_reducible refine W.cbt (by first|assumption|(simp [e0,e1,e2,e3,e4,e5,e5b,e7,e9,ea,eb,ec,ed,ee,ef];done)|fail) ?_|with_reducible refine W.cbf (by first|assumption|(simp [e0,e1,e2,e3,e4,e5,e5b,e7,e9,ea,eb,ec,ed,ee,ef];done)|fail) ?_|with_reducible refine W.gcc 8 ?_|with_reducible refine W.gcd 8 ?_|refine W.reg fun K hK=>?_|refine W.reg1 ?_|refine W.sq fun K hK=>?_|refine W.ds ?_ (fun β a w G hu=>W.fin ?_ hu) mixedOrders (by kernel_rfl)|refine W.sk ?_|refine W.cd (fun hc=>?_) (fun hc=>?_)|refine W.cb (fun hc=>?_) (fun hc=>?_)|refine W.bl ?_|refine W.ex ?_|refine W.rt ?_)|((with_reducible refine W.kn hK ?_);clear hK K)|(with_reducible first|refine W.bn ?_|refine W.xt ?_|refine W.xb ?_|refine W.xo ?_|refine W.tr ?_|refine W.br ?_)|refine W.rt1 rfl ?_|refine W.rt2 rfl ?_ ?_|refine W.rt3 rfl ?_ ?_ ?_)|clear hK K|clear hu|exact True.intro|exact Nat.le_trans (by clear hp;omega) hp|exact Nat.le_trans (by clear hp;omega) hp.1|exact Nat.le_trans (by clear hp;omega) hp.2|(clear hp;omega)|apply And.intro|refine GI.i fun _=>?_|with_reducible rfl|decide|(simp only [List.length_cons,List.length_nil];omega))
  all_goals (try simp only [e5,e5b])
  all_goals first
    | omega
    | (simp [e0,e1,e2,e3,e4,e5,e5b,e7,e9,ea,eb,ec,ed,ee,ef];done)
    | exact e1
    | exact e2
    | rfl
    | exact e6
    | exact pw3 pwi
    | exact pw3 pwo
    | exact pw3 pwst
    | exact pw1k
    | exact pw3 (pw_rot (by decide))
    | (rw [slT_len];decide)
    | exact (tm_v e6 (pw3 pwi) (pw3 pwi)).2
    | exact (tm_v e6 (pw3 pwo) (pw3 pwo)).2
    | exact (tm_v e6 pw1k (pw3 (pw_rot (by decide)))).2
    | exact (pl_v e6 (tm_v e6 (pw3 pwi) (pw3 pwi)).2 (tm_v e6 (pw3 pwo) (pw3 pwo)).2).2
    | exact (pl_v e6 (tm_v e6 (pw3 pwo) (pw3 pwo)).2 (tm_v e6 (pw3 pwi) (pw3 pwi)).2.minus).2
    | exact k4.2.2.1
    | exact k4.2.2.2.2
    | exact (tm_v k4.2.2.1 k4.2.2.2.2 k4.2.2.2.2).2
    | exact (pl_v k4.2.2.1 (tm_v k4.2.2.1 k4.2.2.2.2 k4.2.2.2.2).2 pw1k.minus).2
    | exact (tm_v k4.2.2.1 (pl_v k4.2.2.1 (tm_v k4.2.2.1 k4.2.2.2.2 k4.2.2.2.2).2 pw1k.minus).2 (pl_v k4.2.2.1 (tm_v k4.2.2.1 k4.2.2.2.2 k4.2.2.2.2).2 pw1k.minus).2).2
    | (rw [slT_len];simp only [tB3,sB3e];decide)
    | (rcases k4.2.2.2.1 with kl | kl <;> rw [kl] <;> simp only [tB1,tB2,sB1,sB2] <;> decide)
    | (simp only [decide_true,Bool.true_and,Bool.and_eq_true,decide_eq_true_eq];exact ⟨k4.1,k4.2.1⟩)
    | (exfalso;simp only [ec,Bool.or_eq_true,decide_eq_true_eq] at hc;omega)
    | skip
theorem longSliderStroke {ra rb re t : FR} {h : Bool} : Con Tryz.prog 8 [PTS [(some 3,RX ra),(some 3,RX rb),(some 3,RX re)],PTS [(some 3,RX t),(none,BT h)]] (shortF [ra,rb,re,t] = false) (BT true):=.o2 fun hok h1 h2 hp=>by
  refine St.enter (N:=334) Tryz.func8 rfl rfl rfl hok (enter2 h1 h2) fun a=>?_
  repeat' (first|refine W.cbt (long1_2 hp) ?_|((with_reducible refine gS_ ?_);first|((with_reducible refine gL_ ?_);first|refine W.run ?_ fun a w G=>?_|refine W.mv fun a w G=>?_|refine W.asg fun a w G=>?_|refine W.bx fun b a w G=>?_|(refine W.nn hK ?_;clear hK K)|refine W.nl ?_|refine W.al fun b a w G=>?_|refine W.st fun w=>?_|refine W.stp fun w=>?_|refine W.ste ?_ fun w=>?_)|((with_reducible refine gC_ ?_);first|refine W.reg fun K hK=>?_|refine W.reg1 ?_|refine W.sq fun K hK=>?_|refine W.ds ?_ (fun β a w G hu=>W.fin ?_ hu) mixedOrders (by kernel_rfl)|refine W.sk ?_|refine W.cd (fun hc=>?_) (fun hc=>?_)|refine W.cb (fun hc=>?_) (fun hc=>?_)|refine W.bl ?_|refine W.ex ?_|refine W.rt ?_)|((with_reducible refine W.kn hK ?_);clear hK K)|(with_reducible first|refine W.bn ?_|refine W.xt ?_|refine W.xb ?_|refine W.xo ?_|refine W.tr ?_|refine W.br ?_)|refine W.rt1 rfl ?_|refine W.rt2 rfl ?_ ?_|refine W.rt3 rfl ?_ ?_ ?_)|clear hK K|clear hu|exact True.intro|exact Nat.le_trans (by clear hp;omega) hp|exact Nat.le_trans (by clear hp;omega) hp.1|exact Nat.le_trans (by clear hp;omega) hp.2|(clear hp;omega)|apply And.intro|refine GI.i fun _=>?_|with_reducible rfl|decide|(simp only [List.length_cons,List.length_nil];omega))
  all_goals first | exact (gi1_0 hp (by assumption)).elim | exact (gi1_1 hp (by assumption)).elim | skip
theorem lawSliderStroke {ra rb re t : FR} {h : Bool} {w : World} {G : Gh} {v1 v2 : Value} (hok : Gok w G) (h1 : (PTS [(some 3,RX ra),(some 3,RX rb),(some 3,RX re)]).t v1 G) (h2 : (PTS [(some 3,RX t),(none,BT h)]).t v2 G) : Calls Tryz.prog 8 #[v1,v2] w (Ret w G (BT true)):=by
  cases hs : shortF [ra,rb,re,t] with
  | true =>
    have hq:=hs
    (try simp only [shortF,List.all_cons,List.all_nil,Bool.and_true,Bool.and_eq_true] at hq)
    have hcs : (slC ra rb re ≠ 0) ∨ (slC ra rb re = 0 ∧ trnF h t = false) ∨ (slC ra rb re = 0 ∧ trnF h t = true ∧ slF ra rb re = false) ∨ (slC ra rb re = 0 ∧ trnF h t = true ∧ slF ra rb re = true):=by
      by_cases e : slC ra rb re = 0
      · cases e2 : trnF h t with
        | false=>exact .inr (.inl ⟨e,rfl⟩)
        | true =>
          cases e3 : slF ra rb re with
          | true=>exact .inr (.inr (.inr ⟨e,rfl,rfl⟩))
          | false=>exact .inr (.inr (.inl ⟨e,rfl,rfl⟩))
      · exact .inl e
    rcases hcs with hcs | hcs | hcs | hcs
    · exact shortSliderStrokeB.c2 hok (NS.h (τ':=PTS [(some 3,FX 64 ra),(some 3,FX 64 rb),(some 3,FX 64 re)]) (by (try simp only [and_true,true_and]);grind) h1) (NS.h (τ':=TRN 64 t h) (by (try simp only [and_true,true_and]);grind) h2) ⟨hs,hcs⟩
    · exact shortSliderStrokeC.c2 hok (NS.h (τ':=PTS [(some 3,FX 64 ra),(some 3,FX 64 rb),(some 3,FX 64 re)]) (by (try simp only [and_true,true_and]);grind) h1) (NS.h (τ':=TRN 64 t h) (by (try simp only [and_true,true_and]);grind) h2) ⟨hs,hcs⟩
    · exact shortSliderStrokeD.c2 hok (NS.h (τ':=PTS [(some 3,FX 64 ra),(some 3,FX 64 rb),(some 3,FX 64 re)]) (by (try simp only [and_true,true_and]);grind) h1) (NS.h (τ':=TRN 64 t h) (by (try simp only [and_true,true_and]);grind) h2) ⟨hs,hcs⟩
    · exact shortSliderStrokeE.c2 hok (NS.h (τ':=PTS [(some 3,FX 64 ra),(some 3,FX 64 rb),(some 3,FX 64 re)]) (by (try simp only [and_true,true_and]);grind) h1) (NS.h (τ':=TRN 64 t h) (by (try simp only [and_true,true_and]);grind) h2) ⟨hs,hcs⟩
  | false=>exact longSliderStroke.c2 hok h1 h2 hs
end Go.Proofs.YtnjbcjmkkejfpaaGreat
namespace Go.Proofs.YtnjbcjmkkejfpaaGreat
open Go.RowKit (Below)
def G0of (W : World) : Gh:=fun b=>W.heap[b]?
theorem G0of_ok (W : World) : Gok W (G0of W):=fun _ _ h=>h
theorem Gc_G0 {W : World} {b i : Nat} : Gc (G0of W) b i = W.cell? ⟨b,i,none⟩:=by
  unfold Gc G0of World.cell?;cases W.heap[b]? with
  | none=>rfl
  | some o=>cases o <;> rfl
def RdA (P : Program) (W : World) (t : TypeId) (k : Option Nat) (A : MT → Prop) : Prop:=∀ (H : Type) (enc : TypeId × Value → H) (fuel : Nat) (cs : List Value) (x : DataW H × List MemPlace),
  DataW.trod enc P W 0 (fun _=>true) true fuel t cs = some x → (x.1.weights P t).all (· ≤ reachBytes) = true → ∃ (v : Value) (τ : MT),A τ ∧ v.cells.toList = cs ∧ Shaped k v ∧ τ.t v (G0of W)
section
variable {P : Program} {W : World} {t e : TypeId} {k : Option Nat} {A A' : MT → Prop}
theorem RdA.mono (h : RdA P W t k A) (hA : ∀ τ v,A τ → τ.t v (G0of W) → ∃ σ,A' σ ∧ σ.t v (G0of W)) : RdA P W t k A':=fun H enc fuel cs x hx hw=>by
  obtain ⟨v,τ,h1,h2,h3,h4⟩:=h H enc fuel cs x hx hw
  obtain ⟨σ,h5,h6⟩:=hA τ v h1 h4
  exact ⟨v,σ,h5,h2,h3,h6⟩
theorem rd_bool (ht : P.underlying t = some .bool) : RdA P W t none (fun τ=>∃ b,τ = .ex (.bool b)):=fun H enc fuel cs x hx hw=>by
  obtain ⟨b,rfl,rfl⟩:=DataW.trod_bool ht hx
  exact ⟨.bool b,_,⟨b,rfl⟩,rfl,⟨rfl,rfl⟩,rfl⟩
theorem rd_int {kk : IntKind} (ht : P.underlying t = some (.int kk)) : RdA P W t none (fun τ=>∃ z,(Lit.int kk z).wf = true ∧ τ = .ex (.int kk z)):=fun H enc fuel cs x hx hw=>by
  obtain ⟨z,rfl,rfl,h⟩:=DataW.trod_int ht hx
  exact ⟨.int kk z,_,⟨z,h,rfl⟩,rfl,⟨rfl,rfl⟩,rfl⟩
theorem rd_i64 (ht : P.underlying t = some (.int .i64)) : RdA P W t none (fun τ=>∃ z : Int,τ = .ex (.int .i64 z)):=(rd_int ht).mono fun τ v ⟨z,_,e⟩ hv=>⟨τ,⟨z,e⟩,hv⟩
theorem rd_u8 (ht : P.underlying t = some (.int .u8)) : RdA P W t none (fun τ=>∃ z : Fin 256,τ = .ex (.int .u8 ((z.val : Nat) : Int))):=(rd_int ht).mono fun τ v ⟨z,hz,e⟩ hv=>by
  have h0 : (0 : Int) ≤ z:=of_decide_eq_true (Bool.and_eq_true_iff.1 hz).1
  have h1 : z ≤ 255:=of_decide_eq_true (Bool.and_eq_true_iff.1 hz).2
  refine ⟨τ,⟨⟨z.toNat,by omega⟩,?_⟩,hv⟩
  rw [e];show _ = MT.ex (.int .u8 ((z.toNat : Nat) : Int));rw [Int.toNat_of_nonneg h0]
theorem cells_get {a : Addr} {n : Nat} {L : List Value} (h : W.cells? 0 a n = some L) : L.length = n ∧ ∀ j,j < n → W.cell? (a.add j) = L[j]?:=by
  unfold World.cells? at h
  rw [if_pos (Nat.zero_le _)] at h
  exact ⟨by simpa using mapM_some_length h,fun j hj=>mapM_some_get h j j (by simp [hj])⟩
theorem weightsAll_mem {H : Type} {es : List (DataW H)} {d : DataW H} {i : Nat} (hi : es[i]? = some d) : ∀ n ∈ d.weights P e,n ∈ DataW.weightsAll P e es:=by
  induction es generalizing i with
  | nil=>simp at hi
  | cons x r ih =>
    intro n hn
    rw [DataW.weightsAll,List.mem_append]
    cases i with
    | zero=>simp at hi;subst hi;exact .inl hn
    | succ j=>exact .inr (ih (by simpa using hi) n hn)
theorem rd_sliceB (ht : P.underlying t = some (.slice e)) (hc : P.cellsOf e = k.getD 1) (hc0 : 0 < k.getD 1) (hb : 4 ≤ P.bytesOf e) (h : RdA P W e k A) : RdA P W t none (fun τ=>∃ τs,(∀ σ ∈ τs,A σ) ∧ τs.length * P.bytesOf e ≤ 140737488351232 ∧ τ = LS k τs):=fun H enc fuel cs x hx hw=>by
  rcases DataW.trod_slice ht hx with ⟨rfl,rfl⟩ | ⟨a,len,cap,elems,rest,n,rfl,rfl,rfl,hb0,hlc,hcm,hel,hE,_,_⟩
  · exact ⟨.slice none 0 0,LS k [],⟨[],by simp,by simp,rfl⟩,rfl,⟨rfl,rfl⟩,LS.nil⟩
  · simp only [DataW.weights,ht,List.all_cons,List.all_append,Bool.and_eq_true,decide_eq_true_eq] at hw
    obtain ⟨hw1,hw2,_⟩:=hw
    have hlim : len ≤ LIM:=by
      have h1 : len * 4 ≤ ((elems.map (·.1)).length + (rest.map (·.1)).length) * P.bytesOf e:=Nat.mul_le_mul (by simp;omega) hb
      have h2 : reachBytes = 140737488351232:=rfl
      simp only [LIM];omega
    have hby : len * P.bytesOf e ≤ 140737488351232:=by
      have h1 : len * P.bytesOf e ≤ ((elems.map (·.1)).length + (rest.map (·.1)).length) * P.bytesOf e:=Nat.mul_le_mul_right _ (by simp;omega)
      have h2 : reachBytes = 140737488351232:=rfl
      omega
    have each : ∀ i,∃ (v : Value) (τ : MT),i < len → W.cells? 0 (a.add (i * k.getD 1)) (k.getD 1) = some v.cells.toList ∧ A τ ∧ Shaped k v ∧ τ.t v (G0of W):=fun i=>by
      by_cases hi : i < len
      · have h1:=hE i hi
        rw [List.getElem?_eq_getElem (by omega),Option.bind_eq_some_iff,hc] at h1
        obtain ⟨cs',h2,h3⟩:=h1
        obtain ⟨v,τ,h4,h5,h6,h7⟩:=h H enc n cs' _ h3 (List.all_eq_true.2 fun m hm=>List.all_eq_true.1 hw2 m (weightsAll_mem (i:=i) (by rw [List.getElem?_map,List.getElem?_eq_getElem (by omega)];rfl) m hm))
        exact ⟨v,τ,fun _=>⟨by rw [h5];exact h2,h4,h6,h7⟩⟩
      · exact ⟨undef,.ex undef,fun h=>absurd h hi⟩
    obtain ⟨f,g,hfg⟩ : ∃ (f : Nat → Value) (g : Nat → MT),∀ i,i < len → W.cells? 0 (a.add (i * k.getD 1)) (k.getD 1) = some (f i).cells.toList ∧ A (g i) ∧ Shaped k (f i) ∧ (g i).t (f i) (G0of W):=⟨fun i=>(each i).choose,fun i=>(each i).choose_spec.choose,fun i=>(each i).choose_spec.choose_spec⟩
    refine ⟨.slice (some a) len cap,LS k ((List.range len).map g),⟨_,fun σ hσ=>?_,by simpa using hby,rfl⟩,rfl,⟨rfl,rfl⟩,LS.of_vals (us:=(List.range len).map f) (A:=some a) (c:=cap) (by simp) (by simpa using hlc) (by simpa using hlim) ⟨by simp,fun i τ u hi hu=>?_⟩ fun i u hu=>?_⟩
    · obtain ⟨i,hi,rfl⟩:=List.mem_map.1 hσ
      exact (hfg i (by simpa using hi)).2.1
    · have hlt : i < len:=by have:=(List.getElem?_eq_some_iff.1 hi).1;simpa using this
      simp [List.getElem?_range hlt] at hi hu
      subst hi;subst hu
      exact (hfg i hlt).2.2
    · have hlt : i < len:=by have:=(List.getElem?_eq_some_iff.1 hu).1;simpa using this
      simp [List.getElem?_range hlt] at hu
      subst hu
      obtain ⟨h1,h2,h3,h4⟩:=hfg i hlt
      obtain ⟨h5,h6⟩:=cells_get h1
      obtain ⟨g5,g6⟩:=cells_get (hfg 0 (by omega)).1
      obtain ⟨b,off,spot⟩:=a
      have h7:=g6 0 hc0
      rw [List.getElem?_eq_getElem (by omega)] at h7
      have hs : spot = none:=by simpa [Addr.add] using World.cell?_spot h7
      subst hs
      refine ⟨b,off,rfl,fun j x hj=>?_⟩
      have hjl : j < k.getD 1:=by have:=(Array.getElem?_eq_some_iff.1 hj).1;rw [← h5,Array.length_toList];exact this
      have h8:=h6 j hjl
      rw [Gc_G0]
      rw [addr_add,addr_add,Array.getElem?_toList,hj] at h8
      exact h8
theorem rd_slice (ht : P.underlying t = some (.slice e)) (hc : P.cellsOf e = k.getD 1) (hc0 : 0 < k.getD 1) (hb : 4 ≤ P.bytesOf e) (h : RdA P W e k A) : RdA P W t none (fun τ=>∃ τs,(∀ σ ∈ τs,A σ) ∧ τ = LS k τs) :=
  (rd_sliceB ht hc hc0 hb h).mono fun τ v ⟨τs,h1,_,h2⟩ hv=>⟨τ,⟨τs,h1,h2⟩,hv⟩
theorem forall_map {α : Type} {T : α → MT} {τs : List MT} (h : ∀ σ ∈ τs,∃ x,σ = T x) : ∃ xs : List α,τs = xs.map T:=by
  induction τs with
  | nil=>exact ⟨[],rfl⟩
  | cons a r ih =>
    obtain ⟨l,rfl⟩:=ih fun σ h'=>h σ (List.mem_cons_of_mem _ h')
    obtain ⟨x,rfl⟩:=h a (List.mem_cons_self ..)
    exact ⟨x :: l,rfl⟩
theorem forall_map' {α : Type} {T : α → MT} {p : α → Prop} {τs : List MT} (h : ∀ σ ∈ τs,∃ x,p x ∧ σ = T x) : ∃ xs : List α,τs = xs.map T ∧ ∀ x ∈ xs,p x:=by
  induction τs with
  | nil=>exact ⟨[],rfl,by simp⟩
  | cons a r ih =>
    obtain ⟨l,rfl,hl⟩:=ih fun σ h'=>h σ (List.mem_cons_of_mem _ h')
    obtain ⟨x,hx,rfl⟩:=h a (List.mem_cons_self ..)
    exact ⟨x :: l,rfl,by simpa using ⟨hx,hl⟩⟩
theorem rd_words (ht : P.underlying t = some (.slice e)) (hu : P.underlying e = some (.int .u32)) (hc : P.cellsOf e = 1) (hb : 4 ≤ P.bytesOf e) : RdA P W t none (fun τ=>∃ l,τ = SL l):=by
  have h1 : RdA P W e none (fun τ=>∃ x : Nat,x < 4294967296 ∧ τ = .ex (u32 x)):=(rd_int hu).mono fun τ v ⟨z,hz,hτ⟩ hv=>by
    subst hτ
    have hm : IntKind.u32.min = 0:=by decide
    have hM : IntKind.u32.max = 4294967295:=by decide
    simp [Lit.wf,hm,hM] at hz
    exact ⟨_,⟨z.toNat,by omega,rfl⟩,by
      have : (z.toNat : Int) = z:=by omega
      show v = .int .u32 (z.toNat : Int);rw [this];exact hv⟩
  refine (rd_slice (k:=none) ht hc (by decide) hb h1).mono fun τ v ⟨τs,hσ,hτ⟩ hv=>?_
  subst hτ
  obtain ⟨l,hl,hlt⟩:=forall_map' hσ
  subst hl
  obtain ⟨A,c,us,h2,h3,h4,h5,h6⟩:=LS.vals hv
  rw [List.length_map] at h2 h3 h4
  refine ⟨_,⟨l,rfl⟩,A,c,h2,h3,h4,hlt,fun i x hi=>?_⟩
  have hil:=(List.getElem?_eq_some_iff.1 hi).1
  have hul : i < us.length:=by rw [h5.1,List.length_map];exact hil
  have hui : us[i]? = some us[i]:=by rw [List.getElem?_eq_getElem hul]
  have h7:=(h5.2 i (.ex (u32 x)) us[i] (by rw [List.getElem?_map,hi];rfl) hui).2
  obtain ⟨b,off,e1,h8⟩:=h6 i us[i] hui
  refine ⟨b,off,e1,?_⟩
  have h9 : us[i] = u32 x:=h7
  rw [h9] at h8
  simpa using h8 0 (u32 x) rfl
def FldOk (P : Program) (W : World) : Nat → List Field → List (Option Nat × (MT → Prop)) → Prop
  | _,[],[]=>True
  | off,f :: fs,a :: As=>f.offset = off ∧ P.cellsOf f.type = a.1.getD 1 ∧ RdA P W f.type a.1 a.2 ∧ FldOk P W (off + a.1.getD 1) fs As
  | _,_,_=>False
def Mt : List (Option Nat × (MT → Prop)) → List (Option Nat × MT) → Prop
  | [],[]=>True
  | a :: As,f :: F=>f.1 = a.1 ∧ a.2 f.2 ∧ Mt As F
  | _,_=>False
def tot (As : List (Option Nat × (MT → Prop))) : Nat:=(As.map fun a=>a.1.getD 1).sum
theorem Mt.tot : ∀ {As : List (Option Nat × (MT → Prop))} {F : List (Option Nat × MT)},Mt As F → (F.map fun f=>f.1.getD 1).sum = Go.Proofs.YtnjbcjmkkejfpaaGreat.tot As
  | [],[],_=>rfl
  | a :: As,f :: F,h=>by
    have:=Mt.tot h.2.2
    simp only [Go.Proofs.YtnjbcjmkkejfpaaGreat.tot,List.map_cons,List.sum_cons,h.1] at this ⊢
    rw [this]
  | [],_ :: _,h=>h.elim
  | _ :: _,[],h=>h.elim
theorem rd_fields {H : Type} {enc : TypeId × Value → H} {n : Nat} {cs : List Value} : ∀ (fs : List Field) (As : List (Option Nat × (MT → Prop))) (xs : List (DataW H × List MemPlace)) (off : Nat), FldOk P W off fs As → xs.length = fs.length →
    (∀ (i : Nat) (f : Field),fs[i]? = some f → DataW.trod enc P W 0 (fun _=>true) true n f.type ((cs.drop f.offset).take (P.cellsOf f.type)) = xs[i]?) → (DataW.weightsEach P (fs.map (·.type)) (xs.map (·.1))).all (· ≤ reachBytes) = true → cs.length = off + tot As →
    ∃ us F,Mt As F ∧ flat us = cs.drop off ∧ us.length = F.length ∧ ∀ (i : Nat) (f : Option Nat × MT) (u : Value),F[i]? = some f → us[i]? = some u → Shaped f.1 u ∧ f.2.t u (G0of W)
  | [],[],xs,off,_,_,_,_,hl=>⟨[],[],trivial,by rw [List.drop_eq_nil_of_le (by rw [hl];simp [tot])];rfl,rfl,fun i f u h=>by simp at h⟩
  | f :: fs,a :: As,[],off,_,hx,_,_,_=>by simp at hx
  | f :: fs,a :: As,x :: xs,off,hF,hx,hT,hw,hl=>by
    obtain ⟨h1,h2,h3,h4⟩:=hF
    simp only [List.map_cons,DataW.weightsEach,List.all_append,Bool.and_eq_true] at hw
    obtain ⟨v,τ,h5,h6,h7,h8⟩:=h3 H enc n _ x (hT 0 f rfl) hw.1
    obtain ⟨us,F,g1,g2,g3,g4⟩:=rd_fields fs As xs (off + a.1.getD 1) h4 (by simpa using hx) (fun i g hg=>by simpa using hT (i + 1) g (by simpa using hg)) hw.2 (by rw [hl];simp [tot];omega)
    refine ⟨v :: us,(a.1,τ) :: F,⟨rfl,h5,g1⟩,?_,by simp [g3],fun i f' u hf hu=>?_⟩
    · rw [flat_cons,h6,g2,h1,h2,← List.drop_drop,List.take_append_drop]
    · cases i with
      | zero=>simp at hf hu;subst hf;subst hu;exact ⟨h7,h8⟩
      | succ i=>exact g4 i f' u (by simpa using hf) (by simpa using hu)
  | [],_ :: _,_,_,h,_,_,_,_=>h.elim
  | _ :: _,[],_,_,h,_,_,_,_=>h.elim
theorem rd_struct {fs : Array Field} {As : List (Option Nat × (MT → Prop))} {n : Nat} (ht : P.underlying t = some (.struct fs)) (hn : P.cellsOf t = n) (hnA : tot As = n) (hF : FldOk P W 0 fs.toList As) : RdA P W t (some n) (fun τ=>∃ F,Mt As F ∧ τ = PTS F):=fun H enc fuel cs x hx hw=>by
  obtain ⟨xs,m,rfl,rfl,hl,hxl,hT⟩:=DataW.trod_struct ht hx
  simp only [DataW.weights,ht] at hw
  obtain ⟨us,F,h1,h2,h3,h4⟩:=rd_fields fs.toList As xs 0 hF (by simpa using hxl) (fun i f hf=>hT i f (by simpa using hf)) hw (by omega)
  have hP : (PTS F).t (.agg (flat us).toArray) (G0of W):=⟨us,rfl,h3,h4⟩
  refine ⟨.agg (flat us).toArray,PTS F,⟨F,h1,rfl⟩,by rw [h2];rfl,PTS.shaped (by unfold offs;rw [List.take_length,h1.tot,hnA]) hP,hP⟩
theorem shaped1 {u : Value} (h : Shaped none u) : u.cells = #[u]:=h.1
theorem PTS.toQR {s : Bool} {p q : List Nat} {v : Value} {G : Gh} (h : (PTS [(none,.ex (.bool s)),(none,SL p),(none,SL q)]).t v G) : (QR s p q).t v G:=by
  obtain ⟨us,rfl,hl,h⟩:=h
  match us,hl,h with
  | [u0,u1,u2],_,h =>
    obtain ⟨a0,b0⟩:=h 0 _ u0 rfl rfl
    obtain ⟨a1,b1⟩:=h 1 _ u1 rfl rfl
    obtain ⟨a2,b2⟩:=h 2 _ u2 rfl rfl
    refine ⟨u1,u2,?_,b1,b2⟩
    have e0 : u0 = .bool s:=b0
    simp only [flat,List.flatMap_cons,List.flatMap_nil,shaped1 a0,shaped1 a1,shaped1 a2]
    rw [e0];rfl
theorem rd_frac {fs : Array Field} {f0 f1 f2 : Field} {tw : TypeId} (ht : P.underlying t = some (.struct fs)) (hf : fs.toList = [f0, f1, f2]) (hn : P.cellsOf t = 3) (h0 : f0.offset = 0 ∧ P.cellsOf f0.type = 1 ∧ P.underlying f0.type = some .bool) (h1 : f1.offset = 1 ∧ f1.type = tw) (h2 : f2.offset = 2 ∧ f2.type = tw)
    (hw : P.underlying tw = some (.slice e) ∧ P.cellsOf tw = 1) (he : P.underlying e = some (.int .u32) ∧ P.cellsOf e = 1 ∧ 4 ≤ P.bytesOf e) : RdA P W t (some 3) (fun τ=>∃ r : FR,τ = QR r.s r.p r.q):=by
  have hW : RdA P W tw none (fun τ=>∃ l,τ = SL l):=rd_words hw.1 he.1 he.2.1 he.2.2
  refine (rd_struct (As:=[(none,fun τ=>∃ b,τ = .ex (.bool b)),(none,fun τ=>∃ l,τ = SL l),(none,fun τ=>∃ l,τ = SL l)]) ht hn rfl (by
    rw [hf];exact ⟨h0.1,h0.2.1,rd_bool h0.2.2,h1.1,by rw [h1.2];exact hw.2,by rw [h1.2];exact hW,h2.1,by rw [h2.2];exact hw.2,by rw [h2.2];exact hW,trivial⟩)).mono fun τ v ⟨F,hM,hτ⟩ hv=>?_
  subst hτ
  match F,hM with
  | [a,b,c],⟨a1,⟨s,a2⟩,b1,⟨p,b2⟩,c1,⟨q,c2⟩,_⟩ =>
    obtain ⟨a0,a'⟩:=a;obtain ⟨b0,b'⟩:=b;obtain ⟨c0,c'⟩:=c
    simp only at a1 a2 b1 b2 c1 c2
    subst a1;subst a2;subst b1;subst b2;subst c1;subst c2
    exact ⟨_,⟨⟨s,p,q⟩,rfl⟩,PTS.toQR hv⟩
theorem rd_list {α : Type} {T : α → MT} (ht : P.underlying t = some (.slice e)) (hc : P.cellsOf e = k.getD 1) (hc0 : 0 < k.getD 1) (hb : 4 ≤ P.bytesOf e) (h : RdA P W e k (fun τ=>∃ x,τ = T x)) : RdA P W t none (fun τ=>∃ xs : List α,τ = LS k (xs.map T)) :=
  (rd_slice ht hc hc0 hb h).mono fun τ v ⟨τs,hσ,hτ⟩ hv=>by
    obtain ⟨xs,rfl⟩:=forall_map hσ
    subst hτ
    exact ⟨_,⟨xs,rfl⟩,hv⟩
theorem rd_listB {α : Type} {T : α → MT} {c : Nat} (ht : P.underlying t = some (.slice e)) (hc : P.cellsOf e = k.getD 1) (hc0 : 0 < k.getD 1) (hb : 4 ≤ P.bytesOf e) (hbc : P.bytesOf e = c) (h : RdA P W e k (fun τ=>∃ x,τ = T x)) : RdA P W t none (fun τ=>∃ xs : { xs : List α // xs.length * c ≤ 140737488351232 },τ = LS k (xs.1.map T)) :=
  (rd_sliceB ht hc hc0 hb h).mono fun τ v ⟨τs,hσ,hl,hτ⟩ hv=>by
    obtain ⟨xs,rfl⟩:=forall_map hσ
    subst hτ
    rw [List.length_map,hbc] at hl
    exact ⟨_,⟨⟨xs,hl⟩,rfl⟩,hv⟩
theorem rd_arg {H : Type} {enc : TypeId × Value → H} {v : Value} {d : DataW H} {ps : List MemPlace} (h : RdA P W t k A) (hd : DataW.Trod enc P W 0 (fun _ => true) true t v d ps) (hw : (d.weights P t).all (· ≤ reachBytes) = true)
    (hv : match k with | none=>v.cells = #[v] | some _=>∃ cs,v = .agg cs) : ∃ τ,A τ ∧ Shaped k v ∧ τ.t v (G0of W):=by
  obtain ⟨fuel,hf⟩:=hd
  obtain ⟨u,τ,h1,h2,h3,h4⟩:=h H enc fuel _ _ hf hw
  have : u = v:=by
    cases k with
    | none =>
      have h5 : u.cells = #[u]:=h3.1
      rw [h5,hv] at h2
      simpa using h2
    | some n =>
      obtain ⟨cs,rfl⟩:=hv
      obtain ⟨cs',rfl,_⟩:=h3
      have : cs'.toList = cs.toList:=h2
      rw [Array.toList_inj.1 this]
  subst this
  exact ⟨τ,h1,h3,h4⟩
end
end Go.Proofs.YtnjbcjmkkejfpaaGreat
