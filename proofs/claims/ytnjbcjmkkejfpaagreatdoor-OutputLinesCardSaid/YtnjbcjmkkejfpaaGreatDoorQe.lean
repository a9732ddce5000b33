import Derived.Test.YtnjbcjmkkejfpaaGreatDoorQd
set_option linter.unusedVariables false
set_option linter.unusedSimpArgs false
namespace Go.Proofs.YtnjbcjmkkejfpaaGreatDoor
open Classical in
noncomputable def sgR (x : RR) : Int:=if x < 0 then -1 else if 0 < x then 1 else 0
theorem RR.lt_asymm {x y : RR} (h : x < y) : ¬ y < x:=fun k=>RR.lt_irrefl x (RR.lt_trans h k)
theorem sgR_cases (x : RR) : (x < 0 ∧ sgR x = -1) ∨ (x = 0 ∧ sgR x = 0) ∨ (0 < x ∧ sgR x = 1):=by
  rcases RR.lt_tri x 0 with h | h | h
  · exact .inl ⟨h,by unfold sgR;rw [if_pos h]⟩
  · subst h;exact .inr (.inl ⟨rfl,by unfold sgR;rw [if_neg (RR.lt_irrefl 0),if_neg (RR.lt_irrefl 0)]⟩)
  · exact .inr (.inr ⟨h,by unfold sgR;rw [if_neg (RR.lt_asymm h),if_pos h]⟩)
theorem sgR_pos {x : RR} (h : 0 < x) : sgR x = 1:=by
  unfold sgR;rw [if_neg (RR.lt_asymm h),if_pos h]
theorem sgR_neg {x : RR} (h : x < 0) : sgR x = -1:=by unfold sgR;rw [if_pos h]
theorem sgR_zero : sgR 0 = 0:=by unfold sgR;rw [if_neg (RR.lt_irrefl 0),if_neg (RR.lt_irrefl 0)]
theorem sgR_negate (x : RR) : sgR (-x) = -sgR x:=by
  rcases sgR_cases x with ⟨h,e⟩ | ⟨h,e⟩ | ⟨h,e⟩
  · rw [e,sgR_pos (RR.neg_pos.2 h)];rfl
  · subst h;rw [RR.neg_zero,sgR_zero];rfl
  · rw [e,sgR_neg];rw [← RR.neg_pos,RR.neg_neg];exact h
theorem sgR_mul (x y : RR) : sgR (x * y) = sgR x * sgR y:=by
  have pp : ∀ {x y : RR},0 < x → 0 < y → sgR (x * y) = sgR x * sgR y:=fun h k=>by rw [sgR_pos h,sgR_pos k,sgR_pos (RR.mul_pos h k)];rfl
  have np : ∀ {x y : RR},x < 0 → 0 < y → sgR (x * y) = sgR x * sgR y:=fun {x y} h k=>by
    have:=pp (RR.neg_pos.2 h) k
    rw [RR.neg_mul,sgR_negate,sgR_negate] at this
    rw [Int.neg_mul] at this;omega
  rcases RR.lt_tri x 0 with h | h | h
  · rcases RR.lt_tri y 0 with k | k | k
    · have:=np h (RR.neg_pos.2 k)
      rw [RR.mul_neg,sgR_negate,sgR_negate,Int.mul_neg] at this;omega
    · subst k;rw [RR.mul_zero,sgR_zero,Int.mul_zero]
    · exact np h k
  · subst h;rw [RR.zero_mul,sgR_zero,Int.zero_mul]
  · rcases RR.lt_tri y 0 with k | k | k
    · rw [RR.mul_comm,Int.mul_comm];exact np k h
    · subst k;rw [RR.mul_zero,sgR_zero,Int.mul_zero]
    · exact pp h k
theorem sgR_of (q : Rat) : sgR (RR.of q) = q.num.sign:=by
  rcases sgn_cases q.num with ⟨h,e⟩ | ⟨h,e⟩ | ⟨h,e⟩
  all_goals first
    | (rw [e];exact sgR_pos (RR.of_lt (p:=0) |>.2 (rat_pos_iff.2 (by omega))))
    | (rw [e]; have : q = 0 := (@Rat.num_eq_zero q).1 (by omega)
       subst this;exact sgR_zero)
    | (rw [e]; refine sgR_neg (RR.of_lt (q := 0) |>.2 ?_)
       have h1:=@Rat.num_nonneg q
       rcases Classical.em (0 ≤ q) with h2 | h2
       · have:=h1.2 h2;omega
       · exact Rat.not_le.1 h2)
theorem sgR_cmp (p q : Rat) : sgR (RR.of p - RR.of q) = cmpQ p q:=by
  rw [← RR.of_sub]
  unfold cmpQ
  split
  · exact sgR_neg (RR.of_lt (q:=0) |>.2 (by grind))
  · split
    · exact sgR_pos (RR.of_lt (p:=0) |>.2 (by grind))
    · have : p - q = 0:=by grind
      rw [this];exact sgR_zero
theorem RR.sub_def (x y : RR) : x - y = x + -y:=rfl
theorem sgR_add {u v : RR} : sgR (u + v) = if sgR u = 0 ∨ sgR u = sgR v then sgR v else if sgR v = 0 then sgR u else sgR u * sgR (u * u - v * v):=by
  have hf : u * u - v * v = (u + v) * (u - v):=by
    obtain ⟨f,hf,rfl⟩:=RR.rep u;obtain ⟨g,hg,rfl⟩:=RR.rep v
    exact RR.ext fun n=>by grind
  have hm:=sgR_mul (u + v) (u - v)
  rw [← hf] at hm
  rcases sgR_cases u with ⟨h,e⟩ | ⟨h,e⟩ | ⟨h,e⟩
  · rcases sgR_cases v with ⟨k,e2⟩ | ⟨k,e2⟩ | ⟨k,e2⟩
    · rw [e,e2,if_pos (.inr rfl)]
      refine sgR_neg ?_
      have h1:=RR.add_pos (RR.neg_pos.2 h) (RR.le_of_lt (RR.neg_pos.2 k))
      rw [← RR.neg_add] at h1
      exact RR.neg_pos.1 h1
    · subst k;rw [RR.add_zero,e,sgR_zero,if_neg (by decide),if_pos rfl]
    · rw [e,e2,if_neg (by decide),if_neg (by decide)]
      have h1 : sgR (u - v) = -1:=by
        refine sgR_neg ?_
        have h1:=RR.add_pos (RR.neg_pos.2 h) (RR.le_of_lt k)
        rw [← RR.neg_pos,RR.neg_sub,RR.sub_def,RR.add_comm];exact h1
      rw [h1] at hm;omega
  · subst h;rw [RR.zero_add,sgR_zero,if_pos (.inl rfl)]
  · rcases sgR_cases v with ⟨k,e2⟩ | ⟨k,e2⟩ | ⟨k,e2⟩
    · rw [e,e2,if_neg (by decide),if_neg (by decide)]
      have h1 : sgR (u - v) = 1:=by
        refine sgR_pos ?_
        exact RR.add_pos h (RR.le_of_lt (RR.neg_pos.2 k))
      rw [h1] at hm;omega
    · subst k;rw [RR.add_zero,e,sgR_zero,if_neg (by decide),if_pos rfl]
    · rw [e,e2,if_pos (.inr rfl)];exact sgR_pos (RR.add_pos h (RR.le_of_lt k))
theorem sgR_sq {w t : RR} (hw : 0 ≤ w) (ht : 0 ≤ t) : sgR (w - t) = sgR (w * w - t * t):=by
  have hf : w * w - t * t = (w - t) * (w + t):=by
    obtain ⟨f,hf,rfl⟩:=RR.rep w;obtain ⟨g,hg,rfl⟩:=RR.rep t
    exact RR.ext fun n=>by grind
  rw [hf,sgR_mul]
  rcases sgR_cases (w + t) with ⟨h,e⟩ | ⟨h,e⟩ | ⟨h,e⟩
  · exact absurd (RR.add_nn hw ht) h
  · have hw0 : w = 0 := by
      refine RR.le_antisymm ?_ hw
      refine RR.not_lt.1 fun k=>?_
      have:=RR.add_pos k ht
      rw [h] at this;exact RR.lt_irrefl 0 this
    have ht0 : t = 0:=by rw [hw0,RR.zero_add] at h;exact h
    rw [hw0,ht0,RR.sub_self,sgR_zero,Int.zero_mul]
  · rw [e,Int.mul_one]
noncomputable def rt (q : Rat) : RR:=(RR.of q).sq
theorem rt_nn (q : Rat) : 0 ≤ rt q:=RR.sq_nonneg _
theorem rt_sq {q : Rat} (h : 0 ≤ q) : rt q * rt q = RR.of q:=RR.sq_sq (RR.of_le (p:=0) |>.2 h)
theorem sgR_rt {q : Rat} (h : 0 ≤ q) : sgR (rt q) = q.num.sign:=by
  have h1:=sgR_mul (rt q) (rt q)
  rw [rt_sq h,sgR_of] at h1
  rcases sgR_cases (rt q) with ⟨k,e⟩ | ⟨k,e⟩ | ⟨k,e⟩
  · exact absurd (rt_nn q) k
  · rw [e] at h1 ⊢;omega
  · rw [e] at h1 ⊢;omega
theorem mixed_sg {x y d : Rat} (hd : 0 ≤ d) : mixedF x y d = sgR (RR.of x + RR.of y * rt d):=by
  rw [sgR_add,sgR_mul,sgR_of,sgR_of,sgR_rt hd]
  have hq : RR.of x * RR.of x - RR.of y * rt d * (RR.of y * rt d) = RR.of (x * x) - RR.of (y * y * d):=by
    rw [RR.of_mul,RR.of_mul,RR.of_mul,← rt_sq hd]
    generalize RR.of x = a;generalize RR.of y = b;generalize rt d = c
    obtain ⟨f,hf,rfl⟩:=RR.rep a;obtain ⟨g,hg,rfl⟩:=RR.rep b;obtain ⟨k,hk,rfl⟩:=RR.rep c
    exact RR.ext fun n=>by grind
  rw [hq,sgR_cmp]
  rfl
theorem roots_sg {x d f : Rat} (hd : 0 ≤ d) (hf : 0 ≤ f) : rootsF x d f = sgR (RR.of x + RR.of 2 * rt d - RR.of 2 * rt f):=by
  unfold rootsF
  rw [mixed_sg hd,mixed_sg hd]
  have ht : 0 ≤ RR.of 2 * rt f:=RR.mul_nn (RR.of_le (p:=0) |>.2 (by decide)) (rt_nn f)
  split
  · rename_i h
    symm
    refine sgR_neg ?_
    have hw : RR.of x + RR.of 2 * rt d < 0:=by
      rcases sgR_cases (RR.of x + RR.of 2 * rt d) with ⟨k,e⟩ | ⟨k,e⟩ | ⟨k,e⟩
      · exact k
      · omega
      · omega
    have h2:=RR.add_pos (RR.neg_pos.2 hw) ht
    rw [← RR.neg_pos,RR.neg_sub,RR.sub_def,RR.add_comm];exact h2
  · rename_i h
    have hw : 0 ≤ RR.of x + RR.of 2 * rt d:=by
      rcases sgR_cases (RR.of x + RR.of 2 * rt d) with ⟨k,e⟩ | ⟨k,e⟩ | ⟨k,e⟩
      · omega
      · rw [k];exact RR.le_refl 0
      · exact RR.le_of_lt k
    rw [sgR_sq hw ht]
    congr 1
    have e : RR.of (x * x + 4 * d - 4 * f) = RR.of x * RR.of x + RR.of 4 * (rt d * rt d) - RR.of 4 * (rt f * rt f):=by
      rw [rt_sq hd,rt_sq hf,RR.of_sub,RR.of_add,RR.of_mul,RR.of_mul,RR.of_mul]
    rw [e,RR.of_mul]
    generalize RR.of x = a;generalize rt d = b;generalize rt f = c
    obtain ⟨f,hf,rfl⟩:=RR.rep a;obtain ⟨g,hg,rfl⟩:=RR.rep b;obtain ⟨k,hk,rfl⟩:=RR.rep c
    exact RR.ext fun n=>by grind
theorem rt_eq {a b : RR} (ha : 0 ≤ a) (hb : 0 ≤ b) (h : a * a = b * b) : a = b:=by
  have h1:=sgR_sq ha hb
  rw [h,RR.sub_self,sgR_zero] at h1
  rcases sgR_cases (a - b) with ⟨k,e⟩ | ⟨k,e⟩ | ⟨k,e⟩
  · omega
  · rw [← RR.sub_add a b,k,RR.zero_add]
  · omega
theorem rt_mul {a b : Rat} (ha : 0 ≤ a) (hb : 0 ≤ b) : rt (a * b) = rt a * rt b:=by
  refine rt_eq (rt_nn _) (RR.mul_nn (rt_nn a) (rt_nn b)) ?_
  rw [rt_sq (Rat.mul_nonneg ha hb),RR.of_mul,← rt_sq ha,← rt_sq hb]
  generalize rt a = x;generalize rt b = y
  obtain ⟨f,hf,rfl⟩:=RR.rep x;obtain ⟨g,hg,rfl⟩:=RR.rep y
  exact RR.ext fun n=>by grind
theorem roots_four {a b c d : Rat} (ha : 0 ≤ a) (hb : 0 ≤ b) (hc : 0 ≤ c) (hd : 0 ≤ d) : rootsF (a + b - (c + d)) (a * b) (c * d) = sgR ((rt a + rt b) - (rt c + rt d)):=by
  rw [roots_sg (Rat.mul_nonneg ha hb) (Rat.mul_nonneg hc hd),rt_mul ha hb,rt_mul hc hd,sgR_sq (RR.add_nn (rt_nn a) (rt_nn b)) (RR.add_nn (rt_nn c) (rt_nn d))]
  congr 1
  rw [RR.of_sub,RR.of_add,RR.of_add,← rt_sq ha,← rt_sq hb,← rt_sq hc,← rt_sq hd]
  generalize rt a = x;generalize rt b = y;generalize rt c = z;generalize rt d = u
  obtain ⟨f,hf,rfl⟩:=RR.rep x;obtain ⟨g,hg,rfl⟩:=RR.rep y;obtain ⟨k,hk,rfl⟩:=RR.rep z;obtain ⟨l,hl,rfl⟩:=RR.rep u
  exact RR.ext fun n=>by grind
noncomputable def rs (l : List Rat) : RR:=rt ((pairF l).getD 0 default) + rt ((pairF l).getD 1 default)
end Go.Proofs.YtnjbcjmkkejfpaaGreatDoor
namespace Go.Proofs.YtnjbcjmkkejfpaaGreatDoor
open Go.RowKit (Below)
theorem rotC_ok {l : List FR} {k : Int} (h : ¬ chkF l ≠ 0) (hk : 0 ≤ k ∧ k ≤ 3) : rotCode l k = 0:=by unfold rotCode;rw [if_pos (by omega),if_pos hk]
theorem rotF_ok {l : List FR} {k : Int} (h : ¬ chkF l ≠ 0) (hk : 0 ≤ k ∧ k ≤ 3) : rotF l k = rotL l k.toNat:=by unfold rotF;rw [rotC_ok h hk,if_pos rfl]
theorem posR_of4 (a : Rat) : posR (FR.of a) = decide (0 < a):=by unfold posR;rw [FR.of_ok,FR.of_val,Bool.true_and]
end Go.Proofs.YtnjbcjmkkejfpaaGreatDoor
namespace Go.Proofs.YtnjbcjmkkejfpaaGreatDoor
end Go.Proofs.YtnjbcjmkkejfpaaGreatDoor
namespace Go.Proofs.YtnjbcjmkkejfpaaGreatDoor
open Go.RowKit (Below)
def surdF (x y d : Rat) : Int :=
  if x.num.sign = 0 ∨ y.num.sign * d.num.sign = 0 ∨ x.num.sign = y.num.sign * d.num.sign then (if x.num.sign = 0 then y.num.sign * d.num.sign else x.num.sign) else x.num.sign * cmpQ (x * x) (y * y * d)
def surdsF (x y d z e : Rat) : Int :=
  if surdF x y d = 0 ∨ z.num.sign * e.num.sign = 0 ∨ surdF x y d = z.num.sign * e.num.sign then (if surdF x y d = 0 then z.num.sign * e.num.sign else surdF x y d) else surdF x y d * surdF (x * x + y * y * d - z * z * e) (2 * (x * y)) d
def sumsF (p q r s : Rat) : Int:=surdsF (p + q - (r + s)) 2 (p * q) (-2) (r * s)
theorem surd_mixed {x y d : Rat} : surdF x y d = mixedF x y d:=by
  unfold surdF mixedF
  generalize x.num.sign = s;generalize y.num.sign * d.num.sign = t;generalize cmpQ (x * x) (y * y * d) = c
  by_cases h1 : s = 0
  · rw [if_pos (.inl h1),if_pos h1,if_pos (.inl h1)]
  · by_cases h2 : s = t
    · rw [if_pos (.inr (.inr h2)),if_neg h1,if_pos (.inr h2),h2]
    · by_cases h3 : t = 0
      · rw [if_pos (.inr (.inl h3)),if_neg h1,if_neg (by omega),if_pos h3]
      · rw [if_neg (by omega),if_neg (by omega),if_neg h3]
theorem surd_sg {x y d : Rat} (hd : 0 ≤ d) : surdF x y d = sgR (RR.of x + RR.of y * rt d):=by rw [surd_mixed];exact mixed_sg hd
theorem surds_sg {x y d z e : Rat} (hd : 0 ≤ d) (he : 0 ≤ e) : surdsF x y d z e = sgR (RR.of x + RR.of y * rt d + RR.of z * rt e):=by
  unfold surdsF
  rw [surd_sg hd,surd_sg hd,sgR_add (u:=RR.of x + RR.of y * rt d)]
  rw [sgR_mul (RR.of z),sgR_of z,sgR_rt he]
  have hq : (RR.of x + RR.of y * rt d) * (RR.of x + RR.of y * rt d) - RR.of z * rt e * (RR.of z * rt e) = RR.of (x * x + y * y * d - z * z * e) + RR.of (2 * (x * y)) * rt d:=by
    have e1 : RR.of (x * x + y * y * d - z * z * e) = RR.of x * RR.of x + RR.of y * RR.of y * (rt d * rt d) - RR.of z * RR.of z * (rt e * rt e):=by
      rw [rt_sq hd,rt_sq he,RR.of_sub,RR.of_add,RR.of_mul,RR.of_mul,RR.of_mul,RR.of_mul,RR.of_mul]
    rw [e1,RR.of_mul,RR.of_mul]
    generalize RR.of x = a;generalize RR.of y = b;generalize rt d = c;generalize RR.of z = f;generalize rt e = g
    obtain ⟨a,ha,rfl⟩:=RR.rep a;obtain ⟨b,hb,rfl⟩:=RR.rep b;obtain ⟨c,hc,rfl⟩:=RR.rep c;obtain ⟨f,hf,rfl⟩:=RR.rep f;obtain ⟨g,hg,rfl⟩:=RR.rep g
    exact RR.ext fun n=>by grind
  rw [hq]
  generalize sgR (RR.of x + RR.of y * rt d) = s;generalize z.num.sign * e.num.sign = t;generalize sgR (RR.of (x * x + y * y * d - z * z * e) + RR.of (2 * (x * y)) * rt d) = c
  by_cases h1 : s = 0
  · rw [if_pos (.inl h1),if_pos h1,if_pos (.inl h1)]
  · by_cases h2 : s = t
    · rw [if_pos (.inr (.inr h2)),if_neg h1,if_pos (.inr h2),h2]
    · by_cases h3 : t = 0
      · rw [if_pos (.inr (.inl h3)),if_neg h1,if_neg (by omega),if_pos h3]
      · rw [if_neg (by omega),if_neg (by omega),if_neg h3]
theorem sums_four {p q r s : Rat} (hp : 0 ≤ p) (hq : 0 ≤ q) (hr : 0 ≤ r) (hs : 0 ≤ s) : sumsF p q r s = sgR ((rt p + rt q) - (rt r + rt s)):=by
  unfold sumsF
  rw [← roots_four hp hq hr hs,roots_sg (Rat.mul_nonneg hp hq) (Rat.mul_nonneg hr hs),surds_sg (Rat.mul_nonneg hp hq) (Rat.mul_nonneg hr hs)]
  congr 1
  rw [show RR.of (-2) = -RR.of 2 from rfl,RR.neg_mul,RR.sub_def]
end Go.Proofs.YtnjbcjmkkejfpaaGreatDoor
namespace Go.Proofs.YtnjbcjmkkejfpaaGreatDoor
open Go.RowKit (Below)
theorem chk_pos {l : List FR} (h : chkF l = 0) : l.all posR = true:=by
  unfold chkF at h
  cases hp : l.all posR with
  | true=>rfl
  | false=>rw [hp,if_neg (by decide)] at h;exact absurd h (by decide)
end Go.Proofs.YtnjbcjmkkejfpaaGreatDoor
namespace Go.Proofs.YtnjbcjmkkejfpaaGreatDoor
open Go.RowKit (Below)
theorem cmpQ_lt0 {x y : Rat} : cmpQ x y < 0 ↔ x < y:=by unfold cmpQ;split <;> (try split) <;> simp_all
section
variable {xs : List Rat} {p q i j k m : Nat}
end
end Go.Proofs.YtnjbcjmkkejfpaaGreatDoor
namespace Go.Proofs.YtnjbcjmkkejfpaaGreatDoor
open Go.RowKit (Below)
section
variable {a b c d s p q m : Rat}
theorem cmp4 (ha : 0 ≤ a) (hb : 0 ≤ b) (hc : 0 ≤ c) (hd : 0 ≤ d) : compareF [a,b] [c,d] = sgR ((rt a + rt b) - (rt c + rt d)):=roots_four ha hb hc hd
theorem min_comm : minQ a b = minQ b a:=by unfold minQ;split <;> split <;> grind
theorem max_le (h : a ≤ b) : maxQ a b = b:=by unfold maxQ;split <;> grind
theorem min_le (h : a ≤ b) : minQ a b = a:=by unfold minQ;rw [if_pos h]
variable (h0 : 0 ≤ s) (h1 : s ≤ p) (h2 : p ≤ q) (h3 : q ≤ m)
include h0 h1 h2 h3
end
end Go.Proofs.YtnjbcjmkkejfpaaGreatDoor
namespace Go.Proofs.YtnjbcjmkkejfpaaGreatDoor
end Go.Proofs.YtnjbcjmkkejfpaaGreatDoor
namespace Go.Proofs.YtnjbcjmkkejfpaaGreatDoor
section
variable {xs : List Rat} {a b c d : Nat}
end
end Go.Proofs.YtnjbcjmkkejfpaaGreatDoor
namespace Go.Proofs.YtnjbcjmkkejfpaaGreatDoor
end Go.Proofs.YtnjbcjmkkejfpaaGreatDoor
set_option linter.unusedVariables false
set_option linter.unusedSimpArgs false
set_option maxHeartbeats 4000000
set_option maxRecDepth 100000
set_option synthInstance.maxSize 100000
set_option synthInstance.maxHeartbeats 400000
namespace Go.Proofs.YtnjbcjmkkejfpaaGreatDoor
open Go.RowKit (Below)
attribute [local irreducible] Go.Code.wp Go.wpList Go.bodyPost
private theorem gS_ {W0 : World} {G0 : Gh} {N : Nat} {L : List (Nat × MT)} {B : List BX} {a : Act} {w : World} {G : Gh} {q : Prop} (h : St W0 G0 N L B a w G → q) : St W0 G0 N L B a w G → q:=h
private theorem gL_ {p : Prop} {P : Program} {arr : Array Oper} {Q : Exit → Act → World → Prop} {l : List Oper} {a : Act} {w : World} (h : p → wpList P arr Q l a w) : p → wpList P arr Q l a w:=h
private theorem gC_ {p : Prop} {P : Program} {c : Code} {Q : Exit → Act → World → Prop} {a : Act} {w : World} (h : p → c.wp P Q a w) : p → c.wp P Q a w:=h
private theorem mixedOrders : Tryz.prog.follows .mixedOrders = true:=by kernel_rfl
end Go.Proofs.YtnjbcjmkkejfpaaGreatDoor
set_option linter.unusedVariables false
set_option linter.unusedSimpArgs false
set_option maxHeartbeats 4000000
set_option maxRecDepth 100000
set_option synthInstance.maxSize 100000
set_option synthInstance.maxHeartbeats 400000
namespace Go.Proofs.YtnjbcjmkkejfpaaGreatDoor
open Go.RowKit (Below)
attribute [local irreducible] Go.Code.wp Go.wpList Go.bodyPost
instance {z : Int} : Con Tryz.prog 16 [.ex (errV 67 (z))] (True) (IT z):=.o1 fun hok h1 hp=>by
  refine St.enter (N:=15) Tryz.func16 rfl rfl rfl hok (enter1 h1) fun a=>?_
  repeat' (first|((with_reducible refine gS_ ?_);first|((with_reducible refine gL_ ?_);first|refine W.run ?_ fun a w G=>?_|refine W.mv fun a w G=>?_|refine W.asg fun a w G=>?_|refine W.bx fun b a w G=>?_|(refine W.nn hK ?_;clear hK K)|refine W.nl ?_|refine W.al fun b a w G=>?_|refine W.st fun w=>?_|refine W.stp fun w=>?_|refine W.ste ?_ fun w=>?_)|((with_reducible refine gC_ ?_);first|refine W.reg fun K hK=>?_|refine W.reg1 ?_|refine W.sq fun K hK=>?_|refine W.ds ?_ (fun β a w G hu=>W.fin ?_ hu) mixedOrders (by kernel_rfl)|refine W.sk ?_|refine W.cd (fun hc=>?_) (fun hc=>?_)|refine W.cb (fun hc=>?_) (fun hc=>?_)|refine W.bl ?_|refine W.ex ?_|refine W.rt ?_)|((with_reducible refine W.kn hK ?_);clear hK K)|(with_reducible first|refine W.bn ?_|refine W.xt ?_|refine W.xb ?_|refine W.xo ?_|refine W.tr ?_|refine W.br ?_)|refine W.rt1 rfl ?_|refine W.rt2 rfl ?_ ?_|refine W.rt3 rfl ?_ ?_ ?_)|clear hK K|clear hu|exact True.intro|exact Nat.le_trans (by clear hp;omega) hp|exact Nat.le_trans (by clear hp;omega) hp.1|exact Nat.le_trans (by clear hp;omega) hp.2|(clear hp;omega)|apply And.intro|refine GI.i fun _=>?_|with_reducible rfl|decide|(simp only [List.length_cons,List.length_nil];omega))
  all_goals (exact absurd hc (by decide))
instance {z c : Int} : Con Tryz.prog 26 [.ex (errV 67 (z)),IT c] (True) (BT (decide (z = c))):=.o2 fun hok h1 h2 hp=>by
  refine St.enter (N:=9) Tryz.func26 rfl rfl rfl hok (enter2 h1 h2) fun a=>?_
  repeat' (first|((with_reducible refine gS_ ?_);first|((with_reducible refine gL_ ?_);first|refine W.run ?_ fun a w G=>?_|refine W.mv fun a w G=>?_|refine W.asg fun a w G=>?_|refine W.bx fun b a w G=>?_|(refine W.nn hK ?_;clear hK K)|refine W.nl ?_|refine W.al fun b a w G=>?_|refine W.st fun w=>?_|refine W.stp fun w=>?_|refine W.ste ?_ fun w=>?_)|((with_reducible refine gC_ ?_);first|refine W.reg fun K hK=>?_|refine W.reg1 ?_|refine W.sq fun K hK=>?_|refine W.ds ?_ (fun β a w G hu=>W.fin ?_ hu) mixedOrders (by kernel_rfl)|refine W.sk ?_|refine W.cd (fun hc=>?_) (fun hc=>?_)|refine W.cb (fun hc=>?_) (fun hc=>?_)|refine W.bl ?_|refine W.ex ?_|refine W.rt ?_)|((with_reducible refine W.kn hK ?_);clear hK K)|(with_reducible first|refine W.bn ?_|refine W.xt ?_|refine W.xb ?_|refine W.xo ?_|refine W.tr ?_|refine W.br ?_)|refine W.rt1 rfl ?_|refine W.rt2 rfl ?_ ?_|refine W.rt3 rfl ?_ ?_ ?_)|clear hK K|clear hu|exact True.intro|exact Nat.le_trans (by clear hp;omega) hp|exact Nat.le_trans (by clear hp;omega) hp.1|exact Nat.le_trans (by clear hp;omega) hp.2|(clear hp;omega)|apply And.intro|refine GI.i fun _=>?_|with_reducible rfl|decide|(simp only [List.length_cons,List.length_nil];omega))
end Go.Proofs.YtnjbcjmkkejfpaaGreatDoor
namespace Go.Proofs.YtnjbcjmkkejfpaaGreatDoor
abbrev zFR : FR:=default
def dirC (h : Bool) (t : Rat) : Rat:=if h then -1 else (1 - t * t) / (1 + t * t)
def dirS (h : Bool) (t : Rat) : Rat:=if h then 0 else (t + t) / (1 + t * t)
theorem one_sq (t : Rat) : 1 + t * t ≠ 0:=by
  have : 0 ≤ t * t:=by
    rcases (Rat.le_total : 0 ≤ t ∨ t ≤ 0) with h | h
    · exact Rat.mul_nonneg h h
    · have:=Rat.mul_nonneg (show 0 ≤ -t by grind) (show 0 ≤ -t by grind);grind
  grind
def wayX (g a : Rat) (h : Bool) (t : Rat) : Rat:=g - a * dirC h t
def wayY (a : Rat) (h : Bool) (t : Rat) : Rat:=-(a * dirS h t)
def d2F (x y : Rat) : Rat:=x * x + y * y
def discF (b c d : Rat) : Rat:=4 * (b * c) - (b + c - d) * (b + c - d)
def dsc (g a b c : FR) (h : Bool) (t : Rat) : Rat:=discF b.val c.val (d2F (wayX g.val a.val h t) (wayY a.val h t))
def trnF (h : Bool) (t : FR) : Bool:=t.ok && (!h || decide (t.val.num.sign = 0))
def trnC (h : Bool) (t : FR) : Int:=if trnF h t then 0 else 2
def barC (l : List FR) : Int:=if l.all posR then 0 else 3
def sqF (g a b c : FR) : List FR:=[FR.of (g.val * g.val),FR.of (a.val * a.val),FR.of b.val,FR.of c.val]
def ciF (g a b c : FR) : Int:=if barC [g,a,b,c] = 0 then (if chkF (sqF g a b c) = 0 then (if g.val = a.val ∧ b.val = c.val then 15 else 0) else 16) else 3
def enR (g a b c : FR) : Int:=if ciF g a b c = 0 then (dsc g a b c false 0).num.sign else 0
def enL (g a b c : FR) : Int:=if ciF g a b c = 0 then (dsc g a b c true 0).num.sign else 0
def cirF (r l : Int) : List (Bool × Bool × Int) :=
  if r > 0 ∧ l > 0 then [(true,false,1),(true,false,-1)] else if r ≥ 0 ∧ l ≥ 0 then [(true,false,0)] else if r ≥ 0 ∨ l ≥ 0 then [(false,false,0)] else [(false,true,0),(false,false,0)]
def cirs (g a b c : FR) : List (Bool × Bool × Int):=if ciF g a b c = 0 then cirF (enR g a b c) (enL g a b c) else []
def quF (l : List FR) (j : Nat) : FR:=if barC l = 0 then FR.of (if j < 2 then (l.getD j default).val * (l.getD j default).val else (l.getD j default).val) else default
def btC (l : List FR) (h : Bool) (t : FR) : Int:=if barC l = 0 then trnC h t else 3
def exK (A B C D E : Bool) : Bool:=(A && B) || C || !(D == E)
def exC (g a b c : FR) (h : Bool) (t : FR) (m : Int) : Int :=
  if exK (decide (cmpQ (a.val * dirC h t.val) g.val = 0)) (decide ((a.val * dirS h t.val).num.sign = 0)) (decide ((dsc g a b c h t.val).num.sign < 0)) (decide ((dsc g a b c h t.val).num.sign = 0)) (decide (m = 0)) then 16 else 0
def ofC (g a b c : FR) (h : Bool) (t : FR) (m : Int) : Int:=if ciF g a b c = 0 then (if trnF h t then (if m < -1 ∨ m > 1 then 3 else exC g a b c h t m) else 2) else ciF g a b c
def ofK (l : List (Bool × Bool × Int)) (t : FR) (m : Int) : Bool:=((l.getD 0 default).1 && decide (m = -1)) || (!(l.getD 0 default).1 && decide (t.val.num.sign < 0))
def ofI (g a b c : FR) (h : Bool) (t : FR) (m : Int) : Int:=if ofC g a b c h t m = 0 then (if (cirs g a b c).length = 1 then 0 else if ofK (cirs g a b c) t m then 1 else 0) else 0
theorem trn_0 {h : Bool} {t : FR} (ht : trnF h t = true) : trnC h t = 0:=by unfold trnC;rw [if_pos ht]
theorem trn_zero {h : Bool} : trnF h zFR = true:=by cases h <;> rfl
theorem bar_3 {l : List FR} (h : l.all posR = false) : barC l = ((3 : Nat) : Int):=by unfold barC;rw [h];rfl
theorem bar_0 {l : List FR} (h : l.all posR = true) : barC l = 0:=by unfold barC;rw [h];rfl
theorem bar_pos {l : List FR} (h : barC l = 0) : l.all posR = true:=by
  unfold barC at h
  cases hp : l.all posR with
  | true=>rfl
  | false=>rw [hp] at h;exact absurd h (by decide)
theorem bar_two (l : List FR) : barC l = 0 ∨ barC l = 3:=by unfold barC;split <;> simp
theorem bt_0 {l : List FR} {h : Bool} {t : FR} (hb : barC l = 0) (ht : trnF h t = true) : btC l h t = 0:=by unfold btC;rw [if_pos hb,trn_0 ht]
theorem bt_3 {l : List FR} {h : Bool} {t : FR} (hb : barC l ≠ 0) : barC l = btC l h t:=by unfold btC;rw [if_neg hb];rcases bar_two l with e | e <;> omega
theorem bt_t {l : List FR} {h : Bool} {t : FR} (hb : barC l = 0) : trnC h t = btC l h t:=by unfold btC;rw [if_pos hb]
theorem trn_two (h : Bool) (t : FR) : trnC h t = 0 ∨ trnC h t = 2:=by unfold trnC;split <;> simp
theorem qu_bad {l : List FR} {j : Nat} (hb : barC l ≠ 0) : default = quF l j:=by unfold quF;rw [if_neg hb]
theorem cmpQ_eq0 {x y : Rat} : cmpQ x y = 0 ↔ x = y:=by unfold cmpQ;split <;> (try split) <;> simp_all <;> grind
end Go.Proofs.YtnjbcjmkkejfpaaGreatDoor
set_option linter.unusedVariables false
set_option linter.unusedSimpArgs false
set_option maxHeartbeats 4000000
set_option maxRecDepth 100000
set_option synthInstance.maxSize 100000
set_option synthInstance.maxHeartbeats 400000
namespace Go.Proofs.YtnjbcjmkkejfpaaGreatDoor
open Go.RowKit (Below)
attribute [local irreducible] Go.Code.wp Go.wpList Go.bodyPost
theorem zv0 : (default : FR).val = 0:=rfl
abbrev TRN (n : Nat) (t : FR) (h : Bool) : MT:=PTS [(some 3,FX n t),(none,BT h)]
abbrev PLQ (n : Nat) (x y : Rat) : MT:=PTS [(some 3,QC n x),(some 3,QC n y)]
theorem w173 {n m : Nat} {x y : Rat} : Con Tryz.prog 173 [QV n x,QV m y] (y ≠ 0 ∧ n + m ≤ BIG) (QC (n + m) (x / y)):=.o2 fun hok h1 h2 hp=>by
  refine St.enter (N:=17) Tryz.func173 rfl rfl rfl hok (enter2 h1 h2) fun a=>?_
  repeat' (first|((with_reducible refine gS_ ?_);first|((with_reducible refine gL_ ?_);first|refine W.run ?_ fun a w G=>?_|refine W.mv fun a w G=>?_|refine W.asg fun a w G=>?_|refine W.bx fun b a w G=>?_|(refine W.nn hK ?_;clear hK K)|refine W.nl ?_|refine W.al fun b a w G=>?_|refine W.st fun w=>?_|refine W.stp fun w=>?_|refine W.ste ?_ fun w=>?_)|((with_reducible refine gC_ ?_);first|refine W.reg fun K hK=>?_|refine W.reg1 ?_|refine W.sq fun K hK=>?_|refine W.ds ?_ (fun β a w G hu=>W.fin ?_ hu) mixedOrders (by kernel_rfl)|refine W.sk ?_|refine W.cd (fun hc=>?_) (fun hc=>?_)|refine W.cb (fun hc=>?_) (fun hc=>?_)|refine W.bl ?_|refine W.ex ?_|refine W.rt ?_)|((with_reducible refine W.kn hK ?_);clear hK K)|(with_reducible first|refine W.bn ?_|refine W.xt ?_|refine W.xb ?_|refine W.xo ?_|refine W.tr ?_|refine W.br ?_)|refine W.rt1 rfl ?_|refine W.rt2 rfl ?_ ?_|refine W.rt3 rfl ?_ ?_ ?_)|clear hK K|clear hu|exact True.intro|exact Nat.le_trans (by clear hp;omega) hp|exact Nat.le_trans (by clear hp;omega) hp.1|exact Nat.le_trans (by clear hp;omega) hp.2|(clear hp;omega)|apply And.intro|refine GI.i fun _=>?_|with_reducible rfl|decide|(simp only [List.length_cons,List.length_nil];omega))
  all_goals (first | exact hp.1 | exact hp.2 | (exfalso;simp_all))
instance iK2_84 {n m : Nat} {x y : Rat} {τ1 : MT} [j1 : NQ τ1 (QV n x)] {τ2 : MT} [j2 : NQ τ2 (QV m y)] : Con Tryz.prog 173 [τ1,τ2] (y ≠ 0 ∧ n + m ≤ BIG) (QC (n + m) (x / y)):=.o2 fun hok h1 h2 hp=>w173.c2 hok (j1.h h1) (j2.h h2) hp
theorem w100 {m : Nat} {t : FR} {h : Bool} : Con Tryz.prog 100 [TRN m t h] (10000 * m + 100000 ≤ BIG) (.ex (errV 67 (trnC h t))):=.o1 fun hok h1 hp=>by
  refine St.enter (N:=18) Tryz.func100 rfl rfl rfl hok (enter1 h1) fun a=>?_
  repeat' (first|((with_reducible refine gS_ ?_);first|((with_reducible refine gL_ ?_);first|refine W.run ?_ fun a w G=>?_|refine W.mv fun a w G=>?_|refine W.asg fun a w G=>?_|refine W.bx fun b a w G=>?_|(refine W.nn hK ?_;clear hK K)|refine W.nl ?_|refine W.al fun b a w G=>?_|refine W.st fun w=>?_|refine W.stp fun w=>?_|refine W.ste ?_ fun w=>?_)|((with_reducible refine gC_ ?_);first|refine W.reg fun K hK=>?_|refine W.reg1 ?_|refine W.sq fun K hK=>?_|refine W.ds ?_ (fun β a w G hu=>W.fin ?_ hu) mixedOrders (by kernel_rfl)|refine W.sk ?_|refine W.cd (fun hc=>?_) (fun hc=>?_)|refine W.cb (fun hc=>?_) (fun hc=>?_)|refine W.bl ?_|refine W.ex ?_|refine W.rt ?_)|((with_reducible refine W.kn hK ?_);clear hK K)|(with_reducible first|refine W.bn ?_|refine W.xt ?_|refine W.xb ?_|refine W.xo ?_|refine W.tr ?_|refine W.br ?_)|refine W.rt1 rfl ?_|refine W.rt2 rfl ?_ ?_|refine W.rt3 rfl ?_ ?_ ?_)|clear hK K|clear hu|exact True.intro|exact Nat.le_trans (by clear hp;omega) hp|exact Nat.le_trans (by clear hp;omega) hp.1|exact Nat.le_trans (by clear hp;omega) hp.2|(clear hp;omega)|apply And.intro|refine GI.i fun _=>?_|with_reducible rfl|decide|(simp only [List.length_cons,List.length_nil];omega))
  all_goals (unfold trnC trnF;grind)
instance iK2_85 {m : Nat} {t : FR} {h : Bool} {τ1 : MT} [j1 : NF τ1 (TRN m t h)] : Con Tryz.prog 100 [τ1] (10000 * m + 100000 ≤ BIG) (.ex (errV 67 (trnC h t))):=.o1 fun hok h1 hp=>w100.c1 hok (j1.h h1) hp
theorem w143 {m : Nat} {t : FR} {h : Bool} : Con Tryz.prog 143 [TRN m t h] (10000 * m + 100000 ≤ BIG) (MT.tup2 (QC (4 * m + 130) (dirC h t.val)) (QC (4 * m + 130) (dirS h t.val))):=.o1 fun hok h1 hp=>by
  refine St.enter (N:=32) Tryz.func143 rfl rfl rfl hok (enter1 h1) fun a=>?_
  repeat' (first|((with_reducible refine gS_ ?_);first|((with_reducible refine gL_ ?_);first|refine W.run ?_ fun a w G=>?_|refine W.mv fun a w G=>?_|refine W.asg fun a w G=>?_|refine W.bx fun b a w G=>?_|(refine W.nn hK ?_;clear hK K)|refine W.nl ?_|refine W.al fun b a w G=>?_|refine W.st fun w=>?_|refine W.stp fun w=>?_|refine W.ste ?_ fun w=>?_)|((with_reducible refine gC_ ?_);first|refine W.reg fun K hK=>?_|refine W.reg1 ?_|refine W.sq fun K hK=>?_|refine W.ds ?_ (fun β a w G hu=>W.fin ?_ hu) mixedOrders (by kernel_rfl)|refine W.sk ?_|refine W.cd (fun hc=>?_) (fun hc=>?_)|refine W.cb (fun hc=>?_) (fun hc=>?_)|refine W.bl ?_|refine W.ex ?_|refine W.rt ?_)|((with_reducible refine W.kn hK ?_);clear hK K)|(with_reducible first|refine W.bn ?_|refine W.xt ?_|refine W.xb ?_|refine W.xo ?_|refine W.tr ?_|refine W.br ?_)|refine W.rt1 rfl ?_|refine W.rt2 rfl ?_ ?_|refine W.rt3 rfl ?_ ?_ ?_)|clear hK K|clear hu|exact True.intro|exact Nat.le_trans (by clear hp;omega) hp|exact Nat.le_trans (by clear hp;omega) hp.1|exact Nat.le_trans (by clear hp;omega) hp.2|(clear hp;omega)|apply And.intro|refine GI.i fun _=>?_|with_reducible rfl|decide|(simp only [List.length_cons,List.length_nil];omega))
  all_goals first | exact one_sq _ | simp_all [dirC,dirS,zv0]
instance iK2_86 {m : Nat} {t : FR} {h : Bool} {τ1 : MT} [j1 : NF τ1 (TRN m t h)] : Con Tryz.prog 143 [τ1] (10000 * m + 100000 ≤ BIG) (MT.tup2 (QC (4 * m + 130) (dirC h t.val)) (QC (4 * m + 130) (dirS h t.val))):=.o1 fun hok h1 hp=>w143.c1 hok (j1.h h1) hp
theorem w101 {m : Nat} {t : FR} {h : Bool} : Con Tryz.prog 101 [TRN m t h] (10000 * m + 100000 ≤ BIG ∧ trnF h t = true) (MT.tup2 (QC (4 * m + 130) (dirC h t.val)) (.ex (errV 67 (0)))):=.o1 fun hok h1 hp=>by
  refine St.enter (N:=19) Tryz.func101 rfl rfl rfl hok (enter1 h1) fun a=>?_
  have ht:=trn_0 hp.2
  repeat' (first|((with_reducible refine gS_ ?_);first|((with_reducible refine gL_ ?_);first|refine W.run ?_ fun a w G=>?_|refine W.mv fun a w G=>?_|refine W.asg fun a w G=>?_|refine W.bx fun b a w G=>?_|(refine W.nn hK ?_;clear hK K)|refine W.nl ?_|refine W.al fun b a w G=>?_|refine W.st fun w=>?_|refine W.stp fun w=>?_|refine W.ste ?_ fun w=>?_)|((with_reducible refine gC_ ?_);first|refine W.reg fun K hK=>?_|refine W.reg1 ?_|refine W.sq fun K hK=>?_|refine W.ds ?_ (fun β a w G hu=>W.fin ?_ hu) mixedOrders (by kernel_rfl)|refine W.sk ?_|refine W.cd (fun hc=>?_) (fun hc=>?_)|refine W.cb (fun hc=>?_) (fun hc=>?_)|refine W.bl ?_|refine W.ex ?_|refine W.rt ?_)|((with_reducible refine W.kn hK ?_);clear hK K)|(with_reducible first|refine W.bn ?_|refine W.xt ?_|refine W.xb ?_|refine W.xo ?_|refine W.tr ?_|refine W.br ?_)|refine W.rt1 rfl ?_|refine W.rt2 rfl ?_ ?_|refine W.rt3 rfl ?_ ?_ ?_)|clear hK K|clear hu|exact True.intro|exact Nat.le_trans (by clear hp;omega) hp|exact Nat.le_trans (by clear hp;omega) hp.1|exact Nat.le_trans (by clear hp;omega) hp.2|(clear hp;omega)|apply And.intro|refine GI.i fun _=>?_|with_reducible rfl|decide|(simp only [List.length_cons,List.length_nil];omega))
  all_goals first | exact hp.2 | (exfalso;omega) | assumption
instance iK2_87 {m : Nat} {t : FR} {h : Bool} {τ1 : MT} [j1 : NF τ1 (TRN m t h)] : Con Tryz.prog 101 [τ1] (10000 * m + 100000 ≤ BIG ∧ trnF h t = true) (MT.tup2 (QC (4 * m + 130) (dirC h t.val)) (.ex (errV 67 (0)))):=.o1 fun hok h1 hp=>w101.c1 hok (j1.h h1) hp
theorem w102 {m : Nat} {t : FR} {h : Bool} : Con Tryz.prog 102 [TRN m t h] (10000 * m + 100000 ≤ BIG ∧ trnF h t = true) (MT.tup2 (QC (4 * m + 130) (dirS h t.val)) (.ex (errV 67 (0)))):=.o1 fun hok h1 hp=>by
  refine St.enter (N:=19) Tryz.func102 rfl rfl rfl hok (enter1 h1) fun a=>?_
  have ht:=trn_0 hp.2
  repeat' (first|((with_reducible refine gS_ ?_);first|((with_reducible refine gL_ ?_);first|refine W.run ?_ fun a w G=>?_|refine W.mv fun a w G=>?_|refine W.asg fun a w G=>?_|refine W.bx fun b a w G=>?_|(refine W.nn hK ?_;clear hK K)|refine W.nl ?_|refine W.al fun b a w G=>?_|refine W.st fun w=>?_|refine W.stp fun w=>?_|refine W.ste ?_ fun w=>?_)|((with_reducible refine gC_ ?_);first|refine W.reg fun K hK=>?_|refine W.reg1 ?_|refine W.sq fun K hK=>?_|refine W.ds ?_ (fun β a w G hu=>W.fin ?_ hu) mixedOrders (by kernel_rfl)|refine W.sk ?_|refine W.cd (fun hc=>?_) (fun hc=>?_)|refine W.cb (fun hc=>?_) (fun hc=>?_)|refine W.bl ?_|refine W.ex ?_|refine W.rt ?_)|((with_reducible refine W.kn hK ?_);clear hK K)|(with_reducible first|refine W.bn ?_|refine W.xt ?_|refine W.xb ?_|refine W.xo ?_|refine W.tr ?_|refine W.br ?_)|refine W.rt1 rfl ?_|refine W.rt2 rfl ?_ ?_|refine W.rt3 rfl ?_ ?_ ?_)|clear hK K|clear hu|exact True.intro|exact Nat.le_trans (by clear hp;omega) hp|exact Nat.le_trans (by clear hp;omega) hp.1|exact Nat.le_trans (by clear hp;omega) hp.2|(clear hp;omega)|apply And.intro|refine GI.i fun _=>?_|with_reducible rfl|decide|(simp only [List.length_cons,List.length_nil];omega))
  all_goals first | exact hp.2 | (exfalso;omega) | assumption
instance iK2_88 {m : Nat} {t : FR} {h : Bool} {τ1 : MT} [j1 : NF τ1 (TRN m t h)] : Con Tryz.prog 102 [τ1] (10000 * m + 100000 ≤ BIG ∧ trnF h t = true) (MT.tup2 (QC (4 * m + 130) (dirS h t.val)) (.ex (errV 67 (0)))):=.o1 fun hok h1 hp=>w102.c1 hok (j1.h h1) hp
theorem w52 {m : Nat} {t : FR} {h : Bool} : Con Tryz.prog 52 [TRN m t h] (10000 * m + 100000 ≤ BIG ∧ trnF h t = true) (MT.tup3 (QC (4 * m + 130) (dirC h t.val)) (QC (4 * m + 130) (dirS h t.val)) (.ex (errV 67 (0)))):=.o1 fun hok h1 hp=>by
  refine St.enter (N:=29) Tryz.func52 rfl rfl rfl hok (enter1 h1) fun a=>?_
  have ht:=trn_0 hp.2
  repeat' (first|((with_reducible refine gS_ ?_);first|((with_reducible refine gL_ ?_);first|refine W.run ?_ fun a w G=>?_|refine W.mv fun a w G=>?_|refine W.asg fun a w G=>?_|refine W.bx fun b a w G=>?_|(refine W.nn hK ?_;clear hK K)|refine W.nl ?_|refine W.al fun b a w G=>?_|refine W.st fun w=>?_|refine W.stp fun w=>?_|refine W.ste ?_ fun w=>?_)|((with_reducible refine gC_ ?_);first|refine W.reg fun K hK=>?_|refine W.reg1 ?_|refine W.sq fun K hK=>?_|refine W.ds ?_ (fun β a w G hu=>W.fin ?_ hu) mixedOrders (by kernel_rfl)|refine W.sk ?_|refine W.cd (fun hc=>?_) (fun hc=>?_)|refine W.cb (fun hc=>?_) (fun hc=>?_)|refine W.bl ?_|refine W.ex ?_|refine W.rt ?_)|((with_reducible refine W.kn hK ?_);clear hK K)|(with_reducible first|refine W.bn ?_|refine W.xt ?_|refine W.xb ?_|refine W.xo ?_|refine W.tr ?_|refine W.br ?_)|refine W.rt1 rfl ?_|refine W.rt2 rfl ?_ ?_|refine W.rt3 rfl ?_ ?_ ?_)|clear hK K|clear hu|exact True.intro|exact Nat.le_trans (by clear hp;omega) hp|exact Nat.le_trans (by clear hp;omega) hp.1|exact Nat.le_trans (by clear hp;omega) hp.2|(clear hp;omega)|apply And.intro|refine GI.i fun _=>?_|with_reducible rfl|decide|(simp only [List.length_cons,List.length_nil];omega))
  all_goals first | exact hp.2 | (exfalso;omega) | assumption
instance iK2_89 {m : Nat} {t : FR} {h : Bool} {τ1 : MT} [j1 : NF τ1 (TRN m t h)] : Con Tryz.prog 52 [τ1] (10000 * m + 100000 ≤ BIG ∧ trnF h t = true) (MT.tup3 (QC (4 * m + 130) (dirC h t.val)) (QC (4 * m + 130) (dirS h t.val)) (.ex (errV 67 (0)))):=.o1 fun hok h1 hp=>w52.c1 hok (j1.h h1) hp
theorem w23 {n : Nat} {rg ra rb rc : FR} : Con Tryz.prog 23 [QUD n rg ra rb rc] (10000 * n + 100000 ≤ BIG) (.ex (errV 67 (barC [rg,ra,rb,rc]))):=.o1 fun hok h1 hp=>by
  refine St.enter (N:=29) Tryz.func23 rfl rfl rfl hok (enter1 h1) fun a=>?_
  repeat' (first|((with_reducible refine gS_ ?_);first|((with_reducible refine gL_ ?_);first|refine W.run ?_ fun a w G=>?_|refine W.mv fun a w G=>?_|refine W.asg fun a w G=>?_|refine W.bx fun b a w G=>?_|(refine W.nn hK ?_;clear hK K)|refine W.nl ?_|refine W.al fun b a w G=>?_|refine W.st fun w=>?_|refine W.stp fun w=>?_|refine W.ste ?_ fun w=>?_)|((with_reducible refine gC_ ?_);first|refine W.reg fun K hK=>?_|refine W.reg1 ?_|refine W.sq fun K hK=>?_|refine W.ds ?_ (fun β a w G hu=>W.fin ?_ hu) mixedOrders (by kernel_rfl)|refine W.sk ?_|refine W.cd (fun hc=>?_) (fun hc=>?_)|refine W.cb (fun hc=>?_) (fun hc=>?_)|refine W.bl ?_|refine W.ex ?_|refine W.rt ?_)|((with_reducible refine W.kn hK ?_);clear hK K)|(with_reducible first|refine W.bn ?_|refine W.xt ?_|refine W.xb ?_|refine W.xo ?_|refine W.tr ?_|refine W.br ?_)|refine W.rt1 rfl ?_|refine W.rt2 rfl ?_ ?_|refine W.rt3 rfl ?_ ?_ ?_)|refine W.lp 16 (α:=Nat) (fun j=>4 - j) (fun j=>j ≤ 4 ∧ ([rg,ra,rb,rc].take j).all posR = true) [2,4,13,14,15,16,17,18,19,20,21,22,23,24,25,26,27,28] (fun j=>[(15,NT j),(14,NT 4),(13,LS (some 3) ([rg,ra,rb,rc].map (FX n)))]) (fun j=>[]) (0) ?_ ?_ ?_ fun j hj a w G=>?_|refine W.ag (x:=j) (j+1) ?_ ?_ ?_ ?_|clear hK K|clear hu|exact True.intro|exact Nat.le_trans (by clear hp;omega) hp|exact Nat.le_trans (by clear hp;omega) hp.1|exact Nat.le_trans (by clear hp;omega) hp.2|(clear hp;omega)|apply And.intro|refine GI.i fun _=>?_|with_reducible rfl|decide|(simp only [List.length_cons,List.length_nil];omega))
  all_goals first | rfl | exact (bar_3 (all_not (show j < 4 by omega) (posR_t hc))).symm | exact all_snoc (show j < 4 by omega) hj.2 (posR_f hc) | exact bar_0 (all_end (show ¬ j < 4 by omega) hj.2)
instance iK2_90 {n : Nat} {rg ra rb rc : FR} {τ1 : MT} [j1 : NF τ1 (QUD n rg ra rb rc)] : Con Tryz.prog 23 [τ1] (10000 * n + 100000 ≤ BIG) (.ex (errV 67 (barC [rg,ra,rb,rc]))):=.o1 fun hok h1 hp=>w23.c1 hok (j1.h h1) hp
end Go.Proofs.YtnjbcjmkkejfpaaGreatDoor
set_option linter.unusedVariables false
set_option linter.unusedSimpArgs false
set_option maxHeartbeats 4000000
set_option maxRecDepth 100000
set_option synthInstance.maxSize 100000
set_option synthInstance.maxHeartbeats 400000
namespace Go.Proofs.YtnjbcjmkkejfpaaGreatDoor
open Go.RowKit (Below)
attribute [local irreducible] Go.Code.wp Go.wpList Go.bodyPost
attribute [local irreducible] barC trnC btC
theorem w70 {n m : Nat} {rg ra rb rc t : FR} {h : Bool} : Con Tryz.prog 70 [QUD n rg ra rb rc,TRN m t h] (10000 * n + 10000 * m + 100000 ≤ BIG) (.ex (errV 67 (btC [rg,ra,rb,rc] h t))):=.o2 fun hok h1 h2 hp=>by
  refine St.enter (N:=15) Tryz.func70 rfl rfl rfl hok (enter2 h1 h2) fun a=>?_
  repeat' (first|((with_reducible refine gS_ ?_);first|((with_reducible refine gL_ ?_);first|refine W.run ?_ fun a w G=>?_|refine W.mv fun a w G=>?_|refine W.asg fun a w G=>?_|refine W.bx fun b a w G=>?_|(refine W.nn hK ?_;clear hK K)|refine W.nl ?_|refine W.al fun b a w G=>?_|refine W.st fun w=>?_|refine W.stp fun w=>?_|refine W.ste ?_ fun w=>?_)|((with_reducible refine gC_ ?_);first|refine W.reg fun K hK=>?_|refine W.reg1 ?_|refine W.sq fun K hK=>?_|refine W.ds ?_ (fun β a w G hu=>W.fin ?_ hu) mixedOrders (by kernel_rfl)|refine W.sk ?_|refine W.cd (fun hc=>?_) (fun hc=>?_)|refine W.cb (fun hc=>?_) (fun hc=>?_)|refine W.bl ?_|refine W.ex ?_|refine W.rt ?_)|((with_reducible refine W.kn hK ?_);clear hK K)|(with_reducible first|refine W.bn ?_|refine W.xt ?_|refine W.xb ?_|refine W.xo ?_|refine W.tr ?_|refine W.br ?_)|refine W.rt1 rfl ?_|refine W.rt2 rfl ?_ ?_|refine W.rt3 rfl ?_ ?_ ?_)|clear hK K|clear hu|exact True.intro|exact Nat.le_trans (by clear hp;omega) hp|exact Nat.le_trans (by clear hp;omega) hp.1|exact Nat.le_trans (by clear hp;omega) hp.2|(clear hp;omega)|apply And.intro|refine GI.i fun _=>?_|with_reducible rfl|decide|(simp only [List.length_cons,List.length_nil];omega))
  all_goals grind [btC,bar_two,trn_two]
instance iK3_91 {n m : Nat} {rg ra rb rc t : FR} {h : Bool} {τ1 : MT} [j1 : NF τ1 (QUD n rg ra rb rc)] {τ2 : MT} [j2 : NF τ2 (TRN m t h)] : Con Tryz.prog 70 [τ1,τ2] (10000 * n + 10000 * m + 100000 ≤ BIG) (.ex (errV 67 (btC [rg,ra,rb,rc] h t))):=.o2 fun hok h1 h2 hp=>w70.c2 hok (j1.h h1) (j2.h h2) hp
theorem w69 {n : Nat} {x : Rat} : Con Tryz.prog 69 [QV n x] (n + n ≤ BIG) (QC (n + n) (x * x)):=.o1 fun hok h1 hp=>by
  refine St.enter (N:=6) Tryz.func69 rfl rfl rfl hok (enter1 h1) fun a=>?_
  repeat' (first|((with_reducible refine gS_ ?_);first|((with_reducible refine gL_ ?_);first|refine W.run ?_ fun a w G=>?_|refine W.mv fun a w G=>?_|refine W.asg fun a w G=>?_|refine W.bx fun b a w G=>?_|(refine W.nn hK ?_;clear hK K)|refine W.nl ?_|refine W.al fun b a w G=>?_|refine W.st fun w=>?_|refine W.stp fun w=>?_|refine W.ste ?_ fun w=>?_)|((with_reducible refine gC_ ?_);first|refine W.reg fun K hK=>?_|refine W.reg1 ?_|refine W.sq fun K hK=>?_|refine W.ds ?_ (fun β a w G hu=>W.fin ?_ hu) mixedOrders (by kernel_rfl)|refine W.sk ?_|refine W.cd (fun hc=>?_) (fun hc=>?_)|refine W.cb (fun hc=>?_) (fun hc=>?_)|refine W.bl ?_|refine W.ex ?_|refine W.rt ?_)|((with_reducible refine W.kn hK ?_);clear hK K)|(with_reducible first|refine W.bn ?_|refine W.xt ?_|refine W.xb ?_|refine W.xo ?_|refine W.tr ?_|refine W.br ?_)|refine W.rt1 rfl ?_|refine W.rt2 rfl ?_ ?_|refine W.rt3 rfl ?_ ?_ ?_)|clear hK K|clear hu|exact True.intro|exact Nat.le_trans (by clear hp;omega) hp|exact Nat.le_trans (by clear hp;omega) hp.1|exact Nat.le_trans (by clear hp;omega) hp.2|(clear hp;omega)|apply And.intro|refine GI.i fun _=>?_|with_reducible rfl|decide|(simp only [List.length_cons,List.length_nil];omega))
instance iK3_92 {n : Nat} {x : Rat} {τ1 : MT} [j1 : NQ τ1 (QV n x)] : Con Tryz.prog 69 [τ1] (n + n ≤ BIG) (QC (n + n) (x * x)):=.o1 fun hok h1 hp=>w69.c1 hok (j1.h h1) hp
theorem w60 {n : Nat} {x : Rat} : Con Tryz.prog 60 [QV n x] (n + 2 ≤ BIG) (QC (n + 2) x):=.o1 fun hok h1 hp=>by
  refine St.enter (N:=6) Tryz.func60 rfl rfl rfl hok (enter1 h1) fun a=>?_
  repeat' (first|((with_reducible refine gS_ ?_);first|((with_reducible refine gL_ ?_);first|refine W.run ?_ fun a w G=>?_|refine W.mv fun a w G=>?_|refine W.asg fun a w G=>?_|refine W.bx fun b a w G=>?_|(refine W.nn hK ?_;clear hK K)|refine W.nl ?_|refine W.al fun b a w G=>?_|refine W.st fun w=>?_|refine W.stp fun w=>?_|refine W.ste ?_ fun w=>?_)|((with_reducible refine gC_ ?_);first|refine W.reg fun K hK=>?_|refine W.reg1 ?_|refine W.sq fun K hK=>?_|refine W.ds ?_ (fun β a w G hu=>W.fin ?_ hu) mixedOrders (by kernel_rfl)|refine W.sk ?_|refine W.cd (fun hc=>?_) (fun hc=>?_)|refine W.cb (fun hc=>?_) (fun hc=>?_)|refine W.bl ?_|refine W.ex ?_|refine W.rt ?_)|((with_reducible refine W.kn hK ?_);clear hK K)|(with_reducible first|refine W.bn ?_|refine W.xt ?_|refine W.xb ?_|refine W.xo ?_|refine W.tr ?_|refine W.br ?_)|refine W.rt1 rfl ?_|refine W.rt2 rfl ?_ ?_|refine W.rt3 rfl ?_ ?_ ?_)|clear hK K|clear hu|exact True.intro|exact Nat.le_trans (by clear hp;omega) hp|exact Nat.le_trans (by clear hp;omega) hp.1|exact Nat.le_trans (by clear hp;omega) hp.2|(clear hp;omega)|apply And.intro|refine GI.i fun _=>?_|with_reducible rfl|decide|(simp only [List.length_cons,List.length_nil];omega))
  all_goals grind [zv0]
instance iK3_93 {n : Nat} {x : Rat} {τ1 : MT} [j1 : NQ τ1 (QV n x)] : Con Tryz.prog 60 [τ1] (n + 2 ≤ BIG) (QC (n + 2) x):=.o1 fun hok h1 hp=>w60.c1 hok (j1.h h1) hp
theorem w20 {n : Nat} {rg ra rb rc : FR} : Con Tryz.prog 20 [QUD n rg ra rb rc] (10000 * n + 100000 ≤ BIG) (MT.tup2 (PTS [(some 3,FX (2 * n + 2) (quF [rg,ra,rb,rc] 0)),(some 3,FX (2 * n + 2) (quF [rg,ra,rb,rc] 1)),(some 3,FX (2 * n + 2) (quF [rg,ra,rb,rc] 2)),(some 3,FX (2 * n + 2) (quF [rg,ra,rb,rc] 3))]) (.ex (errV 67 (barC [rg,ra,rb,rc])))):=.o1 fun hok h1 hp=>by
  refine St.enter (N:=24) Tryz.func20 rfl rfl rfl hok (enter1 h1) fun a=>?_
  repeat' (first|((with_reducible refine gS_ ?_);first|((with_reducible refine gL_ ?_);first|refine W.run ?_ fun a w G=>?_|refine W.mv fun a w G=>?_|refine W.asg fun a w G=>?_|refine W.bx fun b a w G=>?_|(refine W.nn hK ?_;clear hK K)|refine W.nl ?_|refine W.al fun b a w G=>?_|refine W.st fun w=>?_|refine W.stp fun w=>?_|refine W.ste ?_ fun w=>?_)|((with_reducible refine gC_ ?_);first|refine W.reg fun K hK=>?_|refine W.reg1 ?_|refine W.sq fun K hK=>?_|refine W.ds ?_ (fun β a w G hu=>W.fin ?_ hu) mixedOrders (by kernel_rfl)|refine W.sk ?_|refine W.cd (fun hc=>?_) (fun hc=>?_)|refine W.cb (fun hc=>?_) (fun hc=>?_)|refine W.bl ?_|refine W.ex ?_|refine W.rt ?_)|((with_reducible refine W.kn hK ?_);clear hK K)|(with_reducible first|refine W.bn ?_|refine W.xt ?_|refine W.xb ?_|refine W.xo ?_|refine W.tr ?_|refine W.br ?_)|refine W.rt1 rfl ?_|refine W.rt2 rfl ?_ ?_|refine W.rt3 rfl ?_ ?_ ?_)|clear hK K|clear hu|exact True.intro|exact Nat.le_trans (by clear hp;omega) hp|exact Nat.le_trans (by clear hp;omega) hp.1|exact Nat.le_trans (by clear hp;omega) hp.2|(clear hp;omega)|apply And.intro|refine GI.i fun _=>?_|with_reducible rfl|decide|(simp only [List.length_cons,List.length_nil];omega))
  all_goals first | exact qu_bad hc | (unfold quF;rw [if_pos (by omega)];rfl)
instance iK3_94 {n : Nat} {rg ra rb rc : FR} {τ1 : MT} [j1 : NF τ1 (QUD n rg ra rb rc)] : Con Tryz.prog 20 [τ1] (10000 * n + 100000 ≤ BIG) (MT.tup2 (PTS [(some 3,FX (2 * n + 2) (quF [rg,ra,rb,rc] 0)),(some 3,FX (2 * n + 2) (quF [rg,ra,rb,rc] 1)),(some 3,FX (2 * n + 2) (quF [rg,ra,rb,rc] 2)),(some 3,FX (2 * n + 2) (quF [rg,ra,rb,rc] 3))]) (.ex (errV 67 (barC [rg,ra,rb,rc])))):=.o1 fun hok h1 hp=>w20.c1 hok (j1.h h1) hp
theorem w21 {n m : Nat} {rg ra rb rc t : FR} {h : Bool} : Con Tryz.prog 21 [QUD n rg ra rb rc,TRN m t h] (10000 * n + 10000 * m + 100000 ≤ BIG ∧ barC [rg,ra,rb,rc] = 0 ∧ trnF h t = true) (MT.tup2 (PLQ (n + 4 * m + 130) (ra.val * dirC h t.val) (ra.val * dirS h t.val)) (.ex (errV 67 (0)))):=.o2 fun hok h1 h2 hp=>by
  refine St.enter (N:=36) Tryz.func21 rfl rfl rfl hok (enter2 h1 h2) fun a=>?_
  have hb:=hp.2.1
  have ht:=trn_0 hp.2.2
  have hbt:=bt_0 hp.2.1 hp.2.2
  repeat' (first|((with_reducible refine gS_ ?_);first|((with_reducible refine gL_ ?_);first|refine W.run ?_ fun a w G=>?_|refine W.mv fun a w G=>?_|refine W.asg fun a w G=>?_|refine W.bx fun b a w G=>?_|(refine W.nn hK ?_;clear hK K)|refine W.nl ?_|refine W.al fun b a w G=>?_|refine W.st fun w=>?_|refine W.stp fun w=>?_|refine W.ste ?_ fun w=>?_)|((with_reducible refine gC_ ?_);first|refine W.reg fun K hK=>?_|refine W.reg1 ?_|refine W.sq fun K hK=>?_|refine W.ds ?_ (fun β a w G hu=>W.fin ?_ hu) mixedOrders (by kernel_rfl)|refine W.sk ?_|refine W.cd (fun hc=>?_) (fun hc=>?_)|refine W.cb (fun hc=>?_) (fun hc=>?_)|refine W.bl ?_|refine W.ex ?_|refine W.rt ?_)|((with_reducible refine W.kn hK ?_);clear hK K)|(with_reducible first|refine W.bn ?_|refine W.xt ?_|refine W.xb ?_|refine W.xo ?_|refine W.tr ?_|refine W.br ?_)|refine W.rt1 rfl ?_|refine W.rt2 rfl ?_ ?_|refine W.rt3 rfl ?_ ?_ ?_)|clear hK K|clear hu|exact True.intro|exact Nat.le_trans (by clear hp;omega) hp|exact Nat.le_trans (by clear hp;omega) hp.1|exact Nat.le_trans (by clear hp;omega) hp.2|(clear hp;omega)|apply And.intro|refine GI.i fun _=>?_|with_reducible rfl|decide|(simp only [List.length_cons,List.length_nil];omega))
  all_goals first | (exfalso;omega) | assumption | exact hp.2.2 | exact hp.2.1 | rfl
instance iK3_95 {n m : Nat} {rg ra rb rc t : FR} {h : Bool} {τ1 : MT} [j1 : NF τ1 (QUD n rg ra rb rc)] {τ2 : MT} [j2 : NF τ2 (TRN m t h)] : Con Tryz.prog 21 [τ1,τ2] (10000 * n + 10000 * m + 100000 ≤ BIG ∧ barC [rg,ra,rb,rc] = 0 ∧ trnF h t = true) (MT.tup2 (PLQ (n + 4 * m + 130) (ra.val * dirC h t.val) (ra.val * dirS h t.val)) (.ex (errV 67 (0)))):=.o2 fun hok h1 h2 hp=>w21.c2 hok (j1.h h1) (j2.h h2) hp
theorem w56 {n m : Nat} {rg ra rb rc t : FR} {h : Bool} : Con Tryz.prog 56 [QUD n rg ra rb rc,TRN m t h] (10000 * n + 10000 * m + 100000 ≤ BIG ∧ barC [rg,ra,rb,rc] = 0 ∧ trnF h t = true) (MT.tup2 (PTS [(some 6,PLQ (n + 4 * m + 130) (ra.val * dirC h t.val) (ra.val * dirS h t.val)),(some 6,PLQ (2 * n + 4 * m + 131) (wayX rg.val ra.val h t.val) (wayY ra.val h t.val)),(some 3,QC (8 * n + 16 * m + 525) (d2F (wayX rg.val ra.val h t.val) (wayY ra.val h t.val)))]) (.ex (errV 67 (0)))):=.o2 fun hok h1 h2 hp=>by
  refine St.enter (N:=38) Tryz.func56 rfl rfl rfl hok (enter2 h1 h2) fun a=>?_
  have hb:=hp.2.1
  have ht:=trn_0 hp.2.2
  have hbt:=bt_0 hp.2.1 hp.2.2
  repeat' (first|((with_reducible refine gS_ ?_);first|((with_reducible refine gL_ ?_);first|refine W.run ?_ fun a w G=>?_|refine W.mv fun a w G=>?_|refine W.asg fun a w G=>?_|refine W.bx fun b a w G=>?_|(refine W.nn hK ?_;clear hK K)|refine W.nl ?_|refine W.al fun b a w G=>?_|refine W.st fun w=>?_|refine W.stp fun w=>?_|refine W.ste ?_ fun w=>?_)|((with_reducible refine gC_ ?_);first|refine W.reg fun K hK=>?_|refine W.reg1 ?_|refine W.sq fun K hK=>?_|refine W.ds ?_ (fun β a w G hu=>W.fin ?_ hu) mixedOrders (by kernel_rfl)|refine W.sk ?_|refine W.cd (fun hc=>?_) (fun hc=>?_)|refine W.cb (fun hc=>?_) (fun hc=>?_)|refine W.bl ?_|refine W.ex ?_|refine W.rt ?_)|((with_reducible refine W.kn hK ?_);clear hK K)|(with_reducible first|refine W.bn ?_|refine W.xt ?_|refine W.xb ?_|refine W.xo ?_|refine W.tr ?_|refine W.br ?_)|refine W.rt1 rfl ?_|refine W.rt2 rfl ?_ ?_|refine W.rt3 rfl ?_ ?_ ?_)|clear hK K|clear hu|exact True.intro|exact Nat.le_trans (by clear hp;omega) hp|exact Nat.le_trans (by clear hp;omega) hp.1|exact Nat.le_trans (by clear hp;omega) hp.2|(clear hp;omega)|apply And.intro|refine GI.i fun _=>?_|with_reducible rfl|decide|(simp only [List.length_cons,List.length_nil];omega))
  all_goals first | (exfalso;omega) | assumption | exact hp.2.2 | exact hp.2.1 | rfl
instance iK3_96 {n m : Nat} {rg ra rb rc t : FR} {h : Bool} {τ1 : MT} [j1 : NF τ1 (QUD n rg ra rb rc)] {τ2 : MT} [j2 : NF τ2 (TRN m t h)] : Con Tryz.prog 56 [τ1,τ2] (10000 * n + 10000 * m + 100000 ≤ BIG ∧ barC [rg,ra,rb,rc] = 0 ∧ trnF h t = true) (MT.tup2 (PTS [(some 6,PLQ (n + 4 * m + 130) (ra.val * dirC h t.val) (ra.val * dirS h t.val)),(some 6,PLQ (2 * n + 4 * m + 131) (wayX rg.val ra.val h t.val) (wayY ra.val h t.val)),(some 3,QC (8 * n + 16 * m + 525) (d2F (wayX rg.val ra.val h t.val) (wayY ra.val h t.val)))]) (.ex (errV 67 (0)))):=.o2 fun hok h1 h2 hp=>w56.c2 hok (j1.h h1) (j2.h h2) hp
theorem w57 {n m : Nat} {rg ra rb rc : FR} {d : Rat} : Con Tryz.prog 57 [QUD n rg ra rb rc,QV m d] (100 * n + 100 * m + 1000 ≤ BIG) (QC (6 * n + 2 * m + 69) (discF rb.val rc.val d)):=.o2 fun hok h1 h2 hp=>by
  refine St.enter (N:=23) Tryz.func57 rfl rfl rfl hok (enter2 h1 h2) fun a=>?_
  repeat' (first|((with_reducible refine gS_ ?_);first|((with_reducible refine gL_ ?_);first|refine W.run ?_ fun a w G=>?_|refine W.mv fun a w G=>?_|refine W.asg fun a w G=>?_|refine W.bx fun b a w G=>?_|(refine W.nn hK ?_;clear hK K)|refine W.nl ?_|refine W.al fun b a w G=>?_|refine W.st fun w=>?_|refine W.stp fun w=>?_|refine W.ste ?_ fun w=>?_)|((with_reducible refine gC_ ?_);first|refine W.reg fun K hK=>?_|refine W.reg1 ?_|refine W.sq fun K hK=>?_|refine W.ds ?_ (fun β a w G hu=>W.fin ?_ hu) mixedOrders (by kernel_rfl)|refine W.sk ?_|refine W.cd (fun hc=>?_) (fun hc=>?_)|refine W.cb (fun hc=>?_) (fun hc=>?_)|refine W.bl ?_|refine W.ex ?_|refine W.rt ?_)|((with_reducible refine W.kn hK ?_);clear hK K)|(with_reducible first|refine W.bn ?_|refine W.xt ?_|refine W.xb ?_|refine W.xo ?_|refine W.tr ?_|refine W.br ?_)|refine W.rt1 rfl ?_|refine W.rt2 rfl ?_ ?_|refine W.rt3 rfl ?_ ?_ ?_)|clear hK K|clear hu|exact True.intro|exact Nat.le_trans (by clear hp;omega) hp|exact Nat.le_trans (by clear hp;omega) hp.1|exact Nat.le_trans (by clear hp;omega) hp.2|(clear hp;omega)|apply And.intro|refine GI.i fun _=>?_|with_reducible rfl|decide|(simp only [List.length_cons,List.length_nil];omega))
  all_goals rfl
instance iK3_97 {n m : Nat} {rg ra rb rc : FR} {d : Rat} {τ1 : MT} [j1 : NF τ1 (QUD n rg ra rb rc)] {τ2 : MT} [j2 : NQ τ2 (QV m d)] : Con Tryz.prog 57 [τ1,τ2] (100 * n + 100 * m + 1000 ≤ BIG) (QC (6 * n + 2 * m + 69) (discF rb.val rc.val d)):=.o2 fun hok h1 h2 hp=>w57.c2 hok (j1.h h1) (j2.h h2) hp
theorem w22 {n m : Nat} {rg ra rb rc t : FR} {h : Bool} : Con Tryz.prog 22 [QUD n rg ra rb rc,TRN m t h] (10000 * n + 10000 * m + 100000 ≤ BIG ∧ barC [rg,ra,rb,rc] = 0 ∧ trnF h t = true) (MT.tup2 (QC (22 * n + 32 * m + 1119) (dsc rg ra rb rc h t.val)) (.ex (errV 67 (0)))):=.o2 fun hok h1 h2 hp=>by
  refine St.enter (N:=22) Tryz.func22 rfl rfl rfl hok (enter2 h1 h2) fun a=>?_
  have hb:=hp.2.1
  have ht:=trn_0 hp.2.2
  have hbt:=bt_0 hp.2.1 hp.2.2
  repeat' (first|((with_reducible refine gS_ ?_);first|((with_reducible refine gL_ ?_);first|refine W.run ?_ fun a w G=>?_|refine W.mv fun a w G=>?_|refine W.asg fun a w G=>?_|refine W.bx fun b a w G=>?_|(refine W.nn hK ?_;clear hK K)|refine W.nl ?_|refine W.al fun b a w G=>?_|refine W.st fun w=>?_|refine W.stp fun w=>?_|refine W.ste ?_ fun w=>?_)|((with_reducible refine gC_ ?_);first|refine W.reg fun K hK=>?_|refine W.reg1 ?_|refine W.sq fun K hK=>?_|refine W.ds ?_ (fun β a w G hu=>W.fin ?_ hu) mixedOrders (by kernel_rfl)|refine W.sk ?_|refine W.cd (fun hc=>?_) (fun hc=>?_)|refine W.cb (fun hc=>?_) (fun hc=>?_)|refine W.bl ?_|refine W.ex ?_|refine W.rt ?_)|((with_reducible refine W.kn hK ?_);clear hK K)|(with_reducible first|refine W.bn ?_|refine W.xt ?_|refine W.xb ?_|refine W.xo ?_|refine W.tr ?_|refine W.br ?_)|refine W.rt1 rfl ?_|refine W.rt2 rfl ?_ ?_|refine W.rt3 rfl ?_ ?_ ?_)|clear hK K|clear hu|exact True.intro|exact Nat.le_trans (by clear hp;omega) hp|exact Nat.le_trans (by clear hp;omega) hp.1|exact Nat.le_trans (by clear hp;omega) hp.2|(clear hp;omega)|apply And.intro|refine GI.i fun _=>?_|with_reducible rfl|decide|(simp only [List.length_cons,List.length_nil];omega))
  all_goals first | (exfalso;omega) | assumption | exact hp.2.2 | exact hp.2.1 | rfl
instance iK3_98 {n m : Nat} {rg ra rb rc t : FR} {h : Bool} {τ1 : MT} [j1 : NF τ1 (QUD n rg ra rb rc)] {τ2 : MT} [j2 : NF τ2 (TRN m t h)] : Con Tryz.prog 22 [τ1,τ2] (10000 * n + 10000 * m + 100000 ≤ BIG ∧ barC [rg,ra,rb,rc] = 0 ∧ trnF h t = true) (MT.tup2 (QC (22 * n + 32 * m + 1119) (dsc rg ra rb rc h t.val)) (.ex (errV 67 (0)))):=.o2 fun hok h1 h2 hp=>w22.c2 hok (j1.h h1) (j2.h h2) hp
end Go.Proofs.YtnjbcjmkkejfpaaGreatDoor
set_option linter.unusedVariables false
set_option linter.unusedSimpArgs false
set_option maxHeartbeats 4000000
set_option maxRecDepth 100000
set_option synthInstance.maxSize 100000
set_option synthInstance.maxHeartbeats 400000
namespace Go.Proofs.YtnjbcjmkkejfpaaGreatDoor
open Go.RowKit (Below)
attribute [local irreducible] Go.Code.wp Go.wpList Go.bodyPost
attribute [local irreducible] barC trnC btC ciF dsc enR enL cirs exC ofC ofI
def boC (g a b c : FR) (h : Bool) (t : FR) (m : Int) (h2 : Bool) (t2 : FR) (m2 : Int) : Int:=if ofC g a b c h t m = 0 then ofC g a b c h2 t2 m2 else ofC g a b c h t m
def boI (g a b c : FR) (h : Bool) (t : FR) (m : Int) (h2 : Bool) (t2 : FR) (m2 : Int) : Int:=if boC g a b c h t m h2 t2 m2 = 0 then ofI g a b c h t m else 0
def boK (g a b c : FR) (h : Bool) (t : FR) (m : Int) (h2 : Bool) (t2 : FR) (m2 : Int) : Int:=if boC g a b c h t m h2 t2 m2 = 0 then ofI g a b c h2 t2 m2 else 0
end Go.Proofs.YtnjbcjmkkejfpaaGreatDoor
