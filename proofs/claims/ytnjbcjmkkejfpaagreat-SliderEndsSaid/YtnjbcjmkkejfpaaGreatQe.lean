import Derived.Test.YtnjbcjmkkejfpaaGreatQd
set_option linter.unusedVariables false
set_option linter.unusedSimpArgs false
namespace Go.Proofs.YtnjbcjmkkejfpaaGreat
open Classical in
noncomputable def sgR (x : RR) : Int:=if x < 0 then -1 else if 0 < x then 1 else 0
theorem RR.lt_asymm {x y : RR} (h : x < y) : ¬ y < x:=fun k=>RR.lt_irrefl x (RR.lt_trans h k)
theorem sgR_cases (x : RR) : (x < 0 ∧ sgR x = -1) ∨ (x = 0 ∧ sgR x = 0) ∨ (0 < x ∧ sgR x = 1):=by
  rcases RR.lt_tri x 0 with h | h | h
  · exact .inl ⟨h,by unfold sgR;rw [if_pos h]⟩
  · subst h;exact .inr (.inl ⟨rfl,by unfold sgR;rw [if_neg (RR.lt_irrefl 0),if_neg (RR.lt_irrefl 0)]⟩)
  · exact .inr (.inr ⟨h,by unfold sgR;rw [if_neg (RR.lt_asymm h),if_pos h]⟩)
theorem sgR_pos {x : RR} (h : 0 < x) : sgR x = 1:=by
  unfold sgR;rw [if_neg (RR.lt_asymm h),if_pos h]
theorem sgR_neg {x : RR} (h : x < 0) : sgR x = -1:=by unfold sgR;rw [if_pos h]
theorem sgR_zero : sgR 0 = 0:=by unfold sgR;rw [if_neg (RR.lt_irrefl 0),if_neg (RR.lt_irrefl 0)]
theorem sgR_negate (x : RR) : sgR (-x) = -sgR x:=by
  rcases sgR_cases x with ⟨h,e⟩ | ⟨h,e⟩ | ⟨h,e⟩
  · rw [e,sgR_pos (RR.neg_pos.2 h)];rfl
  · subst h;rw [RR.neg_zero,sgR_zero];rfl
  · rw [e,sgR_neg];rw [← RR.neg_pos,RR.neg_neg];exact h
theorem sgR_mul (x y : RR) : sgR (x * y) = sgR x * sgR y:=by
  have pp : ∀ {x y : RR},0 < x → 0 < y → sgR (x * y) = sgR x * sgR y:=fun h k=>by rw [sgR_pos h,sgR_pos k,sgR_pos (RR.mul_pos h k)];rfl
  have np : ∀ {x y : RR},x < 0 → 0 < y → sgR (x * y) = sgR x * sgR y:=fun {x y} h k=>by
    have:=pp (RR.neg_pos.2 h) k
    rw [RR.neg_mul,sgR_negate,sgR_negate] at this
    rw [Int.neg_mul] at this;omega
  rcases RR.lt_tri x 0 with h | h | h
  · rcases RR.lt_tri y 0 with k | k | k
    · have:=np h (RR.neg_pos.2 k)
      rw [RR.mul_neg,sgR_negate,sgR_negate,Int.mul_neg] at this;omega
    · subst k;rw [RR.mul_zero,sgR_zero,Int.mul_zero]
    · exact np h k
  · subst h;rw [RR.zero_mul,sgR_zero,Int.zero_mul]
  · rcases RR.lt_tri y 0 with k | k | k
    · rw [RR.mul_comm,Int.mul_comm];exact np k h
    · subst k;rw [RR.mul_zero,sgR_zero,Int.mul_zero]
    · exact pp h k
theorem sgR_of (q : Rat) : sgR (RR.of q) = q.num.sign:=by
  rcases sgn_cases q.num with ⟨h,e⟩ | ⟨h,e⟩ | ⟨h,e⟩
  all_goals first
    | (rw [e];exact sgR_pos (RR.of_lt (p:=0) |>.2 (rat_pos_iff.2 (by omega))))
    | (rw [e]; have : q = 0 := (@Rat.num_eq_zero q).1 (by omega)
       subst this;exact sgR_zero)
    | (rw [e]; refine sgR_neg (RR.of_lt (q := 0) |>.2 ?_)
       have h1:=@Rat.num_nonneg q
       rcases Classical.em (0 ≤ q) with h2 | h2
       · have:=h1.2 h2;omega
       · exact Rat.not_le.1 h2)
theorem sgR_cmp (p q : Rat) : sgR (RR.of p - RR.of q) = cmpQ p q:=by
  rw [← RR.of_sub]
  unfold cmpQ
  split
  · exact sgR_neg (RR.of_lt (q:=0) |>.2 (by grind))
  · split
    · exact sgR_pos (RR.of_lt (p:=0) |>.2 (by grind))
    · have : p - q = 0:=by grind
      rw [this];exact sgR_zero
theorem RR.sub_def (x y : RR) : x - y = x + -y:=rfl
theorem sgR_add {u v : RR} : sgR (u + v) = if sgR u = 0 ∨ sgR u = sgR v then sgR v else if sgR v = 0 then sgR u else sgR u * sgR (u * u - v * v):=by
  have hf : u * u - v * v = (u + v) * (u - v):=by
    obtain ⟨f,hf,rfl⟩:=RR.rep u;obtain ⟨g,hg,rfl⟩:=RR.rep v
    exact RR.ext fun n=>by grind
  have hm:=sgR_mul (u + v) (u - v)
  rw [← hf] at hm
  rcases sgR_cases u with ⟨h,e⟩ | ⟨h,e⟩ | ⟨h,e⟩
  · rcases sgR_cases v with ⟨k,e2⟩ | ⟨k,e2⟩ | ⟨k,e2⟩
    · rw [e,e2,if_pos (.inr rfl)]
      refine sgR_neg ?_
      have h1:=RR.add_pos (RR.neg_pos.2 h) (RR.le_of_lt (RR.neg_pos.2 k))
      rw [← RR.neg_add] at h1
      exact RR.neg_pos.1 h1
    · subst k;rw [RR.add_zero,e,sgR_zero,if_neg (by decide),if_pos rfl]
    · rw [e,e2,if_neg (by decide),if_neg (by decide)]
      have h1 : sgR (u - v) = -1:=by
        refine sgR_neg ?_
        have h1:=RR.add_pos (RR.neg_pos.2 h) (RR.le_of_lt k)
        rw [← RR.neg_pos,RR.neg_sub,RR.sub_def,RR.add_comm];exact h1
      rw [h1] at hm;omega
  · subst h;rw [RR.zero_add,sgR_zero,if_pos (.inl rfl)]
  · rcases sgR_cases v with ⟨k,e2⟩ | ⟨k,e2⟩ | ⟨k,e2⟩
    · rw [e,e2,if_neg (by decide),if_neg (by decide)]
      have h1 : sgR (u - v) = 1:=by
        refine sgR_pos ?_
        exact RR.add_pos h (RR.le_of_lt (RR.neg_pos.2 k))
      rw [h1] at hm;omega
    · subst k;rw [RR.add_zero,e,sgR_zero,if_neg (by decide),if_pos rfl]
    · rw [e,e2,if_pos (.inr rfl)];exact sgR_pos (RR.add_pos h (RR.le_of_lt k))
theorem sgR_sq {w t : RR} (hw : 0 ≤ w) (ht : 0 ≤ t) : sgR (w - t) = sgR (w * w - t * t):=by
  have hf : w * w - t * t = (w - t) * (w + t):=by
    obtain ⟨f,hf,rfl⟩:=RR.rep w;obtain ⟨g,hg,rfl⟩:=RR.rep t
    exact RR.ext fun n=>by grind
  rw [hf,sgR_mul]
  rcases sgR_cases (w + t) with ⟨h,e⟩ | ⟨h,e⟩ | ⟨h,e⟩
  · exact absurd (RR.add_nn hw ht) h
  · have hw0 : w = 0 := by
      refine RR.le_antisymm ?_ hw
      refine RR.not_lt.1 fun k=>?_
      have:=RR.add_pos k ht
      rw [h] at this;exact RR.lt_irrefl 0 this
    have ht0 : t = 0:=by rw [hw0,RR.zero_add] at h;exact h
    rw [hw0,ht0,RR.sub_self,sgR_zero,Int.zero_mul]
  · rw [e,Int.mul_one]
noncomputable def rt (q : Rat) : RR:=(RR.of q).sq
theorem rt_nn (q : Rat) : 0 ≤ rt q:=RR.sq_nonneg _
theorem rt_sq {q : Rat} (h : 0 ≤ q) : rt q * rt q = RR.of q:=RR.sq_sq (RR.of_le (p:=0) |>.2 h)
theorem sgR_rt {q : Rat} (h : 0 ≤ q) : sgR (rt q) = q.num.sign:=by
  have h1:=sgR_mul (rt q) (rt q)
  rw [rt_sq h,sgR_of] at h1
  rcases sgR_cases (rt q) with ⟨k,e⟩ | ⟨k,e⟩ | ⟨k,e⟩
  · exact absurd (rt_nn q) k
  · rw [e] at h1 ⊢;omega
  · rw [e] at h1 ⊢;omega
theorem mixed_sg {x y d : Rat} (hd : 0 ≤ d) : mixedF x y d = sgR (RR.of x + RR.of y * rt d):=by
  rw [sgR_add,sgR_mul,sgR_of,sgR_of,sgR_rt hd]
  have hq : RR.of x * RR.of x - RR.of y * rt d * (RR.of y * rt d) = RR.of (x * x) - RR.of (y * y * d):=by
    rw [RR.of_mul,RR.of_mul,RR.of_mul,← rt_sq hd]
    generalize RR.of x = a;generalize RR.of y = b;generalize rt d = c
    obtain ⟨f,hf,rfl⟩:=RR.rep a;obtain ⟨g,hg,rfl⟩:=RR.rep b;obtain ⟨k,hk,rfl⟩:=RR.rep c
    exact RR.ext fun n=>by grind
  rw [hq,sgR_cmp]
  rfl
theorem roots_sg {x d f : Rat} (hd : 0 ≤ d) (hf : 0 ≤ f) : rootsF x d f = sgR (RR.of x + RR.of 2 * rt d - RR.of 2 * rt f):=by
  unfold rootsF
  rw [mixed_sg hd,mixed_sg hd]
  have ht : 0 ≤ RR.of 2 * rt f:=RR.mul_nn (RR.of_le (p:=0) |>.2 (by decide)) (rt_nn f)
  split
  · rename_i h
    symm
    refine sgR_neg ?_
    have hw : RR.of x + RR.of 2 * rt d < 0:=by
      rcases sgR_cases (RR.of x + RR.of 2 * rt d) with ⟨k,e⟩ | ⟨k,e⟩ | ⟨k,e⟩
      · exact k
      · omega
      · omega
    have h2:=RR.add_pos (RR.neg_pos.2 hw) ht
    rw [← RR.neg_pos,RR.neg_sub,RR.sub_def,RR.add_comm];exact h2
  · rename_i h
    have hw : 0 ≤ RR.of x + RR.of 2 * rt d:=by
      rcases sgR_cases (RR.of x + RR.of 2 * rt d) with ⟨k,e⟩ | ⟨k,e⟩ | ⟨k,e⟩
      · omega
      · rw [k];exact RR.le_refl 0
      · exact RR.le_of_lt k
    rw [sgR_sq hw ht]
    congr 1
    have e : RR.of (x * x + 4 * d - 4 * f) = RR.of x * RR.of x + RR.of 4 * (rt d * rt d) - RR.of 4 * (rt f * rt f):=by
      rw [rt_sq hd,rt_sq hf,RR.of_sub,RR.of_add,RR.of_mul,RR.of_mul,RR.of_mul]
    rw [e,RR.of_mul]
    generalize RR.of x = a;generalize rt d = b;generalize rt f = c
    obtain ⟨f,hf,rfl⟩:=RR.rep a;obtain ⟨g,hg,rfl⟩:=RR.rep b;obtain ⟨k,hk,rfl⟩:=RR.rep c
    exact RR.ext fun n=>by grind
theorem rt_eq {a b : RR} (ha : 0 ≤ a) (hb : 0 ≤ b) (h : a * a = b * b) : a = b:=by
  have h1:=sgR_sq ha hb
  rw [h,RR.sub_self,sgR_zero] at h1
  rcases sgR_cases (a - b) with ⟨k,e⟩ | ⟨k,e⟩ | ⟨k,e⟩
  · omega
  · rw [← RR.sub_add a b,k,RR.zero_add]
  · omega
theorem rt_mul {a b : Rat} (ha : 0 ≤ a) (hb : 0 ≤ b) : rt (a * b) = rt a * rt b:=by
  refine rt_eq (rt_nn _) (RR.mul_nn (rt_nn a) (rt_nn b)) ?_
  rw [rt_sq (Rat.mul_nonneg ha hb),RR.of_mul,← rt_sq ha,← rt_sq hb]
  generalize rt a = x;generalize rt b = y
  obtain ⟨f,hf,rfl⟩:=RR.rep x;obtain ⟨g,hg,rfl⟩:=RR.rep y
  exact RR.ext fun n=>by grind
theorem roots_four {a b c d : Rat} (ha : 0 ≤ a) (hb : 0 ≤ b) (hc : 0 ≤ c) (hd : 0 ≤ d) : rootsF (a + b - (c + d)) (a * b) (c * d) = sgR ((rt a + rt b) - (rt c + rt d)):=by
  rw [roots_sg (Rat.mul_nonneg ha hb) (Rat.mul_nonneg hc hd),rt_mul ha hb,rt_mul hc hd,sgR_sq (RR.add_nn (rt_nn a) (rt_nn b)) (RR.add_nn (rt_nn c) (rt_nn d))]
  congr 1
  rw [RR.of_sub,RR.of_add,RR.of_add,← rt_sq ha,← rt_sq hb,← rt_sq hc,← rt_sq hd]
  generalize rt a = x;generalize rt b = y;generalize rt c = z;generalize rt d = u
  obtain ⟨f,hf,rfl⟩:=RR.rep x;obtain ⟨g,hg,rfl⟩:=RR.rep y;obtain ⟨k,hk,rfl⟩:=RR.rep z;obtain ⟨l,hl,rfl⟩:=RR.rep u
  exact RR.ext fun n=>by grind
theorem pairF_nn {l : List Rat} (h : ∀ q ∈ l,0 ≤ q) (i : Nat) : 0 ≤ (pairF l).getD i default:=by
  rw [List.getD_eq_getElem?_getD]
  cases hi : (pairF l)[i]? with
  | none=>exact (by decide : (0 : Rat) ≤ 0)
  | some z =>
    have hm:=List.mem_of_getElem? hi
    unfold pairF at hm
    rcases List.mem_append.1 hm with h1 | h1
    · exact h z (List.mem_of_mem_take h1)
    · have:=List.mem_of_mem_drop h1
      simp at this;subst this;exact (by decide : (0 : Rat) ≤ 0)
noncomputable def rs (l : List Rat) : RR:=rt ((pairF l).getD 0 default) + rt ((pairF l).getD 1 default)
theorem compareF_sg {l m : List Rat} (hl : ∀ q ∈ l,0 ≤ q) (hm : ∀ q ∈ m,0 ≤ q) : compareF l m = sgR (rs l - rs m):=by
  unfold compareF rs
  exact roots_four (pairF_nn hl 0) (pairF_nn hl 1) (pairF_nn hm 0) (pairF_nn hm 1)
end Go.Proofs.YtnjbcjmkkejfpaaGreat
namespace Go.Proofs.YtnjbcjmkkejfpaaGreat
open Go.RowKit (Below)
theorem posR_of4 (a : Rat) : posR (FR.of a) = decide (0 < a):=by unfold posR;rw [FR.of_ok,FR.of_val,Bool.true_and]
end Go.Proofs.YtnjbcjmkkejfpaaGreat
namespace Go.Proofs.YtnjbcjmkkejfpaaGreat
theorem cmpCode_iff {l m : List FR} : cmpCode l m = 0 ↔ l.length ≤ 2 ∧ m.length ≤ 2 ∧ l.all goodR = true ∧ m.all goodR = true:=by
  unfold cmpCode
  by_cases h : 2 < l.length ∨ 2 < m.length
  · rw [if_pos h];constructor
    · intro h;omega
    · intro h2;omega
  · rw [if_neg h]
    cases h1 : l.all goodR <;> cases h2 : m.all goodR <;> simp <;> omega
theorem goodR_val {r : FR} (h : goodR r = true) : 0 ≤ r.val:=by unfold goodR at h;simp at h;exact h.2
theorem vals_nn {l : List FR} (h : l.all goodR = true) : ∀ q ∈ l.map FR.val,0 ≤ q:=fun q hq=>by
  obtain ⟨r,hr,rfl⟩:=List.mem_map.1 hq
  exact goodR_val (List.all_eq_true.1 h r hr)
end Go.Proofs.YtnjbcjmkkejfpaaGreat
namespace Go.Proofs.YtnjbcjmkkejfpaaGreat
open Go.RowKit (Below)
def surdF (x y d : Rat) : Int :=
  if x.num.sign = 0 ∨ y.num.sign * d.num.sign = 0 ∨ x.num.sign = y.num.sign * d.num.sign then (if x.num.sign = 0 then y.num.sign * d.num.sign else x.num.sign) else x.num.sign * cmpQ (x * x) (y * y * d)
def surdsF (x y d z e : Rat) : Int :=
  if surdF x y d = 0 ∨ z.num.sign * e.num.sign = 0 ∨ surdF x y d = z.num.sign * e.num.sign then (if surdF x y d = 0 then z.num.sign * e.num.sign else surdF x y d) else surdF x y d * surdF (x * x + y * y * d - z * z * e) (2 * (x * y)) d
def sumsF (p q r s : Rat) : Int:=surdsF (p + q - (r + s)) 2 (p * q) (-2) (r * s)
theorem surd_mixed {x y d : Rat} : surdF x y d = mixedF x y d:=by
  unfold surdF mixedF
  generalize x.num.sign = s;generalize y.num.sign * d.num.sign = t;generalize cmpQ (x * x) (y * y * d) = c
  by_cases h1 : s = 0
  · rw [if_pos (.inl h1),if_pos h1,if_pos (.inl h1)]
  · by_cases h2 : s = t
    · rw [if_pos (.inr (.inr h2)),if_neg h1,if_pos (.inr h2),h2]
    · by_cases h3 : t = 0
      · rw [if_pos (.inr (.inl h3)),if_neg h1,if_neg (by omega),if_pos h3]
      · rw [if_neg (by omega),if_neg (by omega),if_neg h3]
theorem surd_sg {x y d : Rat} (hd : 0 ≤ d) : surdF x y d = sgR (RR.of x + RR.of y * rt d):=by rw [surd_mixed];exact mixed_sg hd
theorem surds_sg {x y d z e : Rat} (hd : 0 ≤ d) (he : 0 ≤ e) : surdsF x y d z e = sgR (RR.of x + RR.of y * rt d + RR.of z * rt e):=by
  unfold surdsF
  rw [surd_sg hd,surd_sg hd,sgR_add (u:=RR.of x + RR.of y * rt d)]
  rw [sgR_mul (RR.of z),sgR_of z,sgR_rt he]
  have hq : (RR.of x + RR.of y * rt d) * (RR.of x + RR.of y * rt d) - RR.of z * rt e * (RR.of z * rt e) = RR.of (x * x + y * y * d - z * z * e) + RR.of (2 * (x * y)) * rt d:=by
    have e1 : RR.of (x * x + y * y * d - z * z * e) = RR.of x * RR.of x + RR.of y * RR.of y * (rt d * rt d) - RR.of z * RR.of z * (rt e * rt e):=by
      rw [rt_sq hd,rt_sq he,RR.of_sub,RR.of_add,RR.of_mul,RR.of_mul,RR.of_mul,RR.of_mul,RR.of_mul]
    rw [e1,RR.of_mul,RR.of_mul]
    generalize RR.of x = a;generalize RR.of y = b;generalize rt d = c;generalize RR.of z = f;generalize rt e = g
    obtain ⟨a,ha,rfl⟩:=RR.rep a;obtain ⟨b,hb,rfl⟩:=RR.rep b;obtain ⟨c,hc,rfl⟩:=RR.rep c;obtain ⟨f,hf,rfl⟩:=RR.rep f;obtain ⟨g,hg,rfl⟩:=RR.rep g
    exact RR.ext fun n=>by grind
  rw [hq]
  generalize sgR (RR.of x + RR.of y * rt d) = s;generalize z.num.sign * e.num.sign = t;generalize sgR (RR.of (x * x + y * y * d - z * z * e) + RR.of (2 * (x * y)) * rt d) = c
  by_cases h1 : s = 0
  · rw [if_pos (.inl h1),if_pos h1,if_pos (.inl h1)]
  · by_cases h2 : s = t
    · rw [if_pos (.inr (.inr h2)),if_neg h1,if_pos (.inr h2),h2]
    · by_cases h3 : t = 0
      · rw [if_pos (.inr (.inl h3)),if_neg h1,if_neg (by omega),if_pos h3]
      · rw [if_neg (by omega),if_neg (by omega),if_neg h3]
theorem sums_four {p q r s : Rat} (hp : 0 ≤ p) (hq : 0 ≤ q) (hr : 0 ≤ r) (hs : 0 ≤ s) : sumsF p q r s = sgR ((rt p + rt q) - (rt r + rt s)):=by
  unfold sumsF
  rw [← roots_four hp hq hr hs,roots_sg (Rat.mul_nonneg hp hq) (Rat.mul_nonneg hr hs),surds_sg (Rat.mul_nonneg hp hq) (Rat.mul_nonneg hr hs)]
  congr 1
  rw [show RR.of (-2) = -RR.of 2 from rfl,RR.neg_mul,RR.sub_def]
theorem surd_bd (x y d : Rat) : -1 ≤ surdF x y d ∧ surdF x y d ≤ 1:=by
  have h0:=sgn_cases x.num;have h1:=sgn_cases y.num;have h2:=sgn_cases d.num
  have h3:=cmpQ_cases (x * x) (y * y * d)
  unfold surdF
  rcases h0 with ⟨_,e0⟩ | ⟨_,e0⟩ | ⟨_,e0⟩ <;> rcases h1 with ⟨_,e1⟩ | ⟨_,e1⟩ | ⟨_,e1⟩ <;> rcases h2 with ⟨_,e2⟩ | ⟨_,e2⟩ | ⟨_,e2⟩ <;> rcases h3 with e3 | e3 | e3 <;> rw [e0,e1,e2,e3] <;> decide
theorem surd_mul_bd (x y d x' y' d' : Rat) : -9223372036854775808 ≤ surdF x y d * surdF x' y' d' ∧ surdF x y d * surdF x' y' d' ≤ 9223372036854775807:=by
  have h1:=surd_bd x y d;have h2:=surd_bd x' y' d'
  generalize surdF x y d = u at *;generalize surdF x' y' d' = v at *
  have : (u = -1 ∨ u = 0 ∨ u = 1):=by omega
  rcases this with h | h | h <;> subst h <;> omega
def pad2 (l : List FR) : List FR:=l ++ List.replicate (2 - l.length) default
def stF (l m : List FR) (k j : Nat) : List FR:=if k = 0 then pad2 (l.take j) ++ pad2 [] else if k = 1 then pad2 l ++ pad2 (m.take j) else pad2 l ++ pad2 m
theorem len2 {l : List FR} (h : l.length ≤ 2) : l = [] ∨ (∃ a,l = [a]) ∨ ∃ a b,l = [a,b]:=by
  match l,h with
  | [],_=>exact .inl rfl
  | [a],_=>exact .inr (.inl ⟨a,rfl⟩)
  | [a,b],_=>exact .inr (.inr ⟨a,b,rfl⟩)
theorem st_step {l m : List FR} {k j : Nat} (hl : l.length ≤ 2) (hm : m.length ≤ 2) (hk : k < 2) (hj : j < ([l,m].getD k default).length) : (stF l m k j).set (2 * k + j) (([l,m].getD k default).getD j default) = stF l m k (j + 1):=by
  match k,hk with
  | 0,_ =>
    rcases len2 hl with rfl | ⟨a,rfl⟩ | ⟨a,b,rfl⟩
    · exact absurd hj (Nat.not_lt_zero _)
    · match j,hj with
      | 0,_=>rfl
    · match j,hj with
      | 0,_=>rfl
      | 1,_=>rfl
  | 1,_ =>
    have hj' : j < m.length:=hj
    rcases len2 hl with rfl | ⟨a,rfl⟩ | ⟨a,b,rfl⟩ <;> rcases len2 hm with rfl | ⟨c,rfl⟩ | ⟨c,d,rfl⟩ <;> rcases (by omega : j = 0 ∨ j = 1) with rfl | rfl <;> first | rfl | exact absurd hj' (by simp)
theorem st_next {l m : List FR} {k j : Nat} (hk : k < 2) (hj : ¬ j < ([l,m].getD k default).length) : stF l m k j = stF l m (k + 1) 0:=by
  match k,hk with
  | 0,_ =>
    have hj : ¬ j < l.length:=hj
    show pad2 (l.take j) ++ pad2 [] = pad2 l ++ pad2 (m.take 0)
    rw [List.take_of_length_le (by omega)];rfl
  | 1,_ =>
    have hj : ¬ j < m.length:=hj
    show pad2 l ++ pad2 (m.take j) = pad2 l ++ pad2 m
    rw [List.take_of_length_le (by omega)]
theorem pad2_len {l : List FR} (h : l.length ≤ 2) : (pad2 l).length = 2:=by unfold pad2;simp;omega
theorem st_len {l m : List FR} {k j : Nat} (hl : l.length ≤ 2) (hm : m.length ≤ 2) : (stF l m k j).length = 4:=by
  have h1:=pad2_len hl;have h2:=pad2_len hm;have h3:=pad2_len (l:=[]) (by simp)
  have h4:=pad2_len (l:=l.take j) (by simp;omega);have h5:=pad2_len (l:=m.take j) (by simp;omega)
  unfold stF;split
  · simp [h3,h4]
  · split <;> simp [h1,h2,h5]
def refRes (l m : List FR) : Int:=if cmpCode l m = 0 then sumsF ((pairF (l.map FR.val)).getD 0 default) ((pairF (l.map FR.val)).getD 1 default) ((pairF (m.map FR.val)).getD 0 default) ((pairF (m.map FR.val)).getD 1 default) else 0
theorem val_default : (default : FR).val = 0:=by
  show qval false [] [] = 0;simp [qval]
theorem st_end {l m : List FR} {k : Nat} (hl : l.length ≤ 2) (hm : m.length ≤ 2) (hk : ¬ k < 2) (h : cmpCode l m = 0) : sumsF ((stF l m k 0).getD 0 default).val ((stF l m k 0).getD 1 default).val ((stF l m k 0).getD 2 default).val ((stF l m k 0).getD 3 default).val = refRes l m:=by
  unfold refRes;rw [if_pos h]
  have e : stF l m k 0 = pad2 l ++ pad2 m:=by unfold stF;rw [if_neg (by omega),if_neg (by omega)]
  rw [e]
  have v0:=val_default
  rcases len2 hl with rfl | ⟨a,rfl⟩ | ⟨a,b,rfl⟩ <;> rcases len2 hm with rfl | ⟨c,rfl⟩ | ⟨c,d,rfl⟩ <;> simp [pad2,pairF,List.replicate,v0]
theorem ref_eq (l m : List FR) : cmpRes l m = refRes l m:=by
  unfold cmpRes refRes
  by_cases h : cmpCode l m = 0
  · rw [if_pos h,if_pos h]
    rw [cmpCode_iff] at h
    have h1:=vals_nn h.2.2.1;have h2:=vals_nn h.2.2.2
    rw [compareF_sg h1 h2,sums_four (pairF_nn h1 0) (pairF_nn h1 1) (pairF_nn h2 0) (pairF_nn h2 1)]
    rfl
  · rw [if_neg h,if_neg h]
end Go.Proofs.YtnjbcjmkkejfpaaGreat
namespace Go.Proofs.YtnjbcjmkkejfpaaGreat
open Go.RowKit (Below)
theorem rt_c {c : Rat} (hc : 0 ≤ c) : rt (c * c) = RR.of c:=rt_eq (rt_nn _) (RR.of_le (p:=0) |>.2 hc) (by rw [rt_sq (Rat.mul_nonneg hc hc),RR.of_mul])
theorem posR_val {r : FR} (h : posR r = true) : 0 < r.val:=by unfold posR at h;simp at h;exact h.2
theorem chk_pos {l : List FR} (h : chkF l = 0) : l.all posR = true:=by
  unfold chkF at h
  cases hp : l.all posR with
  | true=>rfl
  | false=>rw [hp,if_neg (by decide)] at h;exact absurd h (by decide)
end Go.Proofs.YtnjbcjmkkejfpaaGreat
namespace Go.Proofs.YtnjbcjmkkejfpaaGreat
open Go.RowKit (Below)
def befR (xs : List Rat) (p q : Nat) : Prop:=if p < q then xs.getD p default ≤ xs.getD q default else xs.getD p default < xs.getD q default
section
variable {xs : List Rat} {p q i j k m : Nat}
end
end Go.Proofs.YtnjbcjmkkejfpaaGreat
namespace Go.Proofs.YtnjbcjmkkejfpaaGreat
open Go.RowKit (Below)
section
variable {a b c d s p q m : Rat}
def rotQ (a b c d : Rat) : Prop:=compareF [a,b] [c,d] ≤ 0 ∧ compareF [maxQ a b,minQ c d] [minQ a b,maxQ c d] ≥ 0
theorem min_comm : minQ a b = minQ b a:=by unfold minQ;split <;> split <;> grind
variable (h0 : 0 ≤ s) (h1 : s ≤ p) (h2 : p ≤ q) (h3 : q ≤ m)
include h0 h1 h2 h3
end
end Go.Proofs.YtnjbcjmkkejfpaaGreat
namespace Go.Proofs.YtnjbcjmkkejfpaaGreat
end Go.Proofs.YtnjbcjmkkejfpaaGreat
namespace Go.Proofs.YtnjbcjmkkejfpaaGreat
section
variable {xs : List Rat} {a b c d : Nat}
end
end Go.Proofs.YtnjbcjmkkejfpaaGreat
namespace Go.Proofs.YtnjbcjmkkejfpaaGreat
end Go.Proofs.YtnjbcjmkkejfpaaGreat
set_option linter.unusedVariables false
set_option linter.unusedSimpArgs false
set_option maxHeartbeats 4000000
set_option maxRecDepth 100000
set_option synthInstance.maxSize 100000
set_option synthInstance.maxHeartbeats 400000
namespace Go.Proofs.YtnjbcjmkkejfpaaGreat
open Go.RowKit (Below)
attribute [local irreducible] Go.Code.wp Go.wpList Go.bodyPost
private theorem gS_ {W0 : World} {G0 : Gh} {N : Nat} {L : List (Nat × MT)} {B : List BX} {a : Act} {w : World} {G : Gh} {q : Prop} (h : St W0 G0 N L B a w G → q) : St W0 G0 N L B a w G → q:=h
private theorem gL_ {p : Prop} {P : Program} {arr : Array Oper} {Q : Exit → Act → World → Prop} {l : List Oper} {a : Act} {w : World} (h : p → wpList P arr Q l a w) : p → wpList P arr Q l a w:=h
private theorem gC_ {p : Prop} {P : Program} {c : Code} {Q : Exit → Act → World → Prop} {a : Act} {w : World} (h : p → c.wp P Q a w) : p → c.wp P Q a w:=h
private theorem mixedOrders : Tryz.prog.follows .mixedOrders = true:=by kernel_rfl
theorem w57 {n m k : Nat} {x y d : Rat} : Con Tryz.prog 57 [QV n x,QV m y,QV k d] (n + n + (m + m + k) + 1 ≤ BIG) (IT (surdF x y d)):=.o3 fun hok h1 h2 h3 hp=>by
  refine St.enter (N:=44) Tryz.func57 rfl rfl rfl hok (enter3 h1 h2 h3) fun a=>?_
  repeat' (first|((with_reducible refine gS_ ?_);first|((with_reducible refine gL_ ?_);first|refine W.run ?_ fun a w G=>?_|refine W.mv fun a w G=>?_|refine W.asg fun a w G=>?_|refine W.bx fun b a w G=>?_|(refine W.nn hK ?_;clear hK K)|refine W.nl ?_|refine W.al fun b a w G=>?_|refine W.st fun w=>?_|refine W.stp fun w=>?_|refine W.ste ?_ fun w=>?_)|((with_reducible refine gC_ ?_);first|refine W.reg fun K hK=>?_|refine W.reg1 ?_|refine W.sq fun K hK=>?_|refine W.ds ?_ (fun β a w G hu=>W.fin ?_ hu) mixedOrders (by kernel_rfl)|refine W.sk ?_|refine W.cd (fun hc=>?_) (fun hc=>?_)|refine W.cb (fun hc=>?_) (fun hc=>?_)|refine W.bl ?_|refine W.ex ?_|refine W.rt ?_)|((with_reducible refine W.kn hK ?_);clear hK K)|(with_reducible first|refine W.bn ?_|refine W.xt ?_|refine W.xb ?_|refine W.xo ?_|refine W.tr ?_|refine W.br ?_)|refine W.rt1 rfl ?_|refine W.rt2 rfl ?_ ?_|refine W.rt3 rfl ?_ ?_ ?_)|clear hK K|clear hu|exact True.intro|exact Nat.le_trans (by clear hp;omega) hp|exact Nat.le_trans (by clear hp;omega) hp.1|exact Nat.le_trans (by clear hp;omega) hp.2|(clear hp;omega)|apply And.intro|refine GI.i fun _=>?_|with_reducible rfl|decide|(simp only [List.length_cons,List.length_nil];omega))
  all_goals first
    | exact (sg_mul_bd _ _).1
    | exact (sg_mul_bd _ _).2
    | exact (sg_cmp_bd _ _ _).1
    | exact (sg_cmp_bd _ _ _).2
    | exact (surd_mul_bd _ _ _ _ _ _).1
    | exact (surd_mul_bd _ _ _ _ _ _).2
    | (simp only [Bool.or_eq_true, Bool.or_eq_false_iff, decide_eq_true_eq, decide_eq_false_iff_not] at *
       first
       | (exfalso;omega)
       | (first | unfold surdsF | unfold surdF
          first | rw [if_pos (by omega),if_pos (by omega)] | rw [if_pos (by omega),if_neg (by omega)] | rw [if_neg (by omega)]))
    | skip
instance {n m k : Nat} {x y d : Rat} {τ1 : MT} [j1 : NQ τ1 (QV n x)] {τ2 : MT} [j2 : NQ τ2 (QV m y)] {τ3 : MT} [j3 : NQ τ3 (QV k d)] : Con Tryz.prog 57 [τ1,τ2,τ3] (n + n + (m + m + k) + 1 ≤ BIG) (IT (surdF x y d)):=.o3 fun hok h1 h2 h3 hp=>w57.c3 hok (j1.h h1) (j2.h h2) (j3.h h3) hp
theorem w132 {n m k l h : Nat} {x y d z e : Rat} : Con Tryz.prog 132 [QV n x,QV m y,QV k d,QV l z,QV h e] (8 * n + 8 * m + 8 * k + 8 * l + 8 * h + 1000 ≤ BIG) (IT (surdsF x y d z e)):=.o5 fun hok h1 h2 h3 h4 h5 hp=>by
  refine St.enter (N:=65) Tryz.func132 rfl rfl rfl hok (enter5 h1 h2 h3 h4 h5) fun a=>?_
  repeat' (first|((with_reducible refine gS_ ?_);first|((with_reducible refine gL_ ?_);first|refine W.run ?_ fun a w G=>?_|refine W.mv fun a w G=>?_|refine W.asg fun a w G=>?_|refine W.bx fun b a w G=>?_|(refine W.nn hK ?_;clear hK K)|refine W.nl ?_|refine W.al fun b a w G=>?_|refine W.st fun w=>?_|refine W.stp fun w=>?_|refine W.ste ?_ fun w=>?_)|((with_reducible refine gC_ ?_);first|refine W.reg fun K hK=>?_|refine W.reg1 ?_|refine W.sq fun K hK=>?_|refine W.ds ?_ (fun β a w G hu=>W.fin ?_ hu) mixedOrders (by kernel_rfl)|refine W.sk ?_|refine W.cd (fun hc=>?_) (fun hc=>?_)|refine W.cb (fun hc=>?_) (fun hc=>?_)|refine W.bl ?_|refine W.ex ?_|refine W.rt ?_)|((with_reducible refine W.kn hK ?_);clear hK K)|(with_reducible first|refine W.bn ?_|refine W.xt ?_|refine W.xb ?_|refine W.xo ?_|refine W.tr ?_|refine W.br ?_)|refine W.rt1 rfl ?_|refine W.rt2 rfl ?_ ?_|refine W.rt3 rfl ?_ ?_ ?_)|clear hK K|clear hu|exact True.intro|exact Nat.le_trans (by clear hp;omega) hp|exact Nat.le_trans (by clear hp;omega) hp.1|exact Nat.le_trans (by clear hp;omega) hp.2|(clear hp;omega)|apply And.intro|refine GI.i fun _=>?_|with_reducible rfl|decide|(simp only [List.length_cons,List.length_nil];omega))
  all_goals first
    | exact (sg_mul_bd _ _).1
    | exact (sg_mul_bd _ _).2
    | exact (sg_cmp_bd _ _ _).1
    | exact (sg_cmp_bd _ _ _).2
    | exact (surd_mul_bd _ _ _ _ _ _).1
    | exact (surd_mul_bd _ _ _ _ _ _).2
    | (simp only [Bool.or_eq_true, Bool.or_eq_false_iff, decide_eq_true_eq, decide_eq_false_iff_not] at *
       first
       | (exfalso;omega)
       | (first | unfold surdsF | unfold surdF
          first | rw [if_pos (by omega),if_pos (by omega)] | rw [if_pos (by omega),if_neg (by omega)] | rw [if_neg (by omega)]))
    | skip
instance {n m k l h : Nat} {x y d z e : Rat} {τ1 : MT} [j1 : NQ τ1 (QV n x)] {τ2 : MT} [j2 : NQ τ2 (QV m y)] {τ3 : MT} [j3 : NQ τ3 (QV k d)] {τ4 : MT} [j4 : NQ τ4 (QV l z)] {τ5 : MT} [j5 : NQ τ5 (QV h e)] : Con Tryz.prog 132 [τ1,τ2,τ3,τ4,τ5] (8 * n + 8 * m + 8 * k + 8 * l + 8 * h + 1000 ≤ BIG) (IT (surdsF x y d z e)):=.o5 fun hok h1 h2 h3 h4 h5 hp=>w132.c5 hok (j1.h h1) (j2.h h2) (j3.h h3) (j4.h h4) (j5.h h5) hp
end Go.Proofs.YtnjbcjmkkejfpaaGreat
set_option linter.unusedVariables false
set_option linter.unusedSimpArgs false
set_option maxHeartbeats 4000000
set_option maxRecDepth 100000
set_option synthInstance.maxSize 100000
set_option synthInstance.maxHeartbeats 400000
namespace Go.Proofs.YtnjbcjmkkejfpaaGreat
open Go.RowKit (Below)
attribute [local irreducible] Go.Code.wp Go.wpList Go.bodyPost
instance {z : Int} : Con Tryz.prog 14 [.ex (errV 46 (z))] (True) (IT z):=.o1 fun hok h1 hp=>by
  refine St.enter (N:=15) Tryz.func14 rfl rfl rfl hok (enter1 h1) fun a=>?_
  repeat' (first|((with_reducible refine gS_ ?_);first|((with_reducible refine gL_ ?_);first|refine W.run ?_ fun a w G=>?_|refine W.mv fun a w G=>?_|refine W.asg fun a w G=>?_|refine W.bx fun b a w G=>?_|(refine W.nn hK ?_;clear hK K)|refine W.nl ?_|refine W.al fun b a w G=>?_|refine W.st fun w=>?_|refine W.stp fun w=>?_|refine W.ste ?_ fun w=>?_)|((with_reducible refine gC_ ?_);first|refine W.reg fun K hK=>?_|refine W.reg1 ?_|refine W.sq fun K hK=>?_|refine W.ds ?_ (fun β a w G hu=>W.fin ?_ hu) mixedOrders (by kernel_rfl)|refine W.sk ?_|refine W.cd (fun hc=>?_) (fun hc=>?_)|refine W.cb (fun hc=>?_) (fun hc=>?_)|refine W.bl ?_|refine W.ex ?_|refine W.rt ?_)|((with_reducible refine W.kn hK ?_);clear hK K)|(with_reducible first|refine W.bn ?_|refine W.xt ?_|refine W.xb ?_|refine W.xo ?_|refine W.tr ?_|refine W.br ?_)|refine W.rt1 rfl ?_|refine W.rt2 rfl ?_ ?_|refine W.rt3 rfl ?_ ?_ ?_)|clear hK K|clear hu|exact True.intro|exact Nat.le_trans (by clear hp;omega) hp|exact Nat.le_trans (by clear hp;omega) hp.1|exact Nat.le_trans (by clear hp;omega) hp.2|(clear hp;omega)|apply And.intro|refine GI.i fun _=>?_|with_reducible rfl|decide|(simp only [List.length_cons,List.length_nil];omega))
  all_goals (exact absurd hc (by decide))
instance {z c : Int} : Con Tryz.prog 18 [.ex (errV 46 (z)),IT c] (True) (BT (decide (z = c))):=.o2 fun hok h1 h2 hp=>by
  refine St.enter (N:=9) Tryz.func18 rfl rfl rfl hok (enter2 h1 h2) fun a=>?_
  repeat' (first|((with_reducible refine gS_ ?_);first|((with_reducible refine gL_ ?_);first|refine W.run ?_ fun a w G=>?_|refine W.mv fun a w G=>?_|refine W.asg fun a w G=>?_|refine W.bx fun b a w G=>?_|(refine W.nn hK ?_;clear hK K)|refine W.nl ?_|refine W.al fun b a w G=>?_|refine W.st fun w=>?_|refine W.stp fun w=>?_|refine W.ste ?_ fun w=>?_)|((with_reducible refine gC_ ?_);first|refine W.reg fun K hK=>?_|refine W.reg1 ?_|refine W.sq fun K hK=>?_|refine W.ds ?_ (fun β a w G hu=>W.fin ?_ hu) mixedOrders (by kernel_rfl)|refine W.sk ?_|refine W.cd (fun hc=>?_) (fun hc=>?_)|refine W.cb (fun hc=>?_) (fun hc=>?_)|refine W.bl ?_|refine W.ex ?_|refine W.rt ?_)|((with_reducible refine W.kn hK ?_);clear hK K)|(with_reducible first|refine W.bn ?_|refine W.xt ?_|refine W.xb ?_|refine W.xo ?_|refine W.tr ?_|refine W.br ?_)|refine W.rt1 rfl ?_|refine W.rt2 rfl ?_ ?_|refine W.rt3 rfl ?_ ?_ ?_)|clear hK K|clear hu|exact True.intro|exact Nat.le_trans (by clear hp;omega) hp|exact Nat.le_trans (by clear hp;omega) hp.1|exact Nat.le_trans (by clear hp;omega) hp.2|(clear hp;omega)|apply And.intro|refine GI.i fun _=>?_|with_reducible rfl|decide|(simp only [List.length_cons,List.length_nil];omega))
end Go.Proofs.YtnjbcjmkkejfpaaGreat
set_option linter.unusedVariables false
set_option linter.unusedSimpArgs false
namespace Go.Proofs.YtnjbcjmkkejfpaaGreat
open Go.RowKit (Below)
class Gnd (ρ : MT) : Prop where
  h : ∀ {v : Value} {G G' : Gh},ρ.t v G → ρ.t v G'
instance Gnd.e {x : Value} : Gnd (.ex x):=⟨fun h=>h⟩
instance Gnd.t2 {τ σ : MT} [h : Gnd τ] [k : Gnd σ] : Gnd (.tup2 τ σ):=⟨fun ⟨x,y,e,h1,h2⟩=>⟨x,y,e,h.h h1,k.h h2⟩⟩
instance Gnd.t3 {τ σ ρ : MT} [h : Gnd τ] [k : Gnd σ] [l : Gnd ρ] : Gnd (.tup3 τ σ ρ):=⟨fun ⟨x,y,z,e,h1,h2,h3⟩=>⟨x,y,z,e,h.h h1,k.h h2,l.h h3⟩⟩
section
variable {P : Program} {W0 : World} {a : Act} {w : World} {G : Gh} {o : Oper} {ρ : MT}
theorem OpR.lendG {f b : Nat} {ty : TypeId} {k : Option Nat} {τ : MT} {args : Array Operand} {ats : Array TypeId} (hok : Gok w G) (ho : o.op = .call { callee := .value (.func f), args := args, argTypes := ats }) (hc : callable P f = true) (hg : Gnd ρ)
    (hb : BX.ok ⟨b,ty,k,τ⟩ W0 w G) (h : ∀ G1 v,Gle G G1 → Gok w G1 → Shaped k v → τ.t v G → G1 b = some (.cells v.cells ty (0,0)) → Calls P f (args.map a.eval) w (Ret w G1 ρ)) : OpR P o a w G ρ:=by
  obtain ⟨h1,h2,v,hv,hs,hvt⟩:=hb
  simp only at h1 h2 hv hs hvt
  have hle : Gle G (Gput G b (.cells v.cells ty (0,0))):=fun c x hc=>by
    unfold Gput;split
    · rename_i e;subst e;rw [h2] at hc;cases hc
    · exact hc
  have hok1 : Gok w (Gput G b (.cells v.cells ty (0,0))):=fun c x hc=>by
    unfold Gput at hc;split at hc
    · rename_i e;subst e;cases hc;exact hv
    · exact hok c x hc
  have hcall:=h _ v hle hok1 hs hvt (by simp [Gput])
  intro Q K hK
  have hr : (execOp a.eval o).run P w = .ok (.enter f (args.map a.eval)) w:=by
    simp [execOp,ho,resolve,Act.eval,Deferred.ofValue,invoke,run_callFunc hc]
  unfold Oper.wp
  rw [hr]
  refine Calls.mono hcall fun e w' he=>?_
  obtain ⟨u,G',rfl,hu,hN⟩:=he
  refine hK u w' (fun c=>if c = b then none else G' c) (hg.h hu) ⟨hN.below,fun c hc=>?_,fun c x hc=>?_,fun c x hc=>?_⟩
  · by_cases e : c = b
    · subst e;simp [h2]
    · simp only [if_neg e];rw [hN.agree c hc];unfold Gput;rw [if_neg e]
  · have e : c ≠ b:=fun e=>by rw [e,h2] at hc;cases hc
    simp only [if_neg e]
    exact hN.le c x (hle c x hc)
  · by_cases e : c = b
    · subst e;simp at hc
    · simp only [if_neg e] at hc;exact hN.ok c x hc
end
theorem Args.mono {G G' : Gh} (hle : Gle G G') : ∀ {vs : List Value} {τs : List MT},Args vs τs G → Args vs τs G'
  | [],[],_=>trivial
  | _ :: _,τ :: _,h=>⟨τ.mono hle h.1,Args.mono hle h.2⟩
  | [],_ :: _,h=>h.elim
  | _ :: _,[],h=>h.elim
class OpdX (L : List (Nat × MT)) (B : List BX) (xs : List Operand) (τs : outParam (List MT)) (u : outParam (List Nat)) (i : outParam Nat) (pre : outParam Prop) : Prop where
  h : ∃ xb,B[i]? = some xb ∧ ∀ {a : Act} {G G1 : Gh} {v : Value},pre → Env L u a G → Gle G G1 → Shaped xb.k v → xb.τ.t v G → G1 xb.b = some (.cells v.cells xb.ty (0,0)) → Args (xs.map a.eval) τs G1
section
variable {P : Program} {L : List (Nat × MT)} {B : List BX} {x : Operand} {ys : List Operand} {u v : List Nat} {t ty : TypeId} {τ τb ρ : MT} {τs : List MT} {n nn c b i f : Nat} {k : Option Nat} {α : Type} {T : α → MT} {xs : List α} {pre p2 : Prop} {ats : Array TypeId}
instance OpdX.hd [h : Opd L x (OSL b n c) u] [hb : Bx B b i ty (some nn) τb] [r : AsR τb k α T xs] [l : OpdL L ys τs v] : OpdX L B (x :: ys) (LS k (xs.map T) :: τs) (u ++ v) i (n = xs.length ∧ n ≤ c ∧ n ≤ LIM):=⟨_,hb.m,fun hp e hle hs ht hG =>
  ⟨ROWS.sl (r.h (MT.mono _ hle ht)) hG (by rw [List.length_map];exact hp.1) hp.2.1 hp.2.2 (h.h e.l),Args.mono hle (l.h e.r)⟩⟩
instance OpdX.tl [h : Opd L x τ u] [l : OpdX L B ys τs v i pre] : OpdX L B (x :: ys) (τ :: τs) (u ++ v) i pre:=by
  obtain ⟨xb,h1,h2⟩:=l.h
  exact ⟨xb,h1,fun hp e hle hs ht hG=>⟨τ.mono hle (h.h e.l),h2 hp e.r hle hs ht hG⟩⟩
instance (priority:=400) Op1.lend [h : OpdX L B ys τs u i p2] [c : Con P f τs pre ρ] [g : Gnd ρ] [kb : Cb P f] : Op1 P L B (.call { callee:=.value (.func f),args:=ys.toArray,argTypes:=ats }) (p2 ∧ pre) ρ (u ++ [1000000 + i]):=⟨fun ho hok e hB hp=>by
  obtain ⟨xb,h1,h2⟩:=h.h
  exact .lendG hok ho kb.h g (hB i xb (by simp) h1) fun G1 v hle hok1 hs ht hG=>by
    rw [List.map_toArray]
    exact c.h hok1 (h2 hp.1 e.l hle hs ht hG) hp.2⟩
instance Op1.sla [e : ArE P t n k] [h : Opd L x (PB b) u] : Op1 P L B (.slice t x none none none) (0 < n) (OSL b n n) u:=⟨fun ho hok e' _ hp=>by
  obtain ⟨e0,h3,h4⟩:=e.h
  exact .slAr hok ho h3 h4 (h.h e') (decide_eq_true hp) rfl⟩
instance LitN.add {z z' : Int} {m m' : Nat} [h : LitN z m] [h' : LitN z' m'] : LitN (z + z') (m + m'):=⟨by rw [h.h,h'.h];omega⟩
instance LitN.mul {z z' : Int} {m m' : Nat} [h : LitN z m] [h' : LitN z' m'] : LitN (z * z') (m * m'):=⟨by rw [h.h,h'.h];exact (Int.natCast_mul _ _).symm⟩
variable {y : Operand} {t' : TypeId} {z z' : Int} {m m' j : Nat}
instance Op1.quoN [h : Opd L x (IT z) u] [h2 : Opd L y (IT z') v] [l : LitN z m] [l' : LitN z' m'] : Op1 P L B (.binOp .quo t x y t') (m' ≠ 0 ∧ m ≤ 9223372036854775807) (NT (m / m')) (u ++ v):=⟨fun ho hok e _ hp=>by
  obtain rfl:=l.h;obtain rfl:=l'.h
  exact .nquo hok ho (h.h e.l) (h2.h e.r) hp.1 (i64_w ⟨Int.le_trans (by decide) (Int.natCast_nonneg _),Int.ofNat_le.2 (Nat.le_trans (Nat.div_le_self m m') hp.2)⟩) rfl⟩
instance Op1.remN [h : Opd L x (IT z) u] [h2 : Opd L y (IT z') v] [l : LitN z m] [l' : LitN z' m'] : Op1 P L B (.binOp .rem t x y t') (m' ≠ 0) (NT (m % m')) (u ++ v):=⟨fun ho hok e _ hp=>by
  obtain rfl:=l.h;obtain rfl:=l'.h
  exact .nrem hok ho (h.h e.l) (h2.h e.r) hp rfl⟩
instance Op1.shlN [h : Opd L x (IT z) u] [h2 : Opd L y (IT z') v] [l : LitN z m] [l' : LitN z' m'] : Op1 P L B (.binOp .shl t x y t') (m' < 64 ∧ m * 2 ^ m' ≤ 9223372036854775807) (NT (m * 2 ^ m')) (u ++ v):=⟨fun ho hok e _ hp=>by
  obtain rfl:=l.h;obtain rfl:=l'.h
  refine .shl hok ho (h.h e.l) (h2.h e.r) (by omega) ?_
  have e1 : (min ((m' : Int).toNat) IntKind.i64.bits) = m':=by simp only [Int.toNat_natCast,IntKind.bits];omega
  have e2 : ((m : Int) * 2 ^ m') = ((m * 2 ^ m' : Nat) : Int):=by simp
  rw [e1,e2,i64_w ⟨by omega,by omega⟩];rfl⟩
instance Op1.maxN [h : Opd L x (IT z) u] [h2 : Opd L y (IT z') v] [l : LitN z m] [l' : LitN z' m'] : Op1 P L B (.call { callee:=.builtin .max,args:=#[x,y],argTypes:=ats }) True (NT (max m m')) (u ++ v):=⟨fun ho hok e _ hp=>by
  obtain rfl:=l.h;obtain rfl:=l'.h
  exact .nmax hok ho (h.h e.l) (h2.h e.r) rfl⟩
class LsOf (τ : MT) (k : Option Nat) (α : outParam Type) (T : outParam (α → MT)) (xs : outParam (List α)) : Prop where
  h : ∀ {v : Value} {G : Gh},τ.t v G → (LS k (xs.map T)).t v G
instance LsOf.ll : LsOf (LS k (xs.map T)) k α T xs:=⟨fun h=>h⟩
instance LsOf.lc : LsOf (LSC k (xs.map T)) k α T xs:=⟨fun h=>h.1⟩
instance Op1.cutHiM [s : SlE P t k] [h : Opd L x τ u] [l : LsOf τ k α T xs] [h2 : Opd L y (IT z) v] [lz : LitN z j] : Op1 P L B (.slice t x none (some y) none) (j ≤ xs.length) (LS k ((xs.take j).map T)) (u ++ v):=⟨fun ho hok e _ hp=>by
  obtain ⟨e',h3,h4⟩:=s.h
  exact .cutHiM hok ho h3 h4 (l.h (h.h e.l)) (h2.h e.r) lz.h hp⟩
instance Op1.cutLoM [s : SlE P t k] [h : Opd L x τ u] [l : LsOf τ k α T xs] [h2 : Opd L y (IT z) v] [lz : LitN z j] : Op1 P L B (.slice t x (some y) none none) (j ≤ xs.length) (LS k ((xs.drop j).map T)) (u ++ v):=⟨fun ho hok e _ hp=>by
  obtain ⟨e',h3,h4⟩:=s.h
  exact .cutLoM hok ho h3 h4 (l.h (h.h e.l)) (h2.h e.r) lz.h hp⟩
instance Op1.cutLHM {y2 : Operand} {z2 : Int} {j2 : Nat} {v2 : List Nat} [s : SlE P t k] [h : Opd L x τ u] [l : LsOf τ k α T xs] [h2 : Opd L y (IT z) v] [lz : LitN z j] [h3 : Opd L y2 (IT z2) v2] [lz2 : LitN z2 j2] : Op1 P L B (.slice t x (some y) (some y2) none) (j ≤ j2 ∧ j2 ≤ xs.length) (LS k (((xs.take j2).drop j).map T)) (u ++ (v ++ v2)):=⟨fun ho hok e _ hp=>by
  obtain ⟨e',h4,h5⟩:=s.h
  exact .cutLHM hok ho h4 h5 (l.h (h.h e.l)) (h2.h e.r.l) lz.h (h3.h e.r.r) lz2.h hp.1 hp.2⟩
instance (priority:=1100) Op1.lenC [s : SlE P t k] [h : Opd L x (LSC k (xs.map T)) u] : Op1 P L B (.call { callee:=.builtin .len,args:=#[x],argTypes:=#[t] }) True (NT xs.length) u:=⟨fun ho hok e _ _=>by obtain ⟨e',h1,h2⟩:=s.h;exact .lenM hok ho h1 (h.h e).1 rfl⟩
instance Op1.ixMC [Inhabited α] [s : SlE P t k] [h : Opd L x (LSC k (xs.map T)) u] [h2 : Opd L y (IT z) v] : Op1 P L B (.indexAddr t x y) (0 ≤ z ∧ z < xs.length) (PE k (T (xs.getD z.toNat default))) (u ++ v):=⟨fun ho hok e _ hp=>by
  obtain ⟨e',h3,h4⟩:=s.h
  exact .ixM hok ho h3 h4 (h.h e.l).1 (h2.h e.r) (i:=z.toNat) (by omega) (by omega)⟩
instance (priority:=1100) Op1.ixMCN [Inhabited α] [s : SlE P t k] [h : Opd L x (LSC k (xs.map T)) u] [h2 : Opd L y (NT j) v] : Op1 P L B (.indexAddr t x y) (j < xs.length) (PE k (T (xs.getD j default))) (u ++ v):=⟨fun ho hok e _ hp=>by
  obtain ⟨e',h3,h4⟩:=s.h
  exact .ixM hok ho h3 h4 (h.h e.l).1 (h2.h e.r) rfl hp⟩
end
section
variable {fs : List (Option Nat × MT)} {n i : Nat} {τ τ' : MT} {k kt : Option Nat}
instance (priority:=500) PrtL.s5 [h : PrtL fs i kt τ] : PrtL ((some 5,τ') :: fs) (i + 5) kt τ:=h.skip rfl
instance (priority:=500) UpdL.s5 {fs' : List (Option Nat × MT)} [h : UpdL fs i kt τ fs'] : UpdL ((some 5,τ') :: fs) (i + 5) kt τ ((some 5,τ') :: fs'):=h.skip rfl
instance ShN.s7 [h : ShN fs n] : ShN ((some 7,τ) :: fs) (n + 7):=⟨by rw [offs_cons,h.h];simp;omega⟩
instance (priority:=500) PrtL.s7 [h : PrtL fs i kt τ] : PrtL ((some 7,τ') :: fs) (i + 7) kt τ:=h.skip rfl
instance (priority:=500) UpdL.s7 {fs' : List (Option Nat × MT)} [h : UpdL fs i kt τ fs'] : UpdL ((some 7,τ') :: fs) (i + 7) kt τ ((some 7,τ') :: fs'):=h.skip rfl
instance ShN.s8 [h : ShN fs n] : ShN ((some 8,τ) :: fs) (n + 8):=⟨by rw [offs_cons,h.h];simp;omega⟩
instance (priority:=500) PrtL.s8 [h : PrtL fs i kt τ] : PrtL ((some 8,τ') :: fs) (i + 8) kt τ:=h.skip rfl
instance (priority:=500) UpdL.s8 {fs' : List (Option Nat × MT)} [h : UpdL fs i kt τ fs'] : UpdL ((some 8,τ') :: fs) (i + 8) kt τ ((some 8,τ') :: fs'):=h.skip rfl
instance ShN.s9 [h : ShN fs n] : ShN ((some 9,τ) :: fs) (n + 9):=⟨by rw [offs_cons,h.h];simp;omega⟩
instance (priority:=500) PrtL.s9 [h : PrtL fs i kt τ] : PrtL ((some 9,τ') :: fs) (i + 9) kt τ:=h.skip rfl
instance (priority:=500) UpdL.s9 {fs' : List (Option Nat × MT)} [h : UpdL fs i kt τ fs'] : UpdL ((some 9,τ') :: fs) (i + 9) kt τ ((some 9,τ') :: fs'):=h.skip rfl
instance ShN.s10 [h : ShN fs n] : ShN ((some 10,τ) :: fs) (n + 10):=⟨by rw [offs_cons,h.h];simp;omega⟩
instance (priority:=500) PrtL.s10 [h : PrtL fs i kt τ] : PrtL ((some 10,τ') :: fs) (i + 10) kt τ:=h.skip rfl
instance (priority:=500) UpdL.s10 {fs' : List (Option Nat × MT)} [h : UpdL fs i kt τ fs'] : UpdL ((some 10,τ') :: fs) (i + 10) kt τ ((some 10,τ') :: fs'):=h.skip rfl
instance ShN.s12 [h : ShN fs n] : ShN ((some 12,τ) :: fs) (n + 12):=⟨by rw [offs_cons,h.h];simp;omega⟩
instance (priority:=500) PrtL.s12 [h : PrtL fs i kt τ] : PrtL ((some 12,τ') :: fs) (i + 12) kt τ:=h.skip rfl
instance (priority:=500) UpdL.s12 {fs' : List (Option Nat × MT)} [h : UpdL fs i kt τ fs'] : UpdL ((some 12,τ') :: fs) (i + 12) kt τ ((some 12,τ') :: fs'):=h.skip rfl
instance ShN.s13 [h : ShN fs n] : ShN ((some 13,τ) :: fs) (n + 13):=⟨by rw [offs_cons,h.h];simp;omega⟩
instance (priority:=500) PrtL.s13 [h : PrtL fs i kt τ] : PrtL ((some 13,τ') :: fs) (i + 13) kt τ:=h.skip rfl
instance (priority:=500) UpdL.s13 {fs' : List (Option Nat × MT)} [h : UpdL fs i kt τ fs'] : UpdL ((some 13,τ') :: fs) (i + 13) kt τ ((some 13,τ') :: fs'):=h.skip rfl
instance ShN.s14 [h : ShN fs n] : ShN ((some 14,τ) :: fs) (n + 14):=⟨by rw [offs_cons,h.h];simp;omega⟩
instance (priority:=500) PrtL.s14 [h : PrtL fs i kt τ] : PrtL ((some 14,τ') :: fs) (i + 14) kt τ:=h.skip rfl
instance (priority:=500) UpdL.s14 {fs' : List (Option Nat × MT)} [h : UpdL fs i kt τ fs'] : UpdL ((some 14,τ') :: fs) (i + 14) kt τ ((some 14,τ') :: fs'):=h.skip rfl
instance ShN.s15 [h : ShN fs n] : ShN ((some 15,τ) :: fs) (n + 15):=⟨by rw [offs_cons,h.h];simp;omega⟩
instance (priority:=500) PrtL.s15 [h : PrtL fs i kt τ] : PrtL ((some 15,τ') :: fs) (i + 15) kt τ:=h.skip rfl
instance (priority:=500) UpdL.s15 {fs' : List (Option Nat × MT)} [h : UpdL fs i kt τ fs'] : UpdL ((some 15,τ') :: fs) (i + 15) kt τ ((some 15,τ') :: fs'):=h.skip rfl
instance ShN.s16 [h : ShN fs n] : ShN ((some 16,τ) :: fs) (n + 16):=⟨by rw [offs_cons,h.h];simp;omega⟩
instance (priority:=500) PrtL.s16 [h : PrtL fs i kt τ] : PrtL ((some 16,τ') :: fs) (i + 16) kt τ:=h.skip rfl
instance (priority:=500) UpdL.s16 {fs' : List (Option Nat × MT)} [h : UpdL fs i kt τ fs'] : UpdL ((some 16,τ') :: fs) (i + 16) kt τ ((some 16,τ') :: fs'):=h.skip rfl
instance ShN.s18 [h : ShN fs n] : ShN ((some 18,τ) :: fs) (n + 18):=⟨by rw [offs_cons,h.h];simp;omega⟩
instance (priority:=500) PrtL.s18 [h : PrtL fs i kt τ] : PrtL ((some 18,τ') :: fs) (i + 18) kt τ:=h.skip rfl
instance (priority:=500) UpdL.s18 {fs' : List (Option Nat × MT)} [h : UpdL fs i kt τ fs'] : UpdL ((some 18,τ') :: fs) (i + 18) kt τ ((some 18,τ') :: fs'):=h.skip rfl
instance ShN.s20 [h : ShN fs n] : ShN ((some 20,τ) :: fs) (n + 20):=⟨by rw [offs_cons,h.h];simp;omega⟩
instance (priority:=500) PrtL.s20 [h : PrtL fs i kt τ] : PrtL ((some 20,τ') :: fs) (i + 20) kt τ:=h.skip rfl
instance (priority:=500) UpdL.s20 {fs' : List (Option Nat × MT)} [h : UpdL fs i kt τ fs'] : UpdL ((some 20,τ') :: fs) (i + 20) kt τ ((some 20,τ') :: fs'):=h.skip rfl
end
end Go.Proofs.YtnjbcjmkkejfpaaGreat
set_option linter.unusedVariables false
set_option linter.unusedSimpArgs false
namespace Go.Proofs.YtnjbcjmkkejfpaaGreat
open Go.RowKit (Below)
abbrev NM (n : Nat) (l : List Rat) : MT:=LS (some 3) (l.map (QC n))
abbrev TWR (n : Nat) (rs : List (List Rat)) : MT:=PTS [(none,LS none (rs.map (NM n)))]
abbrev BPT (n : Nat) (x : Int × List Rat × List Rat) : MT:=PTS [(none,IT x.1),(some 2,PTS [(none,NM n x.2.1),(none,NM n x.2.2)])]
theorem LS.shn {k : Option Nat} {τs : List MT} {v : Value} {G : Gh} (h : (LS k τs).t v G) : Shaped none v:=by obtain ⟨A,c,rfl,_⟩:=h;exact ⟨rfl,rfl⟩
instance {k : Option Nat} {τs : List MT} : ShK (LS k τs) none:=⟨LS.shn⟩
instance {k : Option Nat} {τs : List MT} : ShK (LSC k τs) none:=⟨fun h=>LS.shn h.1⟩
class Fit {α : Type} (τ : MT) (T : α → MT) (x : outParam α) (p : outParam Prop) : Prop where
  h : p → ∀ {v : Value} {G : Gh},τ.t v G → (T x).t v G
class FitL {α : Type} (τs : List MT) (T : α → MT) (xs : outParam (List α)) (p : outParam Prop) : Prop where
  h : p → τs.length = xs.length ∧ ∀ (i : Nat) (τ : MT),τs[i]? = some τ → ∃ x,xs[i]? = some x ∧ ∀ {v : Value} {G : Gh},τ.t v G → (T x).t v G
section
variable {α : Type} {T : α → MT} {τ τ' : MT} {τs : List MT} {x : α} {xs ys : List α} {p p' : Prop} {b c : Nat} {k : Option Nat}
instance (priority:=500) Fit.of [h : AsT τ T x] : Fit τ T x True:=⟨fun _ _ _ hv=>h.h hv⟩
instance Fit.q {z : Rat} : Fit (QC c z) (QC b) z (c ≤ b):=⟨fun e _ _ h=>QC.up h e⟩
instance FitL.nil : FitL [] T [] True:=⟨fun _=>⟨rfl,fun i τ h=>by simp at h⟩⟩
instance FitL.cons [h : Fit τ T x p] [l : FitL τs T xs p'] : FitL (τ :: τs) T (x :: xs) (p ∧ p'):=⟨fun e=>⟨by simp [(l.h e.2).1],fun i σ hi=>by
  cases i with
  | zero=>cases hi;exact ⟨x,rfl,h.h e.1⟩
  | succ i=>exact (l.h e.2).2 i σ (by simpa using hi)⟩⟩
class FitM {β : Type} (U : β → MT) (T : α → MT) (f : outParam (β → α)) (p : outParam Prop) : Prop where
  h : p → ∀ {y : β} {v : Value} {G : Gh},(U y).t v G → (T (f y)).t v G
instance (priority:=600) FitL.m {β : Type} {U : β → MT} {f : β → α} {zs : List β} [h : FitM U T f p] : FitL (zs.map U) T (zs.map f) p:=⟨fun e=>⟨by simp,fun i τ hi=>by
  rw [List.getElem?_map] at hi
  cases hz : zs[i]? with
  | none=>rw [hz] at hi;cases hi
  | some z=>rw [hz] at hi;cases hi;exact ⟨f z,by simp [hz],fun hv=>h.h e hv⟩⟩⟩
instance FitL.q {zs : List Rat} : FitL (zs.map (QC c)) (QC b) zs (c ≤ b):=⟨fun e=>⟨by simp,fun i τ hi=>by
  rw [List.getElem?_map] at hi
  cases hz : zs[i]? with
  | none=>rw [hz] at hi;cases hi
  | some z=>rw [hz] at hi;cases hi;exact ⟨z,rfl,fun hv=>QC.up hv e⟩⟩⟩
theorem FitL.ls (l : FitL τs T xs p) (e : p) {v : Value} {G : Gh} (h : (LS k τs).t v G) : (LS k (xs.map T)).t v G:=AsTL.ls ⟨(l.h e).1,fun i τ hi=>(l.h e).2 i τ hi⟩ h
class LsQ (τ : MT) (τs : outParam (List MT)) : Prop where
  h : ∀ {v : Value} {G : Gh},τ.t v G → (LS (some 3) τs).t v G
instance LsQ.l : LsQ (LS (some 3) τs) τs:=⟨fun h=>h⟩
instance LsQ.lc : LsQ (LSC (some 3) τs) τs:=⟨fun h=>h.1⟩
instance LsQ.n : LsQ (.ex (.slice none 0 0)) []:=⟨fun h=>by cases h;exact LS.nil⟩
instance Fit.nm {l : List Rat} [a : LsQ τ τs] [h : FitL τs (QC b) l p] : Fit τ (NM b) l p:=⟨fun e _ _ hv=>h.ls e (a.h hv)⟩
instance Fit.bp {z : Int} {τ1 τ2 : MT} {l1 l2 : List Rat} {p1 p2 : Prop} [h1 : Fit τ1 (NM b) l1 p1] [h2 : Fit τ2 (NM b) l2 p2] : Fit (PTS [(none,IT z),(some 2,PTS [(none,τ1),(none,τ2)])]) (BPT b) (z,l1,l2) (p1 ∧ p2):=⟨fun e v G hv=>by
  obtain ⟨us,e1,a1,a2⟩:=hv
  refine ⟨us,e1,a1,fun i f u hf hu=>?_⟩
  match i,hf with
  | 0,hf=>exact a2 0 _ u (by cases hf;rfl) hu
  | 1,hf =>
    cases hf
    obtain ⟨b1,us2,e2,c1,c2⟩:=a2 1 _ u rfl hu
    refine ⟨b1,us2,e2,c1,fun j g y hg hy=>?_⟩
    match j,hg with
    | 0,hg=>cases hg;obtain ⟨d1,d2⟩:=c2 0 _ y rfl hy;exact ⟨d1,h1.h e.1 d2⟩
    | 1,hg=>cases hg;obtain ⟨d1,d2⟩:=c2 1 _ y rfl hy;exact ⟨d1,h2.h e.2 d2⟩⟩
instance (priority:=900) Cv.fit {xs ys : List α} [h : FitL τs T xs p] : Cv (LSC k τs) (LS k (ys.map T)) (p ∧ xs = ys):=⟨fun e v G hv=>by
  obtain ⟨e1,rfl⟩:=e;exact h.ls e1 hv.1⟩
instance (priority:=900) Cv.fitl {xs ys : List α} [h : FitL τs T xs p] : Cv (LS k τs) (LS k (ys.map T)) (p ∧ xs = ys):=⟨fun e v G hv=>by
  obtain ⟨e1,rfl⟩:=e;exact h.ls e1 hv⟩
class NU (τ : MT) (τ' : outParam MT) : Prop where
  h : ∀ {v : Value} {G : Gh},τ.t v G → τ'.t v G
theorem LS.els {v : Value} {G : Gh} (h : (LS k τs).t v G) {σs : List MT} (hl : τs.length = σs.length) (f : ∀ (i : Nat) (τ σ : MT),τs[i]? = some τ → σs[i]? = some σ → ∀ {v : Value},τ.t v G → σ.t v G) : (LS k σs).t v G:=by
  obtain ⟨A,c',h1,h2,h3,h4⟩:=h
  refine ⟨A,c',by rw [h1,hl],by rw [← hl];exact h2,by rw [← hl];exact h3,fun i σ hi=>?_⟩
  have hlt : i < τs.length:=by rw [hl];exact (List.getElem?_eq_some_iff.1 hi).1
  obtain ⟨b,off,e3,e4⟩:=h4 i τs[i] (List.getElem?_eq_getElem hlt)
  exact ⟨b,off,e3,e4.cv (f i _ σ (List.getElem?_eq_getElem hlt) hi)⟩
class Grow {α : Type} (T : Nat → α → MT) : Prop where
  h : ∀ {n m : Nat} {x : α} {v : Value} {G : Gh},(T n x).t v G → n ≤ m → (T m x).t v G
instance : Grow QC:=⟨QC.up⟩
class Rdn {α : Type} (τ : MT) (T : Nat → α → MT) (n : outParam Nat) (x : outParam α) : Prop where
  h : ∀ {v : Value} {G : Gh},τ.t v G → (T n x).t v G
class RdnL {α : Type} (τs : List MT) (T : Nat → α → MT) (n : outParam Nat) (xs : outParam (List α)) : Prop where
  h : τs.length = xs.length ∧ ∀ (i : Nat) (τ σ : MT),τs[i]? = some τ → (xs.map (T n))[i]? = some σ → ∀ {v : Value} {G : Gh},τ.t v G → σ.t v G
instance Rdn.q {z : Rat} : Rdn (QC b z) QC b z:=⟨fun h=>h⟩
instance RdnL.nil {T : Nat → α → MT} : RdnL [] T 0 []:=⟨rfl,fun i τ σ h=>by simp at h⟩
instance RdnL.m {T : Nat → α → MT} : RdnL (xs.map (T b)) T b xs:=⟨by simp,fun i τ σ h1 h2 {v G} h=>by rw [h1] at h2;cases h2;exact h⟩
instance (priority:=800) RdnL.cons {T : Nat → α → MT} [g : Grow T] [h : Rdn τ T b x] [l : RdnL τs T c xs] : RdnL (τ :: τs) T (max b c) (x :: xs):=⟨by simp [l.h.1],fun i σ ρ h1 h2 {v G} hv=>by
  cases i with
  | zero=>cases h1;cases h2;exact g.h (h.h hv) (Nat.le_max_left _ _)
  | succ i =>
    simp only [List.map_cons,List.getElem?_cons_succ,List.getElem?_map] at h1 h2
    cases hx : xs[i]? with
    | none=>rw [hx] at h2;cases h2
    | some y=>rw [hx] at h2;cases h2;exact g.h (l.h.2 i σ _ h1 (by rw [List.getElem?_map,hx];rfl) hv) (Nat.le_max_right _ _)⟩
theorem RdnL.ls {T : Nat → α → MT} (l : RdnL τs T b xs) {v : Value} {G : Gh} (h : (LS k τs).t v G) : (LS k (xs.map (T b))).t v G:=LS.els h (by rw [l.h.1,List.length_map]) fun i τ σ h1 h2 _ hv=>l.h.2 i τ σ h1 h2 hv
theorem NM.up {l : List Rat} {v : Value} {G : Gh} (h : (NM b l).t v G) (e : b ≤ c) : (NM c l).t v G:=LS.convM (T:=QC b) (U:=QC c) (f:=fun r=>r) h (by simp) fun _ _ _ _ hv=>QC.up hv e
instance : Grow NM:=⟨NM.up⟩
instance Rdn.nm {l : List Rat} [a : LsQ τ τs] [h : RdnL τs QC b l] : Rdn τ NM b l:=⟨fun hv=>h.ls (a.h hv)⟩
instance NU.of {l : List Rat} [h : Rdn τ NM b l] : NU τ (NM b l):=⟨fun hv=>h.h hv⟩
class LsN (τ : MT) (τs : outParam (List MT)) : Prop where
  h : ∀ {v : Value} {G : Gh},τ.t v G → (LS none τs).t v G
instance LsN.l : LsN (LS none τs) τs:=⟨fun h=>h⟩
instance LsN.lc : LsN (LSC none τs) τs:=⟨fun h=>h.1⟩
instance LsN.n : LsN (.ex (.slice none 0 0)) []:=⟨fun h=>by cases h;exact LS.nil⟩
abbrev RTS (n : Nat) (rs : List (List Rat)) : MT:=LS none (rs.map (NM n))
instance Rdn.rts {rs : List (List Rat)} [a : LsN τ τs] [h : RdnL τs NM b rs] : Rdn τ RTS b rs:=⟨fun hv=>h.ls (a.h hv)⟩
instance NU.rts {rs : List (List Rat)} [h : Rdn τ RTS b rs] : NU τ (RTS b rs):=⟨fun hv=>h.h hv⟩
theorem pts1 (f : ∀ {v : Value} {G : Gh},τ.t v G → τ'.t v G) {v : Value} {G : Gh} (h : (PTS [(k,τ)]).t v G) : (PTS [(k,τ')]).t v G:=by
  obtain ⟨us,e,a1,a2⟩:=h
  refine ⟨us,e,a1,fun i p u hp hu=>?_⟩
  match i,hp with
  | 0,hp=>cases hp;obtain ⟨d1,d2⟩:=a2 0 _ u rfl hu;exact ⟨d1,f d2⟩
instance NU.tw {rs : List (List Rat)} [h : Rdn τ RTS b rs] : NU (PTS [(none,τ)]) (TWR b rs):=⟨fun hv=>pts1 (τ':=RTS b rs) h.h hv⟩
instance Fit.rts {rs : List (List Rat)} [a : LsN τ τs] [h : FitL τs (NM b) rs p] : Fit τ (RTS b) rs p:=⟨fun e _ _ hv=>h.ls e (a.h hv)⟩
instance (priority:=900) Cv.tw {rs rs' : List (List Rat)} [h : Fit τ (RTS b) rs p] : Cv (PTS [(none,τ)]) (TWR b rs') (p ∧ rs = rs'):=⟨fun e _ _ hv=>by
  obtain ⟨e1,rfl⟩:=e;exact pts1 (τ':=RTS b rs) (h.h e1) hv⟩
end
end Go.Proofs.YtnjbcjmkkejfpaaGreat
set_option linter.unusedVariables false
set_option linter.unusedSimpArgs false
namespace Go.Proofs.YtnjbcjmkkejfpaaGreat
open Go.RowKit (Below)
def RetW {α : Type} (w : World) (G : Gh) (k : Option Nat) (e : TypeId) (T : α → MT) (xs : List α) : Ending → World → Prop:=fun en w' =>
  ∃ b c G',en = .returned (.slice (some ⟨b,0,none⟩) xs.length c) ∧ Nxt w G w' G' ∧ BX.ok ⟨b,e,some (c * k.getD 1),ROWS k (xs.map T)⟩ w w' G' ∧ xs.length ≤ c
class ConO {α : outParam Type} (P : Program) (f : Nat) (τs : List MT) (pre : outParam Prop) (k : outParam (Option Nat)) (e : outParam TypeId) (T : outParam (α → MT)) (xs : outParam (List α)) : Prop where
  h : ∀ {vs : List Value} {w : World} {G : Gh},Gok w G → Args vs τs G → pre → Calls P f vs.toArray w (RetW w G k e T xs)
section
variable {P : Program} {f : Nat} {τ1 τ2 τ3 : MT} {pre : Prop} {k : Option Nat} {e : TypeId} {α : Type} {T : α → MT} {xs : List α}
theorem ConO.o1 (h : ∀ {v1 : Value} {w : World} {G : Gh},Gok w G → τ1.t v1 G → pre → Calls P f #[v1] w (RetW w G k e T xs)) : ConO P f [τ1] pre k e T xs:=⟨fun {vs _ _} hok ha hp=>match vs,ha with | [_],ha=>h hok ha.1 hp⟩
theorem ConO.o2 (h : ∀ {v1 v2 : Value} {w : World} {G : Gh},Gok w G → τ1.t v1 G → τ2.t v2 G → pre → Calls P f #[v1,v2] w (RetW w G k e T xs)) : ConO P f [τ1,τ2] pre k e T xs:=⟨fun {vs _ _} hok ha hp=>match vs,ha with | [_,_],ha=>h hok ha.1 ha.2.1 hp⟩
theorem ConO.o3 (h : ∀ {v1 v2 v3 : Value} {w : World} {G : Gh},Gok w G → τ1.t v1 G → τ2.t v2 G → τ3.t v3 G → pre → Calls P f #[v1,v2,v3] w (RetW w G k e T xs)) : ConO P f [τ1,τ2,τ3] pre k e T xs:=⟨fun {vs _ _} hok ha hp=>match vs,ha with | [_,_,_],ha=>h hok ha.1 ha.2.1 ha.2.2.1 hp⟩
section
variable {w : World} {G : Gh} {v1 v2 v3 : Value}
theorem ConO.c1 (c : ConO P f [τ1] pre k e T xs) (hok : Gok w G) (h1 : τ1.t v1 G) (hp : pre) : Calls P f #[v1] w (RetW w G k e T xs):=c.h (vs:=[v1]) hok ⟨h1,trivial⟩ hp
theorem ConO.c2 (c : ConO P f [τ1,τ2] pre k e T xs) (hok : Gok w G) (h1 : τ1.t v1 G) (h2 : τ2.t v2 G) (hp : pre) : Calls P f #[v1,v2] w (RetW w G k e T xs):=c.h (vs:=[v1,v2]) hok ⟨h1,h2,trivial⟩ hp
theorem ConO.c3 (c : ConO P f [τ1,τ2,τ3] pre k e T xs) (hok : Gok w G) (h1 : τ1.t v1 G) (h2 : τ2.t v2 G) (h3 : τ3.t v3 G) (hp : pre) : Calls P f #[v1,v2,v3] w (RetW w G k e T xs):=c.h (vs:=[v1,v2,v3]) hok ⟨h1,h2,h3,trivial⟩ hp
end
end
section
variable {P : Program} {L L' : List (Nat × MT)} {B B' Bh : List BX} {ys : List Operand} {u v : List Nat} {t ty e : TypeId} {τ τ' τb : MT} {τs : List MT} {n c b i j f d : Nat} {k : Option Nat} {α : Type} {T : α → MT} {xs : List α}
variable {W0 : World} {G0 : Gh} {N : Nat} {a : Act} {w : World} {G : Gh} {Q : Exit → Act → World → Prop} {pre : Prop} {rest ops : List Oper} {arr : Array Oper} {pos : String} {aft : Array Edge} {ats : Array TypeId} {fn : Func} {σs : List MT}
theorem W.co [h : OpdL L ys τs u] [cn : ConO P f τs pre k e T xs] [kb : Cb P f] (hp : pre) (K : ∀ b c a w G, xs.length ≤ c → St W0 G0 N ((d, OSL b xs.length c) :: L) (⟨b, e, some (c * k.getD 1), ROWS k (xs.map T)⟩ :: B) a w G → wpList P arr Q rest a w) (hdN : (decide (d < N)) = true := by rfl) (hf : fresh d L = true := by rfl) :
    St W0 G0 N L B a w G → wpList P arr Q (⟨some d,.call { callee:=.value (.func f),args:=ys.toArray,argTypes:=ats },ty,pos,aft,none⟩ :: rest) a w:=fun S =>
  wpList_plain rfl fun K' hK=>by
    have hr : (execOp a.eval ⟨some d,.call { callee:=.value (.func f),args:=ys.toArray,argTypes:=ats },ty,pos,aft,none⟩).run P w = .ok (.enter f (ys.toArray.map a.eval)) w:=by
      simp [execOp,resolve,Act.eval,Deferred.ofValue,invoke,run_callFunc kb.h]
    unfold Oper.wp
    rw [hr]
    have hc : Calls P f (ys.toArray.map a.eval) w (RetW w G k e T xs):=by rw [List.map_toArray];exact cn.h S.ok (h.h (S.env u)) hp
    refine Calls.mono hc fun en w' he=>?_
    obtain ⟨b,c,G',rfl,hn,hb,hle⟩:=he
    have S1 : St W0 G0 N L (⟨b,e,some (c * k.getD 1),ROWS k (xs.map T)⟩ :: B) a w' G':={
      nxt:=S.nxt.trans hn
      size:=S.size
      dfr:=S.dfr
      ty:=fun i p h=>p.2.mono hn.le (S.ty i p h)
      bx:=fun i y h=>by
        cases i with
        | zero=>cases h;exact ⟨Nat.le_trans S.nxt.below.size hb.1,hb.2⟩
        | succ i=>exact (S.bx i y h).nxt hn
      nd:=fun i j y z hy hz hij=>by
        have h1:=hb.1
        cases i with
        | zero =>
          cases hy
          cases j with
          | zero=>exact absurd rfl hij
          | succ j=>have:=(S.bx j z hz).lt;show b ≠ z.b;simp only at h1;omega
        | succ i =>
          cases j with
          | zero=>cases hz;have:=(S.bx i y hy).lt;show y.b ≠ b;simp only at h1;omega
          | succ j=>exact S.nd i j y z hy hz (by omega) }
    exact hK _ _ (K b c _ _ G' hle (S1.put (of_decide_eq_true hdN) hf rfl (Nxt.refl S1.ok)))
theorem W.rto {xs' : List α} (t : Nat) [hl : Lk L t (OSL b n c)] [hb : Bx B b i e (some j) τb] [r : AsR τb k α T xs] (hr : fn.results = #[.tmp t]) (hp : xs = xs' ∧ n = xs.length ∧ j = c * k.getD 1 ∧ n ≤ c) : St W0 G0 N L B a w G → bodyPost P fn (RetW W0 G0 k e T xs') .ret a w:=fun S=>by
  obtain ⟨rfl,rfl,rfl,hle⟩:=hp
  obtain ⟨h1,h2,v,hv,hs,ht⟩:=S.bx i _ hb.m
  have hm : tm a t = .slice (some ⟨b,0,none⟩) xs.length c:=S.mem hl.m
  exact bodyPost_ret (v:=.slice (some ⟨b,0,none⟩) xs.length c) (by have:=results_tmp hr a.tmps P w;rw [this];exact congrArg (fun v=>Result.ok v w) hm) S.dfr ⟨b,c,G,rfl,S.nxt,⟨h1,h2,v,hv,hs,r.h ht⟩,hle⟩
theorem OWNS.ofb {b c : Nat} (h : xs.length ≤ c) : OWNS k e (.slice (some ⟨b,0,none⟩) xs.length c) [⟨b,e,some (c * k.getD 1),ROWS k (xs.map T)⟩] (xs.map T):=.inr ⟨b,c,by rw [List.length_map],rfl,by rw [List.length_map];exact h⟩
theorem W.casth {x : BX} {q : Prop} (f : ∀ {v : Value} {G : Gh},x.τ.t v G → τ'.t v G) (K : St W0 G0 N L (⟨x.b,x.ty,x.k,τ'⟩ :: B) a w G → q) : St W0 G0 N L (x :: B) a w G → q:=fun S=>K (S.castBox 0 rfl fun v hv _=>f hv)
theorem ROWS.upq {n m : Nat} {l : List Rat} {v : Value} {G : Gh} (h : (ROWS k (l.map (QC n))).t v G) (e : n ≤ m) : (ROWS k (l.map (QC m))).t v G:=by
  obtain ⟨us,r,e1,h1,h2⟩:=h
  refine ⟨us,r,e1,by rw [h1];simp,fun i σ u hi hu=>?_⟩
  rw [List.getElem?_map] at hi
  cases hx : l[i]? with
  | none=>rw [hx] at hi;cases hi
  | some x =>
    rw [hx] at hi;cases hi
    obtain ⟨h3,h4⟩:=h2 i (QC n x) u (by rw [List.getElem?_map,hx];rfl) hu
    exact ⟨h3,QC.up h4 e⟩
class Rot (B : List BX) (x : BX) (B' : outParam (List BX)) : Prop where
  h : B' = B ++ [x]
instance Rot.nil {x : BX} : Rot [] x [x]:=⟨rfl⟩
instance Rot.cons {x y : BX} {B B' : List BX} [h : Rot B x B'] : Rot (y :: B) x (y :: B'):=⟨by rw [h.h];rfl⟩
instance (priority:=1200) RunS.own {all ops : List Oper} {i : Nat} {als : List (Nat × Nat × Option Nat)} {sd : List Nat} {op : Op} [OwnAt d] : RunS P B all i L als sd (⟨some d,op,ty,pos,aft,none⟩ :: ops) True [] (⟨some d,op,ty,pos,aft,none⟩ :: ops):=⟨.stop⟩
abbrev QP (p : Nat × Rat) : MT:=QC p.1 p.2
instance AsT.qp {n : Nat} {z : Rat} : AsT (QC n z) QP (n,z):=⟨fun h=>h⟩
instance (priority:=900) Cv.qpr {l : List Rat} {ys : List (Nat × Rat)} {n : Nat} {k : Option Nat} : Cv (ROWS k (l.map (QC n))) (ROWS k (ys.map QP)) (ys = l.map fun x=>(n,x)):=⟨fun e v G h=>by subst e;rw [List.map_map];exact h⟩
instance FitL.qp {ps : List (Nat × Rat)} {n : Nat} : FitL (ps.map QP) (QC n) (ps.map Prod.snd) (∀ p ∈ ps,p.1 ≤ n):=⟨fun e=>⟨by simp,fun i τ hi=>by
  rw [List.getElem?_map] at hi
  cases hz : ps[i]? with
  | none=>rw [hz] at hi;cases hi
  | some z=>rw [hz] at hi;cases hi;exact ⟨z.2,by simp [hz],fun hv=>QC.up hv (e z (List.mem_of_getElem? hz))⟩⟩⟩
instance {n : Nat} : AsT (FX 1 default) (QC (n + 1)) 0:=⟨fun h=>(Cv.fq (n:=1) (k:=n + 1)).h ⟨by omega,rfl,rfl⟩ h⟩
instance {n : Nat} : Rdn (FX n default) QC n 0:=⟨fun h=>(Cv.fq (n:=n) (k:=n)).h ⟨Nat.le_refl _,rfl,rfl⟩ h⟩
instance {n m : Nat} : Fit (FX n default) (QC m) 0 (n ≤ m):=⟨fun e _ _ h=>(Cv.fq (n:=n) (k:=m)).h ⟨e,rfl,rfl⟩ h⟩
def SBq (n : Nat) (l : List Nat) : MT:=⟨fun v G=>1 ≤ n ∧ (SB n l).t v G,fun hle h=>⟨h.1,(SB n l).mono hle h.2⟩⟩
instance {n : Nat} {l : List Nat} : ShK (SBq n l) none:=⟨fun h=>SL.shp h.2.2⟩
instance AsW.sbq {n : Nat} {l : List Nat} : AsW (SBq n l) l:=⟨fun h=>h.2.2⟩
theorem QC.one {n : Nat} {z : Rat} {v : Value} {G : Gh} (h : (QC n z).t v G) : 1 ≤ n:=one_le_of_lt z.den_nz h.1.2
instance (priority:=800) Prt.qc0 {n : Nat} {z : Rat} : Prt (QC n z) 0 none (BT (FR.of z).s):=⟨fun h' hs=>(Prt.fx0 (nn:=n) (r:=FR.of z)).h (QC.toFX h' (QC.one h')) hs⟩
instance (priority:=800) Prt.qc1 {n : Nat} {z : Rat} : Prt (QC n z) 1 none (SBq n (FR.of z).p):=⟨fun h' hs=>by obtain ⟨u,h1,h2,h3⟩:=(Prt.fx1 (nn:=n) (r:=FR.of z)).h (QC.toFX h' (QC.one h')) hs;exact ⟨u,h1,⟨QC.one h',h2⟩,h3⟩⟩
instance (priority:=800) Prt.qc2 {n : Nat} {z : Rat} : Prt (QC n z) 2 none (SBq n (FR.of z).q):=⟨fun h' hs=>by obtain ⟨u,h1,h2,h3⟩:=(Prt.fx2 (nn:=n) (r:=FR.of z)).h (QC.toFX h' (QC.one h')) hs;exact ⟨u,h1,⟨QC.one h',h2⟩,h3⟩⟩
instance Op1.apq {x y : Operand} {n : Nat} {l : List Nat} [e : ElW P t] [h : Opd L x EMP u] [k : Opd L y (SBq n l) v] : Op1 P L B (.call { callee:=.builtin .append,args:=#[x,y],argTypes:=#[t,t] }) True (SBq n l) (u ++ v):=⟨fun {W0 w a G o} ho hok e' _ _=>by
  obtain ⟨e0,h1,h2⟩:=e.h
  have hy:=k.h e'.r
  exact fun Q K hK=>OpR.appNew hok ho h1 h2 (h.h e'.l) hy.2.2 Q K fun v w' G' hv hn=>hK v w' G' ⟨hy.1,hy.2.1,hv⟩ hn⟩
instance AsT.qcp {n : Nat} {z : Rat} : AsT (PTS [(none,BT (FR.of z).s),(none,SBq n (FR.of z).p),(none,SBq n (FR.of z).q)]) (QC n) z:=⟨fun {v G} h=>by
  obtain ⟨us,e0,hl,hE⟩:=h
  have h' : (PTS [(none,BT (FR.of z).s),(none,SBq n (FR.of z).p),(none,SBq n (FR.of z).q)]).t v G:=⟨us,e0,hl,hE⟩
  have hcd : ∃ c d,(SBq n (FR.of z).p).t c G ∧ (SBq n (FR.of z).q).t d G:=by
    match us,hl,hE with
    | [a,c,d],_,hE=>exact ⟨c,d,(hE 1 _ c rfl rfl).2,(hE 2 _ d rfl rfl).2⟩
  obtain ⟨c,d,⟨h1,h2,_⟩,_,h5,_⟩:=hcd
  refine ⟨⟨by have : Go.Proofs.YtnjbcjmkkejfpaaGreat.val (words z.num.natAbs) < 2 ^ n := h2
              rwa [val_words] at this,?_⟩,qr_pts h' (fun v hv=>hv.2.2) fun v hv=>hv.2.2⟩
  have hq : Go.Proofs.YtnjbcjmkkejfpaaGreat.val (dwords z) < 2 ^ n:=h5
  unfold dwords at hq
  split at hq
  · rename_i e0
    have : z.den = 1:=by
      have h0 : z = 0:=by first | exact e0 | exact Rat.num_eq_zero.1 e0
      rw [h0];rfl
    rw [this];exact Nat.lt_of_lt_of_le (show (1 : Nat) < 2 ^ 1 by decide) (Nat.pow_le_pow_right (by decide) h1)
  · rwa [val_words] at hq⟩
class AllG (es : List SE) : Prop where
  h : ∀ e ∈ es,∃ d τ u,e = SE.g d τ u
instance AllG.nil : AllG []:=⟨fun e h=>by simp at h⟩
instance AllG.cons {d : Nat} {τ : MT} {u : List Nat} {es : List SE} [h : AllG es] : AllG (.g d τ u :: es):=⟨fun e he=>by
  rcases List.mem_cons.1 he with e1 | e1
  · exact ⟨d,τ,u,e1⟩
  · exact h.h e e1⟩
theorem AllG.sto {nB v : Nat} {all : List SE} : ∀ {es : List SE} {o : Nat},(∀ e ∈ es,∃ d τ u,e = SE.g d τ u) → storeOf (es.map (poS nB all)) o v = none
  | [],_,_=>rfl
  | x :: es,o,h=>by
    obtain ⟨d,τ,u,rfl⟩:=h x (.head _)
    exact AllG.sto (es:=es) fun e he=>h e (.tail _ he)
theorem BZ3_id {PL : List PO3} (h : ∀ v,storeOf PL 0 v = none) : ∀ {u : Nat} {B : List BX},BZ3 PL u B = B
  | _,[]=>rfl
  | u,x :: r=>by
    unfold BZ3 finT
    rw [h u,BZ3_id h]
theorem BF3_id {PL : List PO3} {β : Nat → Nat} (h : ∀ v,storeOf PL 0 v = none) (hg : ∀ (m : Nat) (po : PO3),PL[m]? = some po → ∃ τ,po.τ = .g τ) : ∀ {m : Nat},BF3 PL β B m = B
  | 0=>BZ3_id h
  | m + 1=>by
    unfold BF3
    cases hm : PL[m]? with
    | none=>exact BF3_id h hg
    | some po =>
      obtain ⟨τ,e⟩:=hg m po hm
      simp only [e];exact BF3_id h hg
theorem W.fing {β : Nat → Nat} {ss : List SE} {q : Prop} [ag : AllG ss] [hl : FinL β 0 ss L L'] (K : St W0 G0 N L' B a w G → q) : St W0 G0 N (fL β 0 ss L) (BF3 (plS B.length ss) β B ss.length) a w G → q:=fun S=>K (by
  have e:=BF3_id (PL:=plS B.length ss) (β:=β) (B:=B) (fun v=>AllG.sto ag.h) (fun m po hm=>by
    unfold plS at hm
    rw [List.getElem?_map] at hm
    cases he : ss[m]? with
    | none=>rw [he] at hm;cases hm
    | some e =>
      rw [he] at hm;cases hm
      obtain ⟨d,τ,u,rfl⟩:=ag.h e (List.mem_of_getElem? he)
      exact ⟨τ,rfl⟩) (m:=ss.length)
  rw [e] at S
  rw [hl.h]
  exact S)
end
end Go.Proofs.YtnjbcjmkkejfpaaGreat
