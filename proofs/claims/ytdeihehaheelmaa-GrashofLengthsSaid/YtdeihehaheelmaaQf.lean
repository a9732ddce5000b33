/- GrashofLengths returns true for every input, and every argument reads afterwards as it did. Conditions: none. -/
import Derived.ChangeArms
import Derived.SizedLaws
import Derived.WideShapes
import Derived.OpenShut
import Derived.Test.YtdeihehaheelmaaRows
import Derived.WalkKit
import Derived.ProofKit
import Derived.ShutString
import Derived.ChangeOld
import Derived.Below
import Derived.Test.YtdeihehaheelmaaQe
set_option linter.unusedVariables false
set_option linter.unusedSimpArgs false
namespace Go.Proofs.Ytdeihehaheelmaa
open Go.RowKit (Below)
def surdF (x y d : Rat) : Int :=
  if x.num.sign = 0 ∨ y.num.sign * d.num.sign = 0 ∨ x.num.sign = y.num.sign * d.num.sign then (if x.num.sign = 0 then y.num.sign * d.num.sign else x.num.sign) else x.num.sign * cmpQ (x * x) (y * y * d)
def surdsF (x y d z e : Rat) : Int :=
  if surdF x y d = 0 ∨ z.num.sign * e.num.sign = 0 ∨ surdF x y d = z.num.sign * e.num.sign then (if surdF x y d = 0 then z.num.sign * e.num.sign else surdF x y d) else surdF x y d * surdF (x * x + y * y * d - z * z * e) (2 * (x * y)) d
def sumsF (p q r s : Rat) : Int := surdsF (p + q - (r + s)) 2 (p * q) (-2) (r * s)
theorem surd_mixed {x y d : Rat} : surdF x y d = mixedF x y d := by
  unfold surdF mixedF
  generalize x.num.sign = s; generalize y.num.sign * d.num.sign = t; generalize cmpQ (x * x) (y * y * d) = c
  by_cases h1 : s = 0
  · rw [if_pos (.inl h1), if_pos h1, if_pos (.inl h1)]
  · by_cases h2 : s = t
    · rw [if_pos (.inr (.inr h2)), if_neg h1, if_pos (.inr h2), h2]
    · by_cases h3 : t = 0
      · rw [if_pos (.inr (.inl h3)), if_neg h1, if_neg (by omega), if_pos h3]
      · rw [if_neg (by omega), if_neg (by omega), if_neg h3]
theorem surd_sg {x y d : Rat} (hd : 0 ≤ d) : surdF x y d = sgR (RR.of x + RR.of y * rt d) := by rw [surd_mixed]; exact mixed_sg hd
theorem surds_sg {x y d z e : Rat} (hd : 0 ≤ d) (he : 0 ≤ e) : surdsF x y d z e = sgR (RR.of x + RR.of y * rt d + RR.of z * rt e) := by
  unfold surdsF
  rw [surd_sg hd, surd_sg hd, sgR_add (u := RR.of x + RR.of y * rt d)]
  rw [sgR_mul (RR.of z), sgR_of z, sgR_rt he]
  have hq : (RR.of x + RR.of y * rt d) * (RR.of x + RR.of y * rt d) - RR.of z * rt e * (RR.of z * rt e) = RR.of (x * x + y * y * d - z * z * e) + RR.of (2 * (x * y)) * rt d := by
    have e1 : RR.of (x * x + y * y * d - z * z * e) = RR.of x * RR.of x + RR.of y * RR.of y * (rt d * rt d) - RR.of z * RR.of z * (rt e * rt e) := by
      rw [rt_sq hd, rt_sq he, RR.of_sub, RR.of_add, RR.of_mul, RR.of_mul, RR.of_mul, RR.of_mul, RR.of_mul]
    rw [e1, RR.of_mul, RR.of_mul]
    generalize RR.of x = a; generalize RR.of y = b; generalize rt d = c; generalize RR.of z = f; generalize rt e = g
    obtain ⟨a, ha, rfl⟩ := RR.rep a; obtain ⟨b, hb, rfl⟩ := RR.rep b; obtain ⟨c, hc, rfl⟩ := RR.rep c; obtain ⟨f, hf, rfl⟩ := RR.rep f; obtain ⟨g, hg, rfl⟩ := RR.rep g
    exact RR.ext fun n => by grind
  rw [hq]
  generalize sgR (RR.of x + RR.of y * rt d) = s; generalize z.num.sign * e.num.sign = t; generalize sgR (RR.of (x * x + y * y * d - z * z * e) + RR.of (2 * (x * y)) * rt d) = c
  by_cases h1 : s = 0
  · rw [if_pos (.inl h1), if_pos h1, if_pos (.inl h1)]
  · by_cases h2 : s = t
    · rw [if_pos (.inr (.inr h2)), if_neg h1, if_pos (.inr h2), h2]
    · by_cases h3 : t = 0
      · rw [if_pos (.inr (.inl h3)), if_neg h1, if_neg (by omega), if_pos h3]
      · rw [if_neg (by omega), if_neg (by omega), if_neg h3]
theorem sums_four {p q r s : Rat} (hp : 0 ≤ p) (hq : 0 ≤ q) (hr : 0 ≤ r) (hs : 0 ≤ s) : sumsF p q r s = sgR ((rt p + rt q) - (rt r + rt s)) := by
  unfold sumsF
  rw [← roots_four hp hq hr hs, roots_sg (Rat.mul_nonneg hp hq) (Rat.mul_nonneg hr hs), surds_sg (Rat.mul_nonneg hp hq) (Rat.mul_nonneg hr hs)]
  congr 1
  rw [show RR.of (-2) = -RR.of 2 from rfl, RR.neg_mul, RR.sub_def]
theorem surd_bd (x y d : Rat) : -1 ≤ surdF x y d ∧ surdF x y d ≤ 1 := by
  have h0 := sgn_cases x.num; have h1 := sgn_cases y.num; have h2 := sgn_cases d.num
  have h3 := cmpQ_cases (x * x) (y * y * d)
  unfold surdF
  rcases h0 with ⟨_, e0⟩ | ⟨_, e0⟩ | ⟨_, e0⟩ <;> rcases h1 with ⟨_, e1⟩ | ⟨_, e1⟩ | ⟨_, e1⟩ <;> rcases h2 with ⟨_, e2⟩ | ⟨_, e2⟩ | ⟨_, e2⟩ <;> rcases h3 with e3 | e3 | e3 <;> rw [e0, e1, e2, e3] <;> decide
theorem surd_mul_bd (x y d x' y' d' : Rat) : -9223372036854775808 ≤ surdF x y d * surdF x' y' d' ∧ surdF x y d * surdF x' y' d' ≤ 9223372036854775807 := by
  have h1 := surd_bd x y d; have h2 := surd_bd x' y' d'
  generalize surdF x y d = u at *; generalize surdF x' y' d' = v at *
  have : (u = -1 ∨ u = 0 ∨ u = 1) := by omega
  rcases this with h | h | h <;> subst h <;> omega
def pad2 (l : List FR) : List FR := l ++ List.replicate (2 - l.length) default
def stF (l m : List FR) (k j : Nat) : List FR := if k = 0 then pad2 (l.take j) ++ pad2 [] else if k = 1 then pad2 l ++ pad2 (m.take j) else pad2 l ++ pad2 m
theorem len2 {l : List FR} (h : l.length ≤ 2) : l = [] ∨ (∃ a, l = [a]) ∨ ∃ a b, l = [a, b] := by
  match l, h with
  | [], _ => exact .inl rfl
  | [a], _ => exact .inr (.inl ⟨a, rfl⟩)
  | [a, b], _ => exact .inr (.inr ⟨a, b, rfl⟩)
theorem st_step {l m : List FR} {k j : Nat} (hl : l.length ≤ 2) (hm : m.length ≤ 2) (hk : k < 2) (hj : j < ([l, m].getD k default).length) : (stF l m k j).set (2 * k + j) (([l, m].getD k default).getD j default) = stF l m k (j + 1) := by
  match k, hk with
  | 0, _ =>
    rcases len2 hl with rfl | ⟨a, rfl⟩ | ⟨a, b, rfl⟩
    · exact absurd hj (Nat.not_lt_zero _)
    · match j, hj with
      | 0, _ => rfl
    · match j, hj with
      | 0, _ => rfl
      | 1, _ => rfl
  | 1, _ =>
    have hj' : j < m.length := hj
    rcases len2 hl with rfl | ⟨a, rfl⟩ | ⟨a, b, rfl⟩ <;> rcases len2 hm with rfl | ⟨c, rfl⟩ | ⟨c, d, rfl⟩ <;> rcases (by omega : j = 0 ∨ j = 1) with rfl | rfl <;> first | rfl | exact absurd hj' (by simp)
theorem st_next {l m : List FR} {k j : Nat} (hk : k < 2) (hj : ¬ j < ([l, m].getD k default).length) : stF l m k j = stF l m (k + 1) 0 := by
  match k, hk with
  | 0, _ =>
    have hj : ¬ j < l.length := hj
    show pad2 (l.take j) ++ pad2 [] = pad2 l ++ pad2 (m.take 0)
    rw [List.take_of_length_le (by omega)]; rfl
  | 1, _ =>
    have hj : ¬ j < m.length := hj
    show pad2 l ++ pad2 (m.take j) = pad2 l ++ pad2 m
    rw [List.take_of_length_le (by omega)]
theorem pad2_len {l : List FR} (h : l.length ≤ 2) : (pad2 l).length = 2 := by unfold pad2; simp; omega
theorem st_len {l m : List FR} {k j : Nat} (hl : l.length ≤ 2) (hm : m.length ≤ 2) : (stF l m k j).length = 4 := by
  have h1 := pad2_len hl; have h2 := pad2_len hm; have h3 := pad2_len (l := []) (by simp)
  have h4 := pad2_len (l := l.take j) (by simp; omega); have h5 := pad2_len (l := m.take j) (by simp; omega)
  unfold stF; split
  · simp [h3, h4]
  · split <;> simp [h1, h2, h5]
def refRes (l m : List FR) : Int := if cmpCode l m = 0 then sumsF ((pairF (l.map FR.val)).getD 0 default) ((pairF (l.map FR.val)).getD 1 default) ((pairF (m.map FR.val)).getD 0 default) ((pairF (m.map FR.val)).getD 1 default) else 0
theorem val_default : (default : FR).val = 0 := by
  show qval false [] [] = 0; simp [qval]
theorem st_end {l m : List FR} {k : Nat} (hl : l.length ≤ 2) (hm : m.length ≤ 2) (hk : ¬ k < 2) (h : cmpCode l m = 0) : sumsF ((stF l m k 0).getD 0 default).val ((stF l m k 0).getD 1 default).val ((stF l m k 0).getD 2 default).val ((stF l m k 0).getD 3 default).val = refRes l m := by
  unfold refRes; rw [if_pos h]
  have e : stF l m k 0 = pad2 l ++ pad2 m := by unfold stF; rw [if_neg (by omega), if_neg (by omega)]
  rw [e]
  have v0 := val_default
  rcases len2 hl with rfl | ⟨a, rfl⟩ | ⟨a, b, rfl⟩ <;> rcases len2 hm with rfl | ⟨c, rfl⟩ | ⟨c, d, rfl⟩ <;> simp [pad2, pairF, List.replicate, v0]
theorem ref_eq (l m : List FR) : cmpRes l m = refRes l m := by
  unfold cmpRes refRes
  by_cases h : cmpCode l m = 0
  · rw [if_pos h, if_pos h]
    rw [cmpCode_iff] at h
    have h1 := vals_nn h.2.2.1; have h2 := vals_nn h.2.2.2
    rw [compareF_sg h1 h2, sums_four (pairF_nn h1 0) (pairF_nn h1 1) (pairF_nn h2 0) (pairF_nn h2 1)]
    rfl
  · rw [if_neg h, if_neg h]
theorem refRes_bad {l m : List FR} (h : cmpCode l m ≠ 0) : refRes l m = 0 := by unfold refRes; rw [if_neg h]
end Go.Proofs.Ytdeihehaheelmaa
namespace Go.Proofs.Ytdeihehaheelmaa
open Go.RowKit (Below)
theorem quad_toFX {a b c d : FR} {v : Value} {G : Gh} (h : (PTS [(some 3, RX a), (some 3, RX b), (some 3, RX c), (some 3, RX d)]).t v G) (hs : shortF [a, b, c, d] = true) : (PTS [(some 3, FX 64 a), (some 3, FX 64 b), (some 3, FX 64 c), (some 3, FX 64 d)]).t v G := by
  unfold shortF at hs; simp at hs
  obtain ⟨us, e, hl, hE⟩ := h
  refine ⟨us, e, hl, fun i f u hf hu => ?_⟩
  match i, hf with
  | 0, hf => cases hf; have := hE 0 _ u rfl hu; exact ⟨this.1, RX.toFX this.2 hs.1⟩
  | 1, hf => cases hf; have := hE 1 _ u rfl hu; exact ⟨this.1, RX.toFX this.2 hs.2.1⟩
  | 2, hf => cases hf; have := hE 2 _ u rfl hu; exact ⟨this.1, RX.toFX this.2 hs.2.2.1⟩
  | 3, hf => cases hf; have := hE 3 _ u rfl hu; exact ⟨this.1, RX.toFX this.2 hs.2.2.2⟩
def scF (l : List FR) (c : Rat) : List FR := l.map fun r => FR.of (r.val * c)
theorem rt_c {c : Rat} (hc : 0 ≤ c) : rt (c * c) = RR.of c := rt_eq (rt_nn _) (RR.of_le (p := 0) |>.2 hc) (by rw [rt_sq (Rat.mul_nonneg hc hc), RR.of_mul])
theorem rt_cc {c d : Rat} (hc : 0 ≤ c) (hd : 0 ≤ d) : rt (d * (c * c)) = RR.of c * rt d := by rw [rt_mul hd (Rat.mul_nonneg hc hc), rt_c hc, RR.mul_comm]
theorem sgR_k {k : Rat} (hk : 0 < k) (x : RR) : sgR (RR.of k * x) = sgR x := by rw [sgR_mul, sgR_pos (RR.of_lt (p := 0) |>.2 hk), Int.one_mul]
theorem mixed_sc1 {x y d c : Rat} (hc : 0 < c) (hd : 0 ≤ d) : mixedF (x * c) y (d * (c * c)) = mixedF x y d := by
  have h0 : 0 ≤ c := by grind
  rw [mixed_sg hd, mixed_sg (Rat.mul_nonneg hd (Rat.mul_nonneg h0 h0)), rt_cc h0 hd, ← sgR_k hc (RR.of x + RR.of y * rt d), RR.of_mul]
  congr 1
  generalize RR.of x = a; generalize RR.of y = b; generalize rt d = e; generalize RR.of c = f
  obtain ⟨a, ha, rfl⟩ := RR.rep a; obtain ⟨b, hb, rfl⟩ := RR.rep b; obtain ⟨e, he, rfl⟩ := RR.rep e; obtain ⟨f, hf, rfl⟩ := RR.rep f
  exact RR.ext fun n => by grind
theorem mixed_sc2 {x y d c : Rat} (hc : 0 < c) (hd : 0 ≤ d) : mixedF (x * (c * c)) (y * c) (d * (c * c)) = mixedF x y d := by
  have h0 : 0 ≤ c := by grind
  rw [mixed_sg hd, mixed_sg (Rat.mul_nonneg hd (Rat.mul_nonneg h0 h0)), rt_cc h0 hd, ← sgR_k (Rat.mul_pos hc hc) (RR.of x + RR.of y * rt d)]
  simp only [RR.of_mul]
  congr 1
  generalize RR.of x = a; generalize RR.of y = b; generalize rt d = e; generalize RR.of c = f
  obtain ⟨a, ha, rfl⟩ := RR.rep a; obtain ⟨b, hb, rfl⟩ := RR.rep b; obtain ⟨e, he, rfl⟩ := RR.rep e; obtain ⟨f, hf, rfl⟩ := RR.rep f
  exact RR.ext fun n => by grind
theorem closes_sc {p q r s c : Rat} (hc : 0 < c) (hq : 0 ≤ q) (hr : 0 ≤ r) : closesF (p * c) (q * c) (r * c) (s * c) = closesF p q r s := by
  have hd := Rat.mul_nonneg hq hr
  unfold closesF
  have e1 : q * c + r * c - (p * c + s * c) = (q + r - (p + s)) * c := by grind
  have e2 : q * c * (r * c) = q * r * (c * c) := by grind
  have e3 : p * c * (s * c) = p * s * (c * c) := by grind
  rw [e1, e2, e3]
  have e4 : (q + r - (p + s)) * c * ((q + r - (p + s)) * c) + 4 * (q * r * (c * c)) - 4 * (p * s * (c * c)) = ((q + r - (p + s)) * (q + r - (p + s)) + 4 * (q * r) - 4 * (p * s)) * (c * c) := by grind
  have e5 : 4 * ((q + r - (p + s)) * c) = 4 * (q + r - (p + s)) * c := by grind
  rw [e4, e5, mixed_sc1 hc hd, mixed_sc2 hc hd]
theorem compare_sc {p q r s c : Rat} (hc : 0 < c) (hp : 0 ≤ p) (hq : 0 ≤ q) (hr : 0 ≤ r) (hs : 0 ≤ s) : compareF [p * c, q * c] [r * c, s * c] = compareF [p, q] [r, s] := by
  have h0 : 0 ≤ c := by grind
  show rootsF (p * c + q * c - (r * c + s * c)) (p * c * (q * c)) (r * c * (s * c)) = rootsF (p + q - (r + s)) (p * q) (r * s)
  rw [roots_four hp hq hr hs, roots_four (Rat.mul_nonneg hp h0) (Rat.mul_nonneg hq h0) (Rat.mul_nonneg hr h0) (Rat.mul_nonneg hs h0), rt_mul hp h0, rt_mul hq h0, rt_mul hr h0, rt_mul hs h0]
  have e : rt p * rt c + rt q * rt c - (rt r * rt c + rt s * rt c) = rt c * (rt p + rt q - (rt r + rt s)) := by
    generalize rt p = a; generalize rt q = b; generalize rt r = d; generalize rt s = e; generalize rt c = f
    obtain ⟨a, ha, rfl⟩ := RR.rep a; obtain ⟨b, hb, rfl⟩ := RR.rep b; obtain ⟨d, hd, rfl⟩ := RR.rep d; obtain ⟨e, he, rfl⟩ := RR.rep e; obtain ⟨f, hf, rfl⟩ := RR.rep f
    exact RR.ext fun n => by grind
  rw [e, sgR_mul, sgR_rt h0]
  have : c.num.sign = 1 := by
    have := rat_pos_iff.1 hc
    have := sgn_cases c.num; omega
  rw [this, Int.one_mul]
theorem rmul_lt_iff {a b c : Rat} (hc : 0 < c) : a * c < b * c ↔ a < b := by
  constructor
  · intro h
    refine Classical.byContradiction fun h2 => ?_
    have h3 : b ≤ a := by grind
    have := Rat.mul_le_mul_of_nonneg_right h3 (show 0 ≤ c by grind)
    grind
  · intro h; exact Rat.mul_lt_mul_of_pos_right h hc
theorem cmp_sc {a b c : Rat} (hc : 0 < c) : cmpQ (a * c) (b * c) = cmpQ a b := by unfold cmpQ; simp only [rmul_lt_iff hc]
theorem max_sc {a b c : Rat} (hc : 0 < c) : maxQ (a * c) (b * c) = maxQ a b * c := by
  unfold maxQ
  have h1 := @rmul_lt_iff a b c hc
  by_cases h : b ≤ a
  · rw [if_pos h, if_pos (by grind)]
  · rw [if_neg h, if_neg (by grind)]
theorem min_sc {a b c : Rat} (hc : 0 < c) : minQ (a * c) (b * c) = minQ a b * c := by
  unfold minQ
  have h1 := @rmul_lt_iff b a c hc
  by_cases h : a ≤ b
  · rw [if_pos h, if_pos (by grind)]
  · rw [if_neg h, if_neg (by grind)]
theorem getD_sc {xs : List Rat} {c : Rat} {j : Nat} : (xs.map (· * c)).getD j default = xs.getD j default * c := by
  rw [List.getD_eq_getElem?_getD, List.getD_eq_getElem?_getD, List.getElem?_map]
  cases xs[j]? with
  | none => show (0 : Rat) = 0 * c; grind
  | some z => rfl
theorem ins_sc {xs : List Rat} {c : Rat} (hc : 0 < c) (k : Nat) (o : List Nat) : insF (xs.map (· * c)) k o = insF xs k o := by
  induction k generalizing o with
  | zero => rfl
  | succ k ih => unfold insF; rw [getD_sc, getD_sc, cmp_sc hc, ih]
theorem ord_sc {xs : List Rat} {c : Rat} (hc : 0 < c) (i n : Nat) (o : List Nat) : ordF (xs.map (· * c)) i o n = ordF xs i o n := by
  induction n generalizing i o with
  | zero => rfl
  | succ n ih => unfold ordF; rw [ins_sc hc, ih]
theorem order_sc {xs : List Rat} {c : Rat} (hc : 0 < c) : orderF (xs.map (· * c)) = orderF xs := ord_sc hc _ _ _
theorem vals_sc {l : List FR} {c : Rat} : (scF l c).map FR.val = (l.map FR.val).map (· * c) := by
  unfold scF; rw [List.map_map, List.map_map]; exact List.map_congr_left fun r _ => FR.of_val _
theorem val_sc {l : List FR} {c : Rat} (j : Nat) : ((scF l c).getD j default).val = (l.getD j default).val * c := by
  unfold scF
  rw [List.getD_eq_getElem?_getD, List.getD_eq_getElem?_getD, List.getElem?_map]
  cases l[j]? with
  | none => show (default : FR).val = (default : FR).val * c; rw [val_default]; grind
  | some z => exact FR.of_val _
theorem lk_sc {l : List FR} {c : Rat} (hc : 0 < c) (j : Nat) : lk (scF l c) j = lk l j * c := by
  unfold lk; rw [vals_sc, order_sc hc, val_sc]
theorem posR_val {r : FR} (h : posR r = true) : 0 < r.val := by unfold posR at h; simp at h; exact h.2
theorem vals_pos {l : List FR} (h : l.all posR = true) (j : Nat) : 0 ≤ (l.getD j default).val := by
  rw [List.getD_eq_getElem?_getD]
  cases hj : l[j]? with
  | none => show 0 ≤ (default : FR).val; rw [val_default]; exact Rat.le_refl
  | some z => have := posR_val (List.all_eq_true.1 h z (List.mem_of_getElem? hj)); show 0 ≤ z.val; grind
theorem lk_nn {l : List FR} (h : l.all posR = true) (j : Nat) : 0 ≤ lk l j := vals_pos h _
theorem chk_pos {l : List FR} (h : chkF l = 0) : l.all posR = true := by
  unfold chkF at h
  cases hp : l.all posR with
  | true => rfl
  | false => rw [hp, if_neg (by decide)] at h; exact absurd h (by decide)
theorem pos_sc {l : List FR} {c : Rat} (hc : 0 < c) (h : l.all posR = true) : (scF l c).all posR = true := by
  unfold scF
  rw [List.all_map, List.all_eq_true]
  intro r hr
  show posR (FR.of (r.val * c)) = true
  rw [posR_of4]
  exact decide_eq_true (Rat.mul_pos (posR_val (List.all_eq_true.1 h r hr)) hc)
theorem chk_sc {l : List FR} {c : Rat} (hc : 0 < c) (h : chkF l = 0) : chkF (scF l c) = 0 := by
  have hp := chk_pos h
  unfold chkF at h ⊢
  rw [pos_sc hc hp]
  rw [hp] at h
  simp only [lk_sc hc]
  rw [closes_sc hc (lk_nn hp 0) (lk_nn hp 1)]
  exact h
theorem exc_sc {l : List FR} {c : Rat} (hc : 0 < c) (h : l.all posR = true) : excF (scF l c) = excF l := by
  unfold excF
  simp only [lk_sc hc]
  exact compare_sc hc (lk_nn h 0) (lk_nn h 3) (lk_nn h 1) (lk_nn h 2)
theorem cls_sc {l : List FR} {c : Rat} (hc : 0 < c) (h : chkF l = 0) : clsF (scF l c) = clsF l := by
  unfold clsF
  rw [chk_sc hc h, h, exc_sc hc (chk_pos h), vals_sc, order_sc hc]
theorem max_nn {a b : Rat} (ha : 0 ≤ a) (hb : 0 ≤ b) : 0 ≤ maxQ a b := by unfold maxQ; split <;> assumption
theorem min_nn {a b : Rat} (ha : 0 ≤ a) (hb : 0 ≤ b) : 0 ≤ minQ a b := by unfold minQ; split <;> assumption
theorem rot_sc {l : List FR} {c : Rat} (hc : 0 < c) (h : chkF l = 0) (k : Int) : rotF (scF l c) k = rotF l k ∧ rotCode (scF l c) k = rotCode l k := by
  have hp := chk_pos h
  have e : rotCode (scF l c) k = rotCode l k := by unfold rotCode; rw [chk_sc hc h, h]
  refine ⟨?_, e⟩
  unfold rotF; rw [e]
  congr 1
  unfold rotL
  simp only [val_sc, max_sc hc, min_sc hc]
  rw [compare_sc hc (vals_pos hp _) (vals_pos hp _) (vals_pos hp _) (vals_pos hp _), compare_sc hc (max_nn (vals_pos hp _) (vals_pos hp _)) (min_nn (vals_pos hp _) (vals_pos hp _)) (min_nn (vals_pos hp _) (vals_pos hp _)) (max_nn (vals_pos hp _) (vals_pos hp _))]
theorem sgn_pos_of {q : Rat} (h : ¬ q.num.sign ≤ 0) : 0 < q := by rw [rat_pos_iff]; have := sgn_cases q.num; omega
theorem rot_in {l : List FR} {i : Nat} (h : chkF l = 0) (hi : i < 4) : rotCode l ((i : Nat) : Int) = 0 := rotC_ok (by omega) (by omega)
end Go.Proofs.Ytdeihehaheelmaa
namespace Go.Proofs.Ytdeihehaheelmaa
open Go.RowKit (Below)
def befR (xs : List Rat) (p q : Nat) : Prop := if p < q then xs.getD p default ≤ xs.getD q default else xs.getD p default < xs.getD q default
theorem cmpQ_lt0 {x y : Rat} : cmpQ x y < 0 ↔ x < y := by unfold cmpQ; split <;> (try split) <;> simp_all
section
variable {xs : List Rat} {p q i j k m : Nat}
theorem bef_t (hpq : q < p) (h : cmpQ (xs.getD p default) (xs.getD q default) < 0) : befR xs p q := by unfold befR; rw [if_neg (by omega)]; exact cmpQ_lt0.1 h
theorem bef_f (hpq : q < p) (h : ¬ cmpQ (xs.getD p default) (xs.getD q default) < 0) : befR xs q p := by unfold befR; rw [if_pos hpq]; rw [cmpQ_lt0] at h; exact Rat.not_lt.1 h
theorem ins1 : insF xs 1 [i, j, k, m] = if cmpQ (xs.getD j default) (xs.getD i default) < 0 then [j, i, k, m] else [i, j, k, m] := rfl
theorem ins2 : insF xs 2 [i, j, k, m] = if cmpQ (xs.getD k default) (xs.getD j default) < 0 then insF xs 1 [i, k, j, m] else [i, j, k, m] := rfl
theorem ins3 : insF xs 3 [i, j, k, m] = if cmpQ (xs.getD m default) (xs.getD k default) < 0 then insF xs 2 [i, j, m, k] else [i, j, k, m] := rfl
theorem ins1_spec (hj : i < j) : (insF xs 1 [i, j, k, m] = [j, i, k, m] ∧ befR xs j i) ∨ (insF xs 1 [i, j, k, m] = [i, j, k, m] ∧ befR xs i j) := by
  rw [ins1]; split
  · exact .inl ⟨rfl, bef_t hj ‹_›⟩
  · exact .inr ⟨rfl, bef_f hj ‹_›⟩
theorem ins2_spec (hi : i < k) (hj : j < k) (h : befR xs i j) : (insF xs 2 [i, j, k, m] = [k, i, j, m] ∧ befR xs k i ∧ befR xs i j) ∨ (insF xs 2 [i, j, k, m] = [i, k, j, m] ∧ befR xs i k ∧ befR xs k j) ∨ (insF xs 2 [i, j, k, m] = [i, j, k, m] ∧ befR xs i j ∧ befR xs j k) := by
  rw [ins2]; split
  · rename_i h1
    rcases ins1_spec (xs := xs) (k := j) (m := m) hi with ⟨e, b⟩ | ⟨e, b⟩
    · exact .inl ⟨e, b, h⟩
    · exact .inr (.inl ⟨e, b, bef_t hj h1⟩)
  · exact .inr (.inr ⟨rfl, h, bef_f hj ‹_›⟩)
theorem ins3_spec (hi : i < m) (hj : j < m) (hk : k < m) (h1 : befR xs i j) (h2 : befR xs j k) : (insF xs 3 [i, j, k, m] = [m, i, j, k] ∧ befR xs m i ∧ befR xs i j ∧ befR xs j k) ∨ (insF xs 3 [i, j, k, m] = [i, m, j, k] ∧ befR xs i m ∧ befR xs m j ∧ befR xs j k) ∨
    (insF xs 3 [i, j, k, m] = [i, j, m, k] ∧ befR xs i j ∧ befR xs j m ∧ befR xs m k) ∨ (insF xs 3 [i, j, k, m] = [i, j, k, m] ∧ befR xs i j ∧ befR xs j k ∧ befR xs k m) := by
  rw [ins3]; split
  · rename_i h
    rcases ins2_spec (xs := xs) (m := k) hi hj h1 with ⟨e, b1, b2⟩ | ⟨e, b1, b2⟩ | ⟨e, b1, b2⟩
    · exact .inl ⟨e, b1, b2, h2⟩
    · exact .inr (.inl ⟨e, b1, b2, h2⟩)
    · exact .inr (.inr (.inl ⟨e, b1, b2, bef_t hk h⟩))
  · exact .inr (.inr (.inr ⟨rfl, h1, h2, bef_f hk ‹_›⟩))
end
def ordO (xs : List Rat) (o : List Nat) : Prop := ∃ i j k m, o = [i, j, k, m] ∧ [i, j, k, m].Perm [0, 1, 2, 3] ∧ befR xs i j ∧ befR xs j k ∧ befR xs k m
theorem order_ok (xs : List Rat) : ordO xs (orderF xs) := by
  have e : orderF xs = insF xs 3 (insF xs 2 (insF xs 1 [0, 1, 2, 3])) := rfl
  rw [e]
  rcases ins1_spec (xs := xs) (i := 0) (j := 1) (k := 2) (m := 3) (by decide) with ⟨e1, b1⟩ | ⟨e1, b1⟩ <;> rw [e1]
  · rcases ins2_spec (xs := xs) (i := 1) (j := 0) (k := 2) (m := 3) (by decide) (by decide) b1 with ⟨e2, c1, c2⟩ | ⟨e2, c1, c2⟩ | ⟨e2, c1, c2⟩ <;> rw [e2]
    all_goals rcases ins3_spec (xs := xs) (m := 3) (by decide) (by decide) (by decide) c1 c2 with ⟨e3, d1, d2, d3⟩ | ⟨e3, d1, d2, d3⟩ | ⟨e3, d1, d2, d3⟩ | ⟨e3, d1, d2, d3⟩ <;> exact ⟨_, _, _, _, e3, by decide, d1, d2, d3⟩
  · rcases ins2_spec (xs := xs) (i := 0) (j := 1) (k := 2) (m := 3) (by decide) (by decide) b1 with ⟨e2, c1, c2⟩ | ⟨e2, c1, c2⟩ | ⟨e2, c1, c2⟩ <;> rw [e2]
    all_goals rcases ins3_spec (xs := xs) (m := 3) (by decide) (by decide) (by decide) c1 c2 with ⟨e3, d1, d2, d3⟩ | ⟨e3, d1, d2, d3⟩ | ⟨e3, d1, d2, d3⟩ | ⟨e3, d1, d2, d3⟩ <;> exact ⟨_, _, _, _, e3, by decide, d1, d2, d3⟩
theorem bef_le {xs : List Rat} {p q : Nat} (h : befR xs p q) : xs.getD p default ≤ xs.getD q default := by
  unfold befR at h; split at h
  · exact h
  · grind
theorem bef_trans {xs : List Rat} {p q r : Nat} (h : befR xs p q) (k : befR xs q r) : befR xs p r := by
  unfold befR at *
  split at h <;> split at k <;> split <;> first | grind | omega
theorem bef_asymm {xs : List Rat} {p q : Nat} (h : befR xs p q) (k : befR xs q p) : False := by
  unfold befR at *
  split at h <;> split at k <;> first | grind | omega
theorem ordO_uniq {xs : List Rat} {o o' : List Nat} (h : ordO xs o) (h' : ordO xs o') : o = o' := by
  obtain ⟨i, j, k, m, rfl, hp, b1, b2, b3⟩ := h
  obtain ⟨i', j', k', m', rfl, hp', c1, c2, c3⟩ := h'
  have hperm := hp.trans hp'.symm
  have hs : ∀ {i j k m : Nat}, befR xs i j → befR xs j k → befR xs k m → [i, j, k, m].Pairwise (befR xs) := fun b1 b2 b3 => by
    simp only [List.pairwise_cons, List.mem_cons, List.not_mem_nil, or_false, forall_eq_or_imp, forall_eq, List.Pairwise.nil, and_true]
    exact ⟨⟨b1, bef_trans b1 b2, bef_trans (bef_trans b1 b2) b3⟩, ⟨b2, bef_trans b2 b3⟩, b3, by simp⟩
  exact hperm.eq_of_pairwise (le := befR xs) (fun a b _ _ h k => (bef_asymm h k).elim) (hs b1 b2 b3) (hs c1 c2 c3)
end Go.Proofs.Ytdeihehaheelmaa
namespace Go.Proofs.Ytdeihehaheelmaa
open Go.RowKit (Below)
theorem RR.add_le_add {a b c d : RR} (h : a ≤ b) (k : c ≤ d) : a + c ≤ b + d := by
  refine RR.le_trans (RR.add_le_add_right h c) ?_
  rw [RR.add_comm b c, RR.add_comm b d]; exact RR.add_le_add_right k b
theorem sgR_le {x y : RR} : sgR (x - y) ≤ 0 ↔ x ≤ y := by
  rcases sgR_cases (x - y) with ⟨h, e⟩ | ⟨h, e⟩ | ⟨h, e⟩ <;> rw [e]
  · refine ⟨fun _ => RR.le_of_lt (RR.lt_iff_sub.2 ?_), fun _ => by decide⟩
    rw [← RR.neg_sub]; exact RR.neg_pos.2 h
  · refine ⟨fun _ => ?_, fun _ => by decide⟩
    rw [← RR.sub_add x y, h, RR.zero_add]; exact RR.le_refl _
  · refine ⟨fun h2 => absurd h2 (by decide), fun h2 => ?_⟩
    have h3 : y < x := RR.lt_iff_sub.2 h
    exact absurd h2 h3
theorem sgR_ge {x y : RR} : sgR (x - y) ≥ 0 ↔ y ≤ x := by
  rw [← RR.neg_sub, sgR_negate]
  have := @sgR_le y x
  constructor
  · intro h; exact this.1 (by omega)
  · intro h; have := this.2 h; omega
section
variable {a b c d s p q m : Rat}
theorem cmp4 (ha : 0 ≤ a) (hb : 0 ≤ b) (hc : 0 ≤ c) (hd : 0 ≤ d) : compareF [a, b] [c, d] = sgR ((rt a + rt b) - (rt c + rt d)) := roots_four ha hb hc hd
def rotQ (a b c d : Rat) : Prop := compareF [a, b] [c, d] ≤ 0 ∧ compareF [maxQ a b, minQ c d] [minQ a b, maxQ c d] ≥ 0
theorem max_comm : maxQ a b = maxQ b a := by unfold maxQ; split <;> split <;> grind
theorem min_comm : minQ a b = minQ b a := by unfold minQ; split <;> split <;> grind
theorem max_le (h : a ≤ b) : maxQ a b = b := by unfold maxQ; split <;> grind
theorem min_le (h : a ≤ b) : minQ a b = a := by unfold minQ; rw [if_pos h]
theorem rotQ_iff (ha : 0 ≤ a) (hb : 0 ≤ b) (hc : 0 ≤ c) (hd : 0 ≤ d) (hab : a ≤ b) (hcd : c ≤ d) : rotQ a b c d ↔ rt a + rt b ≤ rt c + rt d ∧ rt a + rt d ≤ rt b + rt c := by
  unfold rotQ
  rw [max_le hab, min_le hab, max_le hcd, min_le hcd, cmp4 ha hb hc hd, cmp4 hb hc ha hd, sgR_le, sgR_ge]
theorem rotQ_swap1 (ha : 0 ≤ a) (hb : 0 ≤ b) (hc : 0 ≤ c) (hd : 0 ≤ d) : rotQ a b c d ↔ rotQ b a c d := by
  unfold rotQ
  rw [max_comm (a := b) (b := a), min_comm (a := b) (b := a), cmp4 ha hb hc hd, cmp4 hb ha hc hd, RR.add_comm (rt b)]
theorem rotQ_swap2 (ha : 0 ≤ a) (hb : 0 ≤ b) (hc : 0 ≤ c) (hd : 0 ≤ d) : rotQ a b c d ↔ rotQ a b d c := by
  unfold rotQ
  rw [max_comm (a := d) (b := c), min_comm (a := d) (b := c), cmp4 ha hb hc hd, cmp4 ha hb hd hc, RR.add_comm (rt d)]
variable (h0 : 0 ≤ s) (h1 : s ≤ p) (h2 : p ≤ q) (h3 : q ≤ m)
include h0 h1 h2 h3
theorem exc_le : compareF [s, m] [p, q] ≤ 0 ↔ rt s + rt m ≤ rt p + rt q := by
  rw [cmp4 h0 (by grind) (by grind) (by grind), sgR_le]
theorem exc_ne (h : rt s + rt m ≤ rt p + rt q) (k : rt p + rt q ≤ rt s + rt m) : compareF [s, m] [p, q] = 0 := by
  rw [cmp4 h0 (by grind) (by grind) (by grind), RR.le_antisymm h k, RR.sub_self, sgR_zero]
theorem rot_sp : rotQ s p q m ↔ compareF [s, m] [p, q] ≤ 0 := by
  rw [exc_le h0 h1 h2 h3, rotQ_iff h0 (by grind) (by grind) (by grind) h1 h3]
  exact ⟨fun h => h.2, fun h => ⟨RR.add_le_add (rt_le h0 (by grind)) (rt_le (by grind) (by grind)), h⟩⟩
theorem rot_sq : rotQ s q p m ↔ compareF [s, m] [p, q] ≤ 0 := by
  rw [exc_le h0 h1 h2 h3, rotQ_iff h0 (by grind) (by grind) (by grind) (by grind) (by grind), RR.add_comm (rt q) (rt p)]
  exact ⟨fun h => h.2, fun h => ⟨RR.add_le_add (rt_le h0 h1) (rt_le (by grind) h3), h⟩⟩
theorem rot_sm : rotQ s m p q ↔ compareF [s, m] [p, q] ≤ 0 := by
  rw [exc_le h0 h1 h2 h3, rotQ_iff h0 (by grind) (by grind) (by grind) (by grind) h2]
  refine ⟨fun h => h.1, fun h => ⟨h, ?_⟩⟩
  rw [RR.add_comm (rt m)]; exact RR.add_le_add (rt_le h0 h1) (rt_le (by grind) h3)
theorem rot_pq (h : rotQ p q s m) : compareF [s, m] [p, q] = 0 := by
  rw [rotQ_iff (by grind) (by grind) h0 (by grind) h2 (by grind)] at h
  have hS := rt_le h0 h1; have hQ := rt_le (show 0 ≤ q by grind) h3
  have h4 : rt p + rt m ≤ rt q + rt s := h.2
  refine exc_ne h0 h1 h2 h3 (RR.le_trans (RR.add_le_add hS (RR.le_refl (rt m))) (RR.le_trans h4 ?_)) h.1
  rw [RR.add_comm (rt p)]; exact RR.add_le_add (RR.le_refl _) hS
theorem rot_pm (h : rotQ p m s q) : compareF [s, m] [p, q] = 0 := by
  rw [rotQ_iff (by grind) (by grind) h0 (by grind) (by grind) (by grind)] at h
  have hS := rt_le h0 h1; have hQ := rt_le (show 0 ≤ q by grind) h3
  exact exc_ne h0 h1 h2 h3 (RR.le_trans (RR.add_le_add hS (RR.le_refl (rt m))) (RR.le_trans h.1 (RR.add_le_add hS (RR.le_refl _)))) (RR.le_trans (RR.add_le_add (RR.le_refl (rt p)) hQ) (RR.le_trans h.1 (RR.add_le_add (RR.le_refl _) hQ)))
theorem rot_qm (h : rotQ q m s p) : compareF [s, m] [p, q] = 0 := by
  rw [rotQ_iff (by grind) (by grind) h0 (by grind) h3 h1] at h
  have hS := rt_le h0 (show s ≤ q by grind); have hP := rt_le (show 0 ≤ p by grind) (show p ≤ m by grind)
  refine exc_ne h0 h1 h2 h3 (RR.le_trans (RR.add_le_add hS (RR.le_refl (rt m))) (RR.le_trans h.1 ?_)) ?_
  · rw [RR.add_comm (rt p)]; exact RR.add_le_add hS (RR.le_refl _)
  · rw [RR.add_comm (rt p)]; exact RR.le_trans (RR.add_le_add (RR.le_refl (rt q)) hP) (RR.le_trans h.1 (RR.add_le_add (RR.le_refl _) hP))
end
end Go.Proofs.Ytdeihehaheelmaa
namespace Go.Proofs.Ytdeihehaheelmaa
theorem sgR_nn {x : RR} : sgR x ≥ 0 ↔ 0 ≤ x := by
  have := @sgR_ge x 0
  rwa [RR.sub_zero] at this
theorem closes_iff {p q r s : Rat} (hp : 0 ≤ p) (hq : 0 ≤ q) (hr : 0 ≤ r) (hs : 0 ≤ s) (hsp : s ≤ p) : closesF p q r s = true ↔ rt p ≤ rt q + rt r + rt s := by
  have hqr := Rat.mul_nonneg hq hr
  have hps := Rat.mul_nonneg hp hs
  have hv : 0 ≤ rt p - rt s := RR.le_iff_sub.1 (rt_le hs hsp)
  have e1 : sgR (rt q + rt r + rt s - rt p) = sgR (RR.of (q + r - (p + s)) + RR.of 2 * rt (q * r) + RR.of 2 * rt (p * s)) := by
    have e0 : rt q + rt r + rt s - rt p = (rt q + rt r) - (rt p - rt s) := by
      generalize rt p = a; generalize rt q = b; generalize rt r = c; generalize rt s = d
      obtain ⟨f, hf, rfl⟩ := RR.rep a; obtain ⟨g, hg, rfl⟩ := RR.rep b; obtain ⟨k, hk, rfl⟩ := RR.rep c; obtain ⟨l, hl, rfl⟩ := RR.rep d
      exact RR.ext fun n => by grind
    rw [e0, sgR_sq (RR.add_nn (rt_nn q) (rt_nn r)) hv, rt_mul hq hr, rt_mul hp hs]
    congr 1
    rw [RR.of_sub, RR.of_add, RR.of_add, ← rt_sq hp, ← rt_sq hq, ← rt_sq hr, ← rt_sq hs]
    generalize rt p = a; generalize rt q = b; generalize rt r = c; generalize rt s = d
    obtain ⟨f, hf, rfl⟩ := RR.rep a; obtain ⟨g, hg, rfl⟩ := RR.rep b; obtain ⟨k, hk, rfl⟩ := RR.rep c; obtain ⟨l, hl, rfl⟩ := RR.rep d
    exact RR.ext fun n => by grind
  rw [← sgR_ge, e1]
  have m1 := mixed_sg (x := q + r - (p + s)) (y := 2) hqr
  have m2 := mixed_sg (x := (q + r - (p + s)) * (q + r - (p + s)) + 4 * (q * r) - 4 * (p * s)) (y := 4 * (q + r - (p + s))) hqr
  have ht : 0 ≤ RR.of 2 * rt (p * s) := RR.mul_nn (RR.of_le (p := 0) |>.2 (by decide)) (rt_nn _)
  unfold closesF
  by_cases h : mixedF (q + r - (p + s)) 2 (q * r) ≥ 0
  · rw [if_pos h]
    rw [m1] at h
    exact ⟨fun _ => sgR_nn.2 (RR.add_nn (sgR_nn.1 h) ht), fun _ => rfl⟩
  · rw [if_neg h, decide_eq_true_iff, m2]
    rw [m1, sgR_nn] at h
    have hw : 0 ≤ -(RR.of (q + r - (p + s)) + RR.of 2 * rt (q * r)) := RR.neg_nn.2 (RR.le_of_lt h)
    have e2 : sgR (RR.of (q + r - (p + s)) + RR.of 2 * rt (q * r) + RR.of 2 * rt (p * s)) = -sgR (RR.of ((q + r - (p + s)) * (q + r - (p + s)) + 4 * (q * r) - 4 * (p * s)) + RR.of (4 * (q + r - (p + s))) * rt (q * r)) := by
      have e3 : RR.of (q + r - (p + s)) + RR.of 2 * rt (q * r) + RR.of 2 * rt (p * s) = -(-(RR.of (q + r - (p + s)) + RR.of 2 * rt (q * r)) - RR.of 2 * rt (p * s)) := by
        generalize RR.of 2 * rt (p * s) = a; generalize RR.of (q + r - (p + s)) + RR.of 2 * rt (q * r) = b
        obtain ⟨f, hf, rfl⟩ := RR.rep a; obtain ⟨g, hg, rfl⟩ := RR.rep b
        exact RR.ext fun n => by grind
      rw [e3, sgR_negate, sgR_sq hw ht]
      congr 2
      generalize q + r - (p + s) = X
      rw [RR.of_sub, RR.of_add, RR.of_mul, RR.of_mul 4, RR.of_mul 4, RR.of_mul 4, ← rt_sq hqr, ← rt_sq hps]
      generalize RR.of X = a; generalize rt (q * r) = b; generalize rt (p * s) = c
      obtain ⟨f, hf, rfl⟩ := RR.rep a; obtain ⟨g, hg, rfl⟩ := RR.rep b; obtain ⟨k, hk, rfl⟩ := RR.rep c
      exact RR.ext fun n => by grind
    rw [e2]; omega
end Go.Proofs.Ytdeihehaheelmaa
namespace Go.Proofs.Ytdeihehaheelmaa
def perms4 : List (List Nat) := [[0, 1, 2, 3], [0, 1, 3, 2], [0, 2, 1, 3], [0, 2, 3, 1], [0, 3, 1, 2], [0, 3, 2, 1], [1, 0, 2, 3], [1, 0, 3, 2], [1, 2, 0, 3], [1, 2, 3, 0], [1, 3, 0, 2], [1, 3, 2, 0], [2, 0, 1, 3], [2, 0, 3, 1], [2, 1, 0, 3], [2, 1, 3, 0], [2, 3, 0, 1], [2, 3, 1, 0], [3, 0, 1, 2], [3, 0, 2, 1], [3, 1, 0, 2], [3, 1, 2, 0], [3, 2, 0, 1], [3, 2, 1, 0]]
theorem perm4 {i j k m : Nat} (h : [i, j, k, m].Perm [0, 1, 2, 3]) : [i, j, k, m] ∈ perms4 := by
  have hm : ∀ x ∈ [i, j, k, m], x < 4 := fun x hx => by
    have := h.mem_iff.1 hx
    simp at this; omega
  have all : ∀ i, i < 4 → ∀ j, j < 4 → ∀ k, k < 4 → ∀ m, m < 4 → [i, j, k, m].isPerm [0, 1, 2, 3] = true → perms4.contains [i, j, k, m] = true := by decide +kernel
  have := all i (hm i (by simp)) j (hm j (by simp)) k (hm k (by simp)) m (hm m (by simp)) (List.isPerm_iff.2 h)
  simpa using this
end Go.Proofs.Ytdeihehaheelmaa
namespace Go.Proofs.Ytdeihehaheelmaa
open Go.RowKit (Below)
section
variable {P : Program} {W0 : World} {a : Act} {w : World} {G : Gh} {o : Oper}
theorem OpR.lendM {α : Type} {T : α → MT} {xs : List α} {kk : Option Nat} {f b n c : Nat} {ty : TypeId} {k : Option Nat} {x : Operand} {ats : Array TypeId} {r : Value} (hok : Gok w G) (ho : o.op = .call { callee := .value (.func f), args := #[x], argTypes := ats }) (hc : callable P f = true)
    (hb : BX.ok ⟨b, ty, k, ROWS kk (xs.map T)⟩ W0 w G) (hn : n = xs.length) (hcn : n ≤ c) (hlim : n ≤ LIM)
    (h : ∀ G1, Gle G G1 → Gok w G1 → (LS kk (xs.map T)).t (.slice (some ⟨b, 0, none⟩) n c) G1 → Calls P f #[a.eval x] w (Ret w G1 (.ex r))) : OpR P o a w G (.ex r) := by
  obtain ⟨h1, h2, v, hv, hs, hvt⟩ := hb
  simp only at h1 h2 hv hs hvt
  have hle : Gle G (Gput G b (.cells v.cells ty (0, 0))) := fun c x hc => by
    unfold Gput; split
    · rename_i e; subst e; rw [h2] at hc; cases hc
    · exact hc
  have hok1 : Gok w (Gput G b (.cells v.cells ty (0, 0))) := fun c x hc => by
    unfold Gput at hc; split at hc
    · rename_i e; subst e; cases hc; exact hv
    · exact hok c x hc
  have hsl : (LS kk (xs.map T)).t (.slice (some ⟨b, 0, none⟩) n c) (Gput G b (.cells v.cells ty (0, 0))) := ROWS.slM (u := v) (ty := ty) ((ROWS kk (xs.map T)).mono hle hvt) (by simp [Gput]) hn hcn hlim rfl
  have hcall := h _ hle hok1 hsl
  intro Q K hK
  have hr : (execOp a.eval o).run P w = .ok (.enter f #[a.eval x]) w := by
    simp [execOp, ho, resolve, Act.eval, Deferred.ofValue, invoke, run_callFunc hc]
  unfold Oper.wp
  rw [hr]
  refine Calls.mono hcall fun e w' he => ?_
  obtain ⟨u, G', rfl, hu, hN⟩ := he
  refine hK u w' (fun c => if c = b then none else G' c) hu ⟨hN.below, fun c hc => ?_, fun c x hc => ?_, fun c x hc => ?_⟩
  · by_cases e : c = b
    · subst e; simp [h2]
    · simp only [if_neg e]; rw [hN.agree c hc]; unfold Gput; rw [if_neg e]
  · have e : c ≠ b := fun e => by rw [e, h2] at hc; cases hc
    simp only [if_neg e]
    exact hN.le c x (hle c x hc)
  · by_cases e : c = b
    · subst e; simp at hc
    · simp only [if_neg e] at hc; exact hN.ok c x hc
theorem run_part {k : Option Nat} {t : TypeId} {us : List Value} {i : Nat} {u : Value} (hs : tyS P t k = true) (hE : ∀ v ∈ us, Shaped k v) (hi : us[i]? = some u) : (part t (flat us).toArray (i * k.getD 1)).run P w = .ok u w := by
  have hsz : ∀ v ∈ us, v.cells.size = k.getD 1 := fun v hv => shaped_size (hE v hv)
  have hu := hE u (List.mem_of_getElem? hi)
  cases k with
  | none =>
    have h1 := flat_get (j := 0) hsz hi (by decide)
    have hc : u.cells = #[u] := hu.1
    rw [hc] at h1
    have h2 : (flat us)[i]? = some u := by simpa using h1
    simp [part, (tyS_none hs w).1, h2]
  | some n =>
    obtain ⟨cs, rfl, hn, _⟩ := hu
    have he : (flat us).toArray.extract (i * n) (i * n + n) = cs := by
      have hil := (List.getElem?_eq_some_iff.1 hi).1
      have hfl := flat_len hsz
      have hle : (i + 1) * n ≤ us.length * n := Nat.mul_le_mul_right n hil
      rw [Nat.add_mul, Nat.one_mul] at hle
      have hfl' : (flat us).length = us.length * n := hfl
      apply Array.ext
      · simp; omega
      · intro j h1 h2
        have h3 := flat_get (j := j) hsz hi (show j < n by omega)
        have h3' : (flat us)[i * n + j]? = cs[j]? := h3
        rw [Array.getElem?_eq_getElem h2] at h3'
        have h4 := (List.getElem?_eq_some_iff.1 h3').2
        simpa using h4
    have he' : (List.take n (List.drop (i * n) (flat us))).toArray = cs := by simpa using he
    simp [part, (tyS_some hs w).1, (tyS_some hs w).2, he']
theorem OpR.ixV {α : Type} [Inhabited α] {T : α → MT} {xs : List α} {kk : Option Nat} {x y : Operand} {t e : TypeId} {n i : Nat} {m : Int} {k : IntKind} (hok : Gok w G) (ho : o.op = .index t x y) (ht : P.underlying t = some (.array n e)) (hs : tyS P e kk = true)
    (hx : (ARN kk (xs.map T)).t (a.eval x) G) (hy : a.eval y = .int k m) (hm : m = (i : Int)) (hn : n = xs.length) (hi : i < n) : OpR P o a w G (T (xs.getD i default)) := by
  subst hm
  obtain ⟨us, hu, hE⟩ := hx
  have hl : us.length = n := by rw [hE.1, List.length_map, hn]
  have hiu : i < us.length := by omega
  have hE2 := hE.2 i (T (xs.getD i default)) us[i] (by rw [List.getElem?_map, List.getD_eq_getElem?_getD, List.getElem?_eq_getElem (by omega)]; rfl) (List.getElem?_eq_getElem hiu)
  refine .run hok (v := us[i]) ?_ hE2.2
  simp [execOp, ho, Instr.index, hu, hy, asIntOf, run_underlying ht, tyS_size hs, hi, run_part hs hE.shaped (List.getElem?_eq_getElem hiu)]
end
end Go.Proofs.Ytdeihehaheelmaa
namespace Go.Proofs.Ytdeihehaheelmaa
def sumT (l : List FR) : Nat → Rat
  | 0 => 0
  | k + 1 => sumT l k + (l.getD k default).val
def minT (l : List FR) : Nat → Rat
  | 0 => (l.getD 0 default).val
  | k + 1 => minQ (minT l k) (l.getD k default).val
def maxT (l : List FR) : Nat → Rat
  | 0 => (l.getD 0 default).val
  | k + 1 => maxQ (maxT l k) (l.getD k default).val
theorem sq_le {x y : Rat} (hy : 0 < y) (h : x * x ≤ y * y) (hx : 0 < x) : x ≤ y := by
  rcases Classical.em (x ≤ y) with k | k
  · exact k
  · have := Rat.mul_pos (show 0 < x - y by grind) (show 0 < x + y by grind)
    grind
section
variable {a b c d : Rat}
theorem min4 : minQ (minQ (minQ (minQ a a) b) c) d ≤ a ∧ minQ (minQ (minQ (minQ a a) b) c) d ≤ b ∧ minQ (minQ (minQ (minQ a a) b) c) d ≤ c ∧ minQ (minQ (minQ (minQ a a) b) c) d ≤ d ∧
    (minQ (minQ (minQ (minQ a a) b) c) d = a ∨ minQ (minQ (minQ (minQ a a) b) c) d = b ∨ minQ (minQ (minQ (minQ a a) b) c) d = c ∨ minQ (minQ (minQ (minQ a a) b) c) d = d) := by
  unfold minQ; split <;> split <;> split <;> split <;> grind
theorem max4 : a ≤ maxQ (maxQ (maxQ (maxQ a a) b) c) d ∧ b ≤ maxQ (maxQ (maxQ (maxQ a a) b) c) d ∧ c ≤ maxQ (maxQ (maxQ (maxQ a a) b) c) d ∧ d ≤ maxQ (maxQ (maxQ (maxQ a a) b) c) d ∧
    (maxQ (maxQ (maxQ (maxQ a a) b) c) d = a ∨ maxQ (maxQ (maxQ (maxQ a a) b) c) d = b ∨ maxQ (maxQ (maxQ (maxQ a a) b) c) d = c ∨ maxQ (maxQ (maxQ (maxQ a a) b) c) d = d) := by
  unfold maxQ; split <;> split <;> split <;> split <;> grind
theorem ord_sq (ha : 0 < a) (hb : 0 < b) (hc : 0 < c) (hd : 0 < d) : ∃ s p q m : Rat, 0 < s ∧ s ≤ p ∧ p ≤ q ∧ q ≤ m ∧ lk [FR.of (a * a), FR.of (b * b), FR.of (c * c), FR.of (d * d)] 0 = s * s ∧ lk [FR.of (a * a), FR.of (b * b), FR.of (c * c), FR.of (d * d)] 1 = p * p ∧
    lk [FR.of (a * a), FR.of (b * b), FR.of (c * c), FR.of (d * d)] 2 = q * q ∧ lk [FR.of (a * a), FR.of (b * b), FR.of (c * c), FR.of (d * d)] 3 = m * m ∧ s + p + q + m = 0 + a + b + c + d ∧
    s = minQ (minQ (minQ (minQ a a) b) c) d ∧ m = maxQ (maxQ (maxQ (maxQ a a) b) c) d := by
  have hmn := @min4 a b c d
  have hmx := @max4 a b c d
  generalize minQ (minQ (minQ (minQ a a) b) c) d = mn at hmn ⊢
  generalize maxQ (maxQ (maxQ (maxQ a a) b) c) d = mx at hmx ⊢
  obtain ⟨i, j, k, m, e, hp, b1, b2, b3⟩ := order_ok [a * a, b * b, c * c, d * d]
  have l1 := bef_le b1; have l2 := bef_le b2; have l3 := bef_le b3
  have hm := perm4 hp
  have hl : ∀ n, lk [FR.of (a * a), FR.of (b * b), FR.of (c * c), FR.of (d * d)] n = [a * a, b * b, c * c, d * d].getD ([i, j, k, m].getD n default) default := fun n => by rw [lk_of4, e]
  rw [hl 0, hl 1, hl 2, hl 3]
  simp only [perms4, List.mem_cons, List.not_mem_nil, or_false, List.cons.injEq, and_true] at hm
  clear hp b1 b2 b3 hl e
  obtain ⟨n1, n2, n3, n4, n5⟩ := hmn
  obtain ⟨x1, x2, x3, x4, x5⟩ := hmx
  rcases hm with ⟨rfl, rfl, rfl, rfl⟩ | ⟨rfl, rfl, rfl, rfl⟩ | ⟨rfl, rfl, rfl, rfl⟩ | ⟨rfl, rfl, rfl, rfl⟩ | ⟨rfl, rfl, rfl, rfl⟩ | ⟨rfl, rfl, rfl, rfl⟩ | ⟨rfl, rfl, rfl, rfl⟩ | ⟨rfl, rfl, rfl, rfl⟩ | ⟨rfl, rfl, rfl, rfl⟩ | ⟨rfl, rfl, rfl, rfl⟩ | ⟨rfl, rfl, rfl, rfl⟩ | ⟨rfl, rfl, rfl, rfl⟩ | ⟨rfl, rfl, rfl, rfl⟩ | ⟨rfl, rfl, rfl, rfl⟩ | ⟨rfl, rfl, rfl, rfl⟩ | ⟨rfl, rfl, rfl, rfl⟩ | ⟨rfl, rfl, rfl, rfl⟩ | ⟨rfl, rfl, rfl, rfl⟩ | ⟨rfl, rfl, rfl, rfl⟩ | ⟨rfl, rfl, rfl, rfl⟩ | ⟨rfl, rfl, rfl, rfl⟩ | ⟨rfl, rfl, rfl, rfl⟩ | ⟨rfl, rfl, rfl, rfl⟩ | ⟨rfl, rfl, rfl, rfl⟩
  · have k1 := sq_le hb l1 ha; have k2 := sq_le hc l2 hb; have k3 := sq_le hd l3 hc
    exact ⟨a, b, c, d, ha, k1, k2, k3, rfl, rfl, rfl, rfl, by grind, by grind, by grind⟩
  · have k1 := sq_le hb l1 ha; have k2 := sq_le hd l2 hb; have k3 := sq_le hc l3 hd
    exact ⟨a, b, d, c, ha, k1, k2, k3, rfl, rfl, rfl, rfl, by grind, by grind, by grind⟩
  · have k1 := sq_le hc l1 ha; have k2 := sq_le hb l2 hc; have k3 := sq_le hd l3 hb
    exact ⟨a, c, b, d, ha, k1, k2, k3, rfl, rfl, rfl, rfl, by grind, by grind, by grind⟩
  · have k1 := sq_le hc l1 ha; have k2 := sq_le hd l2 hc; have k3 := sq_le hb l3 hd
    exact ⟨a, c, d, b, ha, k1, k2, k3, rfl, rfl, rfl, rfl, by grind, by grind, by grind⟩
  · have k1 := sq_le hd l1 ha; have k2 := sq_le hb l2 hd; have k3 := sq_le hc l3 hb
    exact ⟨a, d, b, c, ha, k1, k2, k3, rfl, rfl, rfl, rfl, by grind, by grind, by grind⟩
  · have k1 := sq_le hd l1 ha; have k2 := sq_le hc l2 hd; have k3 := sq_le hb l3 hc
    exact ⟨a, d, c, b, ha, k1, k2, k3, rfl, rfl, rfl, rfl, by grind, by grind, by grind⟩
  · have k1 := sq_le ha l1 hb; have k2 := sq_le hc l2 ha; have k3 := sq_le hd l3 hc
    exact ⟨b, a, c, d, hb, k1, k2, k3, rfl, rfl, rfl, rfl, by grind, by grind, by grind⟩
  · have k1 := sq_le ha l1 hb; have k2 := sq_le hd l2 ha; have k3 := sq_le hc l3 hd
    exact ⟨b, a, d, c, hb, k1, k2, k3, rfl, rfl, rfl, rfl, by grind, by grind, by grind⟩
  · have k1 := sq_le hc l1 hb; have k2 := sq_le ha l2 hc; have k3 := sq_le hd l3 ha
    exact ⟨b, c, a, d, hb, k1, k2, k3, rfl, rfl, rfl, rfl, by grind, by grind, by grind⟩
  · have k1 := sq_le hc l1 hb; have k2 := sq_le hd l2 hc; have k3 := sq_le ha l3 hd
    exact ⟨b, c, d, a, hb, k1, k2, k3, rfl, rfl, rfl, rfl, by grind, by grind, by grind⟩
  · have k1 := sq_le hd l1 hb; have k2 := sq_le ha l2 hd; have k3 := sq_le hc l3 ha
    exact ⟨b, d, a, c, hb, k1, k2, k3, rfl, rfl, rfl, rfl, by grind, by grind, by grind⟩
  · have k1 := sq_le hd l1 hb; have k2 := sq_le hc l2 hd; have k3 := sq_le ha l3 hc
    exact ⟨b, d, c, a, hb, k1, k2, k3, rfl, rfl, rfl, rfl, by grind, by grind, by grind⟩
  · have k1 := sq_le ha l1 hc; have k2 := sq_le hb l2 ha; have k3 := sq_le hd l3 hb
    exact ⟨c, a, b, d, hc, k1, k2, k3, rfl, rfl, rfl, rfl, by grind, by grind, by grind⟩
  · have k1 := sq_le ha l1 hc; have k2 := sq_le hd l2 ha; have k3 := sq_le hb l3 hd
    exact ⟨c, a, d, b, hc, k1, k2, k3, rfl, rfl, rfl, rfl, by grind, by grind, by grind⟩
  · have k1 := sq_le hb l1 hc; have k2 := sq_le ha l2 hb; have k3 := sq_le hd l3 ha
    exact ⟨c, b, a, d, hc, k1, k2, k3, rfl, rfl, rfl, rfl, by grind, by grind, by grind⟩
  · have k1 := sq_le hb l1 hc; have k2 := sq_le hd l2 hb; have k3 := sq_le ha l3 hd
    exact ⟨c, b, d, a, hc, k1, k2, k3, rfl, rfl, rfl, rfl, by grind, by grind, by grind⟩
  · have k1 := sq_le hd l1 hc; have k2 := sq_le ha l2 hd; have k3 := sq_le hb l3 ha
    exact ⟨c, d, a, b, hc, k1, k2, k3, rfl, rfl, rfl, rfl, by grind, by grind, by grind⟩
  · have k1 := sq_le hd l1 hc; have k2 := sq_le hb l2 hd; have k3 := sq_le ha l3 hb
    exact ⟨c, d, b, a, hc, k1, k2, k3, rfl, rfl, rfl, rfl, by grind, by grind, by grind⟩
  · have k1 := sq_le ha l1 hd; have k2 := sq_le hb l2 ha; have k3 := sq_le hc l3 hb
    exact ⟨d, a, b, c, hd, k1, k2, k3, rfl, rfl, rfl, rfl, by grind, by grind, by grind⟩
  · have k1 := sq_le ha l1 hd; have k2 := sq_le hc l2 ha; have k3 := sq_le hb l3 hc
    exact ⟨d, a, c, b, hd, k1, k2, k3, rfl, rfl, rfl, rfl, by grind, by grind, by grind⟩
  · have k1 := sq_le hb l1 hd; have k2 := sq_le ha l2 hb; have k3 := sq_le hc l3 ha
    exact ⟨d, b, a, c, hd, k1, k2, k3, rfl, rfl, rfl, rfl, by grind, by grind, by grind⟩
  · have k1 := sq_le hb l1 hd; have k2 := sq_le hc l2 hb; have k3 := sq_le ha l3 hc
    exact ⟨d, b, c, a, hd, k1, k2, k3, rfl, rfl, rfl, rfl, by grind, by grind, by grind⟩
  · have k1 := sq_le hc l1 hd; have k2 := sq_le ha l2 hc; have k3 := sq_le hb l3 ha
    exact ⟨d, c, a, b, hd, k1, k2, k3, rfl, rfl, rfl, rfl, by grind, by grind, by grind⟩
  · have k1 := sq_le hc l1 hd; have k2 := sq_le hb l2 hc; have k3 := sq_le ha l3 hb
    exact ⟨d, c, b, a, hd, k1, k2, k3, rfl, rfl, rfl, rfl, by grind, by grind, by grind⟩
end
theorem rt_sqr {x : Rat} (h : 0 < x) : rt (x * x) = RR.of x := rt_c (by grind)
section
variable {ra rb rc rd : FR} (ha : 0 < ra.val) (hb : 0 < rb.val) (hc : 0 < rc.val) (hd : 0 < rd.val)
include ha hb hc hd
theorem len_posR : [FR.of (ra.val * ra.val), FR.of (rb.val * rb.val), FR.of (rc.val * rc.val), FR.of (rd.val * rd.val)].all posR = true := by
  simp only [List.all_cons, List.all_nil, posR_of4, Bool.and_true, Bool.and_eq_true, decide_eq_true_eq]
  exact ⟨Rat.mul_pos ha ha, Rat.mul_pos hb hb, Rat.mul_pos hc hc, Rat.mul_pos hd hd⟩
theorem len_closes : closesF (lk [FR.of (ra.val * ra.val), FR.of (rb.val * rb.val), FR.of (rc.val * rc.val), FR.of (rd.val * rd.val)] 3) (lk [FR.of (ra.val * ra.val), FR.of (rb.val * rb.val), FR.of (rc.val * rc.val), FR.of (rd.val * rd.val)] 0) (lk [FR.of (ra.val * ra.val), FR.of (rb.val * rb.val), FR.of (rc.val * rc.val), FR.of (rd.val * rd.val)] 1) (lk [FR.of (ra.val * ra.val), FR.of (rb.val * rb.val), FR.of (rc.val * rc.val), FR.of (rd.val * rd.val)] 2) = true ↔
    maxT [ra, rb, rc, rd] 4 + maxT [ra, rb, rc, rd] 4 ≤ sumT [ra, rb, rc, rd] 4 := by
  obtain ⟨s, p, q, m, h0, h1, h2, h3, e0, e1, e2, e3, es, _, em⟩ := ord_sq ha hb hc hd
  have hp : 0 < p := by grind
  have hq : 0 < q := by grind
  have hm : 0 < m := by grind
  have hmm : q * q ≤ m * m := Rat.le_trans (Rat.mul_le_mul_of_nonneg_left h3 (by grind)) (Rat.mul_le_mul_of_nonneg_right h3 (by grind))
  rw [e0, e1, e2, e3, closes_iff (Rat.le_of_lt (Rat.mul_pos hm hm)) (Rat.le_of_lt (Rat.mul_pos h0 h0)) (Rat.le_of_lt (Rat.mul_pos hp hp)) (Rat.le_of_lt (Rat.mul_pos hq hq)) hmm, rt_sqr h0, rt_sqr hp, rt_sqr hq, rt_sqr hm, ← RR.of_add, ← RR.of_add, RR.of_le]
  show m ≤ s + p + q ↔ maxQ (maxQ (maxQ (maxQ ra.val ra.val) rb.val) rc.val) rd.val + maxQ (maxQ (maxQ (maxQ ra.val ra.val) rb.val) rc.val) rd.val ≤ 0 + ra.val + rb.val + rc.val + rd.val
  rw [← em, ← es]
  grind
theorem len_bad (h : cmpQ (maxT [ra, rb, rc, rd] 4 + maxT [ra, rb, rc, rd] 4) (sumT [ra, rb, rc, rd] 4) > 0) : chkF [FR.of (ra.val * ra.val), FR.of (rb.val * rb.val), FR.of (rc.val * rc.val), FR.of (rd.val * rd.val)] = 16 := by
  refine chk16 (len_posR ha hb hc hd) (Bool.eq_false_iff.2 fun k => ?_)
  have := (len_closes ha hb hc hd).1 k
  unfold cmpQ at h
  split at h
  · omega
  · split at h
    · grind
    · omega
theorem len_ok (h : ¬ cmpQ (maxT [ra, rb, rc, rd] 4 + maxT [ra, rb, rc, rd] 4) (sumT [ra, rb, rc, rd] 4) > 0) : chkF [FR.of (ra.val * ra.val), FR.of (rb.val * rb.val), FR.of (rc.val * rc.val), FR.of (rd.val * rd.val)] = 0 := by
  refine chk0 (len_posR ha hb hc hd) ((len_closes ha hb hc hd).2 ?_)
  unfold cmpQ at h
  split at h
  · grind
  · split at h
    · omega
    · grind
theorem len_exc : excF [FR.of (ra.val * ra.val), FR.of (rb.val * rb.val), FR.of (rc.val * rc.val), FR.of (rd.val * rd.val)] = cmpQ (minT [ra, rb, rc, rd] 4 + maxT [ra, rb, rc, rd] 4 + (minT [ra, rb, rc, rd] 4 + maxT [ra, rb, rc, rd] 4)) (sumT [ra, rb, rc, rd] 4) := by
  obtain ⟨s, p, q, m, h0, h1, h2, h3, e0, e1, e2, e3, es, en, em⟩ := ord_sq ha hb hc hd
  have hp : 0 < p := by grind
  have hq : 0 < q := by grind
  have hm : 0 < m := by grind
  unfold excF
  rw [e0, e1, e2, e3, cmp4 (Rat.le_of_lt (Rat.mul_pos h0 h0)) (Rat.le_of_lt (Rat.mul_pos hm hm)) (Rat.le_of_lt (Rat.mul_pos hp hp)) (Rat.le_of_lt (Rat.mul_pos hq hq)), rt_sqr h0, rt_sqr hp, rt_sqr hq, rt_sqr hm, ← RR.of_add, ← RR.of_add, sgR_cmp]
  show cmpQ (s + m) (p + q) = cmpQ (minQ (minQ (minQ (minQ ra.val ra.val) rb.val) rc.val) rd.val + maxQ (maxQ (maxQ (maxQ ra.val ra.val) rb.val) rc.val) rd.val + (minQ (minQ (minQ (minQ ra.val ra.val) rb.val) rc.val) rd.val + maxQ (maxQ (maxQ (maxQ ra.val ra.val) rb.val) rc.val) rd.val)) (0 + ra.val + rb.val + rc.val + rd.val)
  rw [← em, ← en, ← es]
  unfold cmpQ
  split <;> split <;> first | grind | (split <;> grind)
theorem len_code : cmpCode [FR.of (ra.val * ra.val), FR.of (rb.val * rb.val)] [FR.of (rc.val * rc.val), FR.of (rd.val * rd.val)] = 0 := by
  have g : ∀ x : Rat, 0 < x → goodR (FR.of (x * x)) = true := fun x h => by
    unfold goodR; rw [FR.of_ok, FR.of_val, Bool.true_and]; exact decide_eq_true (Rat.le_of_lt (Rat.mul_pos h h))
  exact cmpCode0 (by simp) (by simp [g _ ha, g _ hb]) (by simp [g _ hc, g _ hd])
theorem len_cmp : cmpRes [FR.of (ra.val * ra.val), FR.of (rb.val * rb.val)] [FR.of (rc.val * rc.val), FR.of (rd.val * rd.val)] = cmpQ (ra.val + rb.val) (rc.val + rd.val) := by
  unfold cmpRes
  rw [if_pos (len_code ha hb hc hd)]
  simp only [List.map_cons, List.map_nil, FR.of_val]
  rw [cmp4 (Rat.le_of_lt (Rat.mul_pos ha ha)) (Rat.le_of_lt (Rat.mul_pos hb hb)) (Rat.le_of_lt (Rat.mul_pos hc hc)) (Rat.le_of_lt (Rat.mul_pos hd hd)), rt_sqr ha, rt_sqr hb, rt_sqr hc, rt_sqr hd, ← RR.of_add, ← RR.of_add, sgR_cmp]
end
def posV (l : List FR) (k : Nat) : Prop := ∀ j, j < k → 0 < (l.getD j default).val
theorem posV_0 {l : List FR} : posV l 0 := fun j h => absurd h (Nat.not_lt_zero _)
theorem posV_s {l : List FR} {k : Nat} (h : posV l k) (hk : ¬ (l.getD k default).val.num.sign ≤ 0) : posV l (k + 1) := fun j hj => by
  rcases Nat.lt_or_ge j k with e | e
  · exact h j e
  · obtain rfl : j = k := by omega
    exact sgn_pos_of hk
theorem ROWS.toFX {l : List FR} {v : Value} {G : Gh} (h : (ROWS (some 3) (l.map RX)).t v G) (hs : shortF l = true) : (ROWS (some 3) (l.map (FX 64))).t v G := by
  unfold shortF at hs; simp at hs
  obtain ⟨us, r, rfl, hE⟩ := h
  refine ⟨us, r, rfl, by rw [hE.1]; simp, fun i τ u h1 h2 => ?_⟩
  rw [List.getElem?_map] at h1
  cases hx : l[i]? with
  | none => rw [hx] at h1; cases h1
  | some x =>
    rw [hx] at h1; cases h1
    have := hE.2 i (RX x) u (by rw [List.getElem?_map, hx]; rfl) h2
    exact ⟨this.1, RX.toFX this.2 (hs.1 x (List.mem_of_getElem? hx))⟩
theorem QR.toQV0 {n : Nat} {v : Value} {G : Gh} (hn : 1 ≤ n) (h : (QR false [] []).t v G) : (QV n 0).t v G := ⟨hn, false, [], [], by rfl, Nat.two_pow_pos n, Nat.two_pow_pos n, h⟩
end Go.Proofs.Ytdeihehaheelmaa
namespace Go.Proofs.Ytdeihehaheelmaa
set_option maxHeartbeats 2000000
set_option maxRecDepth 100000
open Go.RowKit (Below)
private theorem bp_37_0_1_2_3 : ∀ {u0 : Value} {u1 : Value} {u2 : Value} {u3 : Value} (h0 : Shaped (some 3) u0) (h1 : Shaped (some 3) u1) (h2 : Shaped (some 3) u2) (h3 : Shaped (some 3) u3),Try.prog.built 37 [(0,u0),(1,u1),(2,u2),(3,u3)] = some (flat [u0,u1,u2,u3]).toArray:=by
 intro u0 u1 u2 u3 h0 h1 h2 h3
 obtain ⟨c0_0,c0_1,c0_2,rfl⟩:=agg3 h0
 obtain ⟨c1_0,c1_1,c1_2,rfl⟩:=agg3 h1
 obtain ⟨c2_0,c2_1,c2_2,rfl⟩:=agg3 h2
 obtain ⟨c3_0,c3_1,c3_2,rfl⟩:=agg3 h3
 kernel_rfl
private theorem bt_35_ : Try.prog.built 35 [] = some #[.bool false,.slice none 0 0,.slice none 0 0]:=by kernel_rfl
private theorem c_10 : callable Try.prog 10 = true:=by kernel_rfl
private theorem c_11 : callable Try.prog 11 = true:=by kernel_rfl
private theorem c_15 : callable Try.prog 15 = true:=by kernel_rfl
private theorem c_16 : callable Try.prog 16 = true:=by kernel_rfl
private theorem c_18 : callable Try.prog 18 = true:=by kernel_rfl
private theorem c_22 : callable Try.prog 22 = true:=by kernel_rfl
private theorem c_24 : callable Try.prog 24 = true:=by kernel_rfl
private theorem c_25 : callable Try.prog 25 = true:=by kernel_rfl
private theorem c_26 : callable Try.prog 26 = true:=by kernel_rfl
private theorem c_27 : callable Try.prog 27 = true:=by kernel_rfl
private theorem c_28 : callable Try.prog 28 = true:=by kernel_rfl
private theorem c_9 : callable Try.prog 9 = true:=by kernel_rfl
private theorem el_35 : elS Try.prog 35 3 56 (.agg #[.bool false,.slice none 0 0,.slice none 0 0]):=by unfold elS;kernel_rfl
private theorem fo_37_0 : fldOff Try.prog 37 0 = some 0:=by kernel_rfl
private theorem fo_37_1 : fldOff Try.prog 37 1 = some 3:=by kernel_rfl
private theorem fo_37_2 : fldOff Try.prog 37 2 = some 6:=by kernel_rfl
private theorem fo_37_3 : fldOff Try.prog 37 3 = some 9:=by kernel_rfl
private theorem if_26 : ifaceT Try.prog 26:=by unfold ifaceT;kernel_rfl
private theorem mixedOrders : Try.prog.follows .mixedOrders = true:=by kernel_rfl
private theorem tS_35 : tyS Try.prog 35 (some 3) = true:=by kernel_rfl
private theorem tS_37 : tyS Try.prog 37 (some 12) = true:=by kernel_rfl
private theorem tS_48 : tyS Try.prog 48 (some 12) = true:=by kernel_rfl
private theorem z_35 : (Try.prog.info? 35).bind (·.zero) = some (.agg #[.bool false,.slice none 0 0,.slice none 0 0]):=by kernel_rfl
private theorem z_37 : (Try.prog.info? 37).bind (·.zero) = some (.agg #[.bool false,.slice none 0 0,.slice none 0 0,.bool false,.slice none 0 0,.slice none 0 0,.bool false,.slice none 0 0,.slice none 0 0,.bool false,.slice none 0 0,.slice none 0 0]):=by kernel_rfl
private theorem zs_35 : Shaped (some 3) (.agg #[.bool false,.slice none 0 0,.slice none 0 0]):=⟨_,rfl,rfl,by simp [Value.oneCell']⟩
private theorem zs_37 : Shaped (some 12) (.agg #[.bool false,.slice none 0 0,.slice none 0 0,.bool false,.slice none 0 0,.slice none 0 0,.bool false,.slice none 0 0,.slice none 0 0,.bool false,.slice none 0 0,.slice none 0 0]):=⟨_,rfl,rfl,by simp [Value.oneCell']⟩
theorem lLengths_ok {rg ra rb rc : FR} {v1 : Value} {W0 : World} {G0 : Gh} (hok : Gok W0 G0) (h1 : (ARN (some 3) (([rg,ra,rb,rc]).map (RX))).t v1 G0)  : Calls Try.prog 7 #[v1] W0 (Ret W0 G0 (BT true)):=by
 refine St.enter (N:=141) (L:=[(0,ARN (some 3) (([rg,ra,rb,rc]).map (RX)))]) (args:=[v1]) Try.func7 rfl rfl rfl hok (enter1 h1) fun a S=>?_
 refine wp_reg fun K hK=>?_
 refine S.boxop (x:=.tmp 0) (τ:=ARN (some 3) (([rg,ra,rb,rc]).map (RX))) (S.g 0 rfl) (sh (τ:=ARN (some 3) (([rg,ra,rb,rc]).map (RX))) (S.g 0 rfl)) rfl rfl rfl rfl rfl fun b1 a w G S=>?_
 replace S:=(S.castBox (τ':=ROWS (some 3) (([rg,ra,rb,rc]).map (RX))) 0 rfl fun _ h _=>ARN.rows h).n0
 refine S.s (τ:=BT false) (OpR.asn S.ok rfl rfl) rfl fun a w G S=>?_
 refine wpList_nil (hK _ _ ?_);clear hK K
 replace S:=S.d2
 refine wp_seq_k fun K hK=>?_
 refine wp_reg fun K hK=>?_
 refine S.s (τ:=BT true) (OpR.call0 rfl c_9 (lawake_ok S.ok )) rfl fun a w G S=>?_
 refine S.s (τ:=BT false) (OpR.bnot S.ok rfl (S.e 0 rfl) rfl) rfl fun a w G S=>?_
 refine S.s (OpR.mv S.ok rfl (S.g 0 rfl)) rfl fun a w G S=>?_
 refine S.stepG (τ:=MT.ex (Value.slice (some ⟨b1,0,none⟩) (4) (4))) 0 (OpR.slAr S.ok rfl Try.underlying48 tS_35 (S.e 4 rfl) rfl rfl) rfl rfl rfl rfl rfl rfl fun a w G S=>?_
 refine S.stepG (τ:=BT (shortF ([rg,ra,rb,rc]))) 1 (OpR.lendM (T:=(RX)) (xs:=[rg,ra,rb,rc]) (n:=4) (c:=4) S.ok rfl c_10 (S.box 0 rfl) rfl (Nat.le_refl _) (show 4 ≤ LIM by decide) fun G1 hle hok1 hsl=>(rShort_ok hok1 (of_val (S.e 0 rfl) hsl))) rfl rfl rfl rfl rfl rfl fun a w G S=>?_
 refine S.stepG 2 (OpR.bnot S.ok rfl (S.e 0 rfl) MT.self) rfl rfl rfl rfl rfl rfl fun a w G S=>?_
 refine S.s (τ:=BT (!(shortF ([rg,ra,rb,rc])))) (OpR.pick S.ok rfl (S.e 3 rfl) (S.g 0 rfl)) rfl fun a w G S=>?_
 refine wpList_nil (hK _ _ ?_);clear hK K
 replace S:=S.d6.d5.d4.d3.d2.d1
 refine S.cond 0 rfl (fun hc1=>?_) (fun hc1=>?_)
 ·
  refine wp_reg fun K hK=>?_
  refine S.s (τ:=BT true) (OpR.call0 rfl c_9 (lawake_ok S.ok )) rfl fun a w G S=>?_
  replace S:=S.d2
  refine S.s (OpR.asn S.ok rfl (S.g 0 rfl)) rfl fun a w G S=>?_
  refine wpList_nil (hK _ _ ?_);clear hK K
  replace S:=S.d1
  exact wp_ret (then_ret (S.retTmp rfl (S.g 0 rfl)))
 ·
  have hs1:=not_false_of hc1
  refine wp_skip ?_
  refine hK _ _ ?_;clear hK K
  refine wp_seq_k fun K hK=>?_
  refine wp_reg fun K hK=>?_
  replace S:=(S.castBox (τ':=ROWS (some 3) (([rg,ra,rb,rc]).map (FX 64))) 0 rfl fun _ h _=>ROWS.toFX h hs1).n0
  refine S.s (OpR.ldArr S.ok rfl (S.e 2 rfl) (S.box 0 rfl) tS_48 (by first | rfl | (simp;done) | (simp;omega))) rfl fun a w G S=>?_
  refine S.s (τ:=NT 0) (OpR.mv S.ok rfl (rfl : _ = nv .i64 0)) rfl fun a w G S=>?_
  refine wpList_nil (hK _ _ ?_);clear hK K
  refine wp_block ?_
  refine wp_loopJ (fun μ a w=>∃ (i : Nat) (G : Gh),μ = 4 - i ∧ (i ≤ 4) ∧ (posV [rg,ra,rb,rc] i) ∧  St W0 G0 141 [(25,NT i),(24,ARN (some 3) (([rg,ra,rb,rc]).map (FX 64))),(22,BT (!(shortF ([rg,ra,rb,rc])))),(2,BT false),(1,PB b1)] [⟨b1,48,some 12,ROWS (some 3) (([rg,ra,rb,rc]).map (FX 64))⟩] a w G) (4 - 0) ⟨0,_,rfl,(by omega),posV_0,(S.keep [0,1,2,3,4]).keepB [0] (by decide)⟩ ?_
  clear S
  intro μ a w ⟨i,G,hm,hi,hp,S⟩
  refine wp_reg fun K hK=>?_
  refine S.s (OpR.nlss S.ok rfl (S.e 0 rfl) (rfl : _ = nv .i64 4) MT.self) rfl fun a w G S=>?_
  refine wpList_nil (hK _ _ ?_);clear hK K
  refine wp_seq_k fun K hK=>?_
  refine S.cond 0 rfl (fun hc4=>?_) (fun hc4=>?_)
  ·
   have hp5:=of_decide_eq_true hc4
   refine wp_skip ?_
   refine hK _ _ ?_;clear hK K
   refine wp_seq_k fun K hK=>?_
   refine wp_block ?_
   refine wp_reg fun K hK=>?_
   refine S.s (τ:=FX 64 (([rg,ra,rb,rc]).getD i default)) (OpR.ixV (T:=(FX 64)) (xs:=[rg,ra,rb,rc]) (i:=i) S.ok rfl Try.underlying48 tS_35 (S.g 2 rfl) (S.e 1 rfl) rfl rfl (by first | omega | (simp only [List.length_set,List.length_take,List.length_drop,List.length_append,List.length_map,List.length_replicate];omega))) rfl fun a w G S=>?_
   refine S.alloc rfl rfl rfl z_35 zs_35 rfl rfl fun b4 a w G S=>?_
   refine S.store (τ:=FX 64 (([rg,ra,rb,rc]).getD i default)) 0 rfl rfl rfl rfl (S.e 0 rfl) tS_35 (S.g 1 rfl) (sh (τ:=FX 64 (([rg,ra,rb,rc]).getD i default)) (S.g 1 rfl)) fun w S=>?_
   replace S:=S.n0
   refine wpList_nil (hK _ _ ?_);clear hK K
   replace S:=S.d1
   refine wp_reg fun K hK=>?_
   refine S.s (OpR.ldBox S.ok rfl (S.e 0 rfl) (S.box 0 rfl) tS_35) rfl fun a w G S=>?_
   refine S.s (τ:=BT ((([rg,ra,rb,rc]).getD i default).ok)) (OpR.call1 rfl c_15 (gValidX_ok S.ok (S.g 0 rfl) (by decide))) rfl fun a w G S=>?_
   refine S.s (OpR.bnot S.ok rfl (S.e 0 rfl) MT.self) rfl fun a w G S=>?_
   refine S.s (OpR.mv S.ok rfl (S.g 0 rfl)) rfl fun a w G S=>?_
   rcases Bool.eq_false_or_eq_true (!((([rg,ra,rb,rc]).getD i default).ok)) with hc6 | hc6
   ·
    replace S:=S.boolIs 0 rfl hc6
    refine S.skipG 0 rfl rfl rfl rfl rfl rfl fun a w G S=>?_
    refine S.skipG 1 rfl rfl rfl rfl rfl rfl fun a w G S=>?_
    refine S.skipG 2 rfl rfl rfl rfl rfl rfl fun a w G S=>?_
    refine S.s (τ:=BT true) (OpR.pick S.ok rfl (S.e 3 rfl) rfl) rfl fun a w G S=>?_
    refine wpList_nil (hK _ _ ?_);clear hK K
    replace S:=S.d8.d7.d6.d5.d4.d3.d2.d1
    refine wp_cond_true (S.e 0 rfl) ?_
    refine wp_reg fun K hK=>?_
    replace S:=S.d6
    refine S.s (τ:=BT true) (OpR.asn S.ok rfl rfl) rfl fun a w G S=>?_
    refine wpList_nil (hK _ _ ?_);clear hK K
    exact wp_ret (block_ret (then_ret (then_ret (block_ret (then_ret (S.retTmp rfl (S.g 0 rfl)))))))
   ·
    replace S:=S.boolIs 0 rfl hc6
    refine S.stepG 0 (OpR.ldBox S.ok rfl (S.e 5 rfl) (S.box 0 rfl) tS_35) rfl rfl rfl rfl rfl rfl fun a w G S=>?_
    refine S.stepG (τ:=IT (((([rg,ra,rb,rc]).getD i default).val).num.sign)) 1 (OpR.call1 rfl c_16 (gSign_ok S.ok (FX.toQV (S.g 0 rfl)) (by decide))) rfl rfl rfl rfl rfl rfl fun a w G S=>?_
    refine S.stepG 2 (OpR.ileq S.ok rfl (S.e 0 rfl) (rfl : _ = nv .i64 0) MT.self) rfl rfl rfl rfl rfl rfl fun a w G S=>?_
    refine S.s (τ:=BT (decide ((((([rg,ra,rb,rc]).getD i default).val).num.sign) ≤ 0))) (OpR.pick S.ok rfl (S.e 3 rfl) (S.g 0 rfl)) rfl fun a w G S=>?_
    refine wpList_nil (hK _ _ ?_);clear hK K
    replace S:=S.d8.d7.d6.d5.d4.d3.d2.d1
    refine S.cond 0 rfl (fun hc9=>?_) (fun hc9=>?_)
    ·
     have hp10:=of_decide_eq_true hc9
     refine wp_reg fun K hK=>?_
     replace S:=S.d6
     refine S.s (τ:=BT true) (OpR.asn S.ok rfl rfl) rfl fun a w G S=>?_
     refine wpList_nil (hK _ _ ?_);clear hK K
     exact wp_ret (block_ret (then_ret (then_ret (block_ret (then_ret (S.retTmp rfl (S.g 0 rfl)))))))
    ·
     have hp11:=of_decide_eq_false hc9
     refine wp_skip ?_
     refine hK _ _ ?_;clear hK K
     refine wp_region_lit ?_
     refine S.s (OpR.nadd S.ok rfl (S.e 3 rfl) (rfl : _ = nv .i64 1) (wr_i64 (by omega)) MT.self) rfl fun a w G S=>?_
     replace S:=S.d4
     refine S.s (OpR.mv S.ok rfl (S.g 0 rfl)) rfl fun a w G S=>?_
     refine wpList_nil ?_
     replace S:=S.d1
     exact ⟨4 - (i + 1),(by omega),i + 1,_,rfl,(by omega),(posV_s hp ‹_›),(S.keep [0,4,5,6,7]).keepB [1] (by decide)⟩
  ·
   have hp12:=of_decide_eq_false hc4
   refine wp_exit (then_exit (then_exit (exit_same ?_)))
   clear hK K
   refine hK _ _ ?_;clear hK K
   refine wp_seq_k fun K hK=>?_
   have hi4 : i = 4:=by omega
   have h0p : 0 < rg.val:=hp 0 (by omega)
   have h1p : 0 < ra.val:=hp 1 (by omega)
   have h2p : 0 < rb.val:=hp 2 (by omega)
   have h3p : 0 < rc.val:=hp 3 (by omega)
   refine S.drawn [⟨37,.g (MT.ex (Value.pointer (some ⟨b1,(0) * (some 3 : Option Nat).getD 1,none⟩))),[]⟩,⟨38,.g (FX 64 (([rg,ra,rb,rc]).getD 0 default)),[0]⟩,⟨39,.g (MT.ex (Value.pointer (some ⟨b1,(0) * (some 3 : Option Nat).getD 1,none⟩))),[]⟩,⟨40,.g (FX 64 (([rg,ra,rb,rc]).getD 0 default)),[2]⟩,⟨41,.g (QC (64 + 64) (((([rg,ra,rb,rc]).getD 0 default).val) * ((([rg,ra,rb,rc]).getD 0 default).val))),[1,3]⟩,⟨42,.g (MT.ex (Value.pointer (some ⟨b1,(1) * (some 3 : Option Nat).getD 1,none⟩))),[]⟩,⟨43,.g (FX 64 (([rg,ra,rb,rc]).getD 1 default)),[5]⟩,⟨44,.g (MT.ex (Value.pointer (some ⟨b1,(1) * (some 3 : Option Nat).getD 1,none⟩))),[]⟩,⟨45,.g (FX 64 (([rg,ra,rb,rc]).getD 1 default)),[7]⟩,⟨46,.g (QC (64 + 64) (((([rg,ra,rb,rc]).getD 1 default).val) * ((([rg,ra,rb,rc]).getD 1 default).val))),[6,8]⟩,⟨47,.g (MT.ex (Value.pointer (some ⟨b1,(2) * (some 3 : Option Nat).getD 1,none⟩))),[]⟩,⟨48,.g (FX 64 (([rg,ra,rb,rc]).getD 2 default)),[10]⟩,⟨49,.g (MT.ex (Value.pointer (some ⟨b1,(2) * (some 3 : Option Nat).getD 1,none⟩))),[]⟩,⟨50,.g (FX 64 (([rg,ra,rb,rc]).getD 2 default)),[12]⟩,⟨51,.g (QC (64 + 64) (((([rg,ra,rb,rc]).getD 2 default).val) * ((([rg,ra,rb,rc]).getD 2 default).val))),[11,13]⟩,⟨52,.g (MT.ex (Value.pointer (some ⟨b1,(3) * (some 3 : Option Nat).getD 1,none⟩))),[]⟩,⟨53,.g (FX 64 (([rg,ra,rb,rc]).getD 3 default)),[15]⟩,⟨54,.g (MT.ex (Value.pointer (some ⟨b1,(3) * (some 3 : Option Nat).getD 1,none⟩))),[]⟩,⟨55,.g (FX 64 (([rg,ra,rb,rc]).getD 3 default)),[17]⟩,⟨56,.g (QC (64 + 64) (((([rg,ra,rb,rc]).getD 3 default).val) * ((([rg,ra,rb,rc]).getD 3 default).val))),[16,18]⟩,⟨57,.g (PTS [(some 3,FX 128 (FR.of (rg.val * rg.val))),(some 3,FX 128 (FR.of (ra.val * ra.val))),(some 3,FX 128 (FR.of (rb.val * rb.val))),(some 3,FX 128 (FR.of (rc.val * rc.val)))]),[4,9,14,19]⟩,⟨5,.al mkP 37 (some 12) (MT.ex (.agg #[.bool false,.slice none 0 0,.slice none 0 0,.bool false,.slice none 0 0,.slice none 0 0,.bool false,.slice none 0 0,.slice none 0 0,.bool false,.slice none 0 0,.slice none 0 0])),[]⟩] mixedOrders (by kernel_rfl)
    ⟨fun a w G S=>.of rfl (OpR.ixAr (i:=0) S.ok rfl Try.underlying48 tS_35 (S.e 5 rfl) (rfl : _ = nv .i64 0) rfl (of_decide_eq_true rfl) rfl),
     fun a w G S=>.of rfl (OpR.ldSM (k:=some 3) (T:=(FX 64)) (xs:=[rg,ra,rb,rc]) (i:=0) S.ok rfl (S.e 0 rfl) (S.box 0 rfl) tS_35 (of_decide_eq_true rfl)),
     fun a w G S=>.of rfl (OpR.ixAr (i:=0) S.ok rfl Try.underlying48 tS_35 (S.e 5 rfl) (rfl : _ = nv .i64 0) rfl (of_decide_eq_true rfl) rfl),
     fun a w G S=>.of rfl (OpR.ldSM (k:=some 3) (T:=(FX 64)) (xs:=[rg,ra,rb,rc]) (i:=0) S.ok rfl (S.e 0 rfl) (S.box 0 rfl) tS_35 (of_decide_eq_true rfl)),
     fun a w G S=>.of rfl (OpR.call2 rfl c_18 (fMul_ok S.ok (FX.toQV (S.g 0 rfl)) (FX.toQV (S.g 1 rfl)) (by decide))),
     fun a w G S=>.of rfl (OpR.ixAr (i:=1) S.ok rfl Try.underlying48 tS_35 (S.e 5 rfl) (rfl : _ = nv .i64 1) rfl (of_decide_eq_true rfl) rfl),
     fun a w G S=>.of rfl (OpR.ldSM (k:=some 3) (T:=(FX 64)) (xs:=[rg,ra,rb,rc]) (i:=1) S.ok rfl (S.e 0 rfl) (S.box 0 rfl) tS_35 (of_decide_eq_true rfl)),
     fun a w G S=>.of rfl (OpR.ixAr (i:=1) S.ok rfl Try.underlying48 tS_35 (S.e 5 rfl) (rfl : _ = nv .i64 1) rfl (of_decide_eq_true rfl) rfl),
     fun a w G S=>.of rfl (OpR.ldSM (k:=some 3) (T:=(FX 64)) (xs:=[rg,ra,rb,rc]) (i:=1) S.ok rfl (S.e 0 rfl) (S.box 0 rfl) tS_35 (of_decide_eq_true rfl)),
     fun a w G S=>.of rfl (OpR.call2 rfl c_18 (fMul_ok S.ok (FX.toQV (S.g 0 rfl)) (FX.toQV (S.g 1 rfl)) (by decide))),
     fun a w G S=>.of rfl (OpR.ixAr (i:=2) S.ok rfl Try.underlying48 tS_35 (S.e 5 rfl) (rfl : _ = nv .i64 2) rfl (of_decide_eq_true rfl) rfl),
     fun a w G S=>.of rfl (OpR.ldSM (k:=some 3) (T:=(FX 64)) (xs:=[rg,ra,rb,rc]) (i:=2) S.ok rfl (S.e 0 rfl) (S.box 0 rfl) tS_35 (of_decide_eq_true rfl)),
     fun a w G S=>.of rfl (OpR.ixAr (i:=2) S.ok rfl Try.underlying48 tS_35 (S.e 5 rfl) (rfl : _ = nv .i64 2) rfl (of_decide_eq_true rfl) rfl),
     fun a w G S=>.of rfl (OpR.ldSM (k:=some 3) (T:=(FX 64)) (xs:=[rg,ra,rb,rc]) (i:=2) S.ok rfl (S.e 0 rfl) (S.box 0 rfl) tS_35 (of_decide_eq_true rfl)),
     fun a w G S=>.of rfl (OpR.call2 rfl c_18 (fMul_ok S.ok (FX.toQV (S.g 0 rfl)) (FX.toQV (S.g 1 rfl)) (by decide))),
     fun a w G S=>.of rfl (OpR.ixAr (i:=3) S.ok rfl Try.underlying48 tS_35 (S.e 5 rfl) (rfl : _ = nv .i64 3) rfl (of_decide_eq_true rfl) rfl),
     fun a w G S=>.of rfl (OpR.ldSM (k:=some 3) (T:=(FX 64)) (xs:=[rg,ra,rb,rc]) (i:=3) S.ok rfl (S.e 0 rfl) (S.box 0 rfl) tS_35 (of_decide_eq_true rfl)),
     fun a w G S=>.of rfl (OpR.ixAr (i:=3) S.ok rfl Try.underlying48 tS_35 (S.e 5 rfl) (rfl : _ = nv .i64 3) rfl (of_decide_eq_true rfl) rfl),
     fun a w G S=>.of rfl (OpR.ldSM (k:=some 3) (T:=(FX 64)) (xs:=[rg,ra,rb,rc]) (i:=3) S.ok rfl (S.e 0 rfl) (S.box 0 rfl) tS_35 (of_decide_eq_true rfl)),
     fun a w G S=>.of rfl (OpR.call2 rfl c_18 (fMul_ok S.ok (FX.toQV (S.g 0 rfl)) (FX.toQV (S.g 1 rfl)) (by decide))),
     fun a w G S=>.of rfl (OpR.bldP (us:=[a.eval (.tmp 41),a.eval (.tmp 46),a.eval (.tmp 51),a.eval (.tmp 56)]) S.ok rfl (by simp only [List.map_toArray,List.map_cons,List.map_nil];exact bp_37_0_1_2_3 (u0:=a.eval (.tmp 41)) (u1:=a.eval (.tmp 46)) (u2:=a.eval (.tmp 51)) (u3:=a.eval (.tmp 56)) (sh (τ:=QC (64 + 64) (((([rg,ra,rb,rc]).getD 0 default).val) * ((([rg,ra,rb,rc]).getD 0 default).val))) (S.g 0 rfl)) (sh (τ:=QC (64 + 64) (((([rg,ra,rb,rc]).getD 1 default).val) * ((([rg,ra,rb,rc]).getD 1 default).val))) (S.g 1 rfl)) (sh (τ:=QC (64 + 64) (((([rg,ra,rb,rc]).getD 2 default).val) * ((([rg,ra,rb,rc]).getD 2 default).val))) (S.g 2 rfl)) (sh (τ:=QC (64 + 64) (((([rg,ra,rb,rc]).getD 3 default).val) * ((([rg,ra,rb,rc]).getD 3 default).val))) (S.g 3 rfl))) rfl (pts_cons (sh (τ:=FX 128 (FR.of (rg.val * rg.val))) (FX.eq (FX.up (QC.toFX (S.g 0 rfl) (by first | decide | omega)) (by first | decide | omega)) (by first | rfl | omega | (simp only [Nat.zero_add,Nat.add_zero];done) | (simp;done) | (push_cast;omega)))) (FX.eq (FX.up (QC.toFX (S.g 0 rfl) (by first | decide | omega)) (by first | decide | omega)) (by first | rfl | omega | (simp only [Nat.zero_add,Nat.add_zero];done) | (simp;done) | (push_cast;omega))) (pts_cons (sh (τ:=FX 128 (FR.of (ra.val * ra.val))) (FX.eq (FX.up (QC.toFX (S.g 1 rfl) (by first | decide | omega)) (by first | decide | omega)) (by first | rfl | omega | (simp only [Nat.zero_add,Nat.add_zero];done) | (simp;done) | (push_cast;omega)))) (FX.eq (FX.up (QC.toFX (S.g 1 rfl) (by first | decide | omega)) (by first | decide | omega)) (by first | rfl | omega | (simp only [Nat.zero_add,Nat.add_zero];done) | (simp;done) | (push_cast;omega))) (pts_cons (sh (τ:=FX 128 (FR.of (rb.val * rb.val))) (FX.eq (FX.up (QC.toFX (S.g 2 rfl) (by first | decide | omega)) (by first | decide | omega)) (by first | rfl | omega | (simp only [Nat.zero_add,Nat.add_zero];done) | (simp;done) | (push_cast;omega)))) (FX.eq (FX.up (QC.toFX (S.g 2 rfl) (by first | decide | omega)) (by first | decide | omega)) (by first | rfl | omega | (simp only [Nat.zero_add,Nat.add_zero];done) | (simp;done) | (push_cast;omega))) (pts_cons (sh (τ:=FX 128 (FR.of (rc.val * rc.val))) (FX.eq (FX.up (QC.toFX (S.g 3 rfl) (by first | decide | omega)) (by first | decide | omega)) (by first | rfl | omega | (simp only [Nat.zero_add,Nat.add_zero];done) | (simp;done) | (push_cast;omega)))) (FX.eq (FX.up (QC.toFX (S.g 3 rfl) (by first | decide | omega)) (by first | decide | omega)) (by first | rfl | omega | (simp only [Nat.zero_add,Nat.add_zero];done) | (simp;done) | (push_cast;omega))) pts_nil))))),
     ⟨fun _=>rfl,rfl,fun a w G S=>OpB.alloc S.ok rfl z_37 zs_37⟩,trivial⟩ fun β a w G S=>?_
   replace S : St W0 G0 141 [(5,PB (β 21)),(57,PTS [(some 3,FX 128 (FR.of (rg.val * rg.val))),(some 3,FX 128 (FR.of (ra.val * ra.val))),(some 3,FX 128 (FR.of (rb.val * rb.val))),(some 3,FX 128 (FR.of (rc.val * rc.val)))]),(56,QC (64 + 64) (((([rg,ra,rb,rc]).getD 3 default).val) * ((([rg,ra,rb,rc]).getD 3 default).val))),(55,FX 64 (([rg,ra,rb,rc]).getD 3 default)),(54,MT.ex (Value.pointer (some ⟨b1,(3) * (some 3 : Option Nat).getD 1,none⟩))),(53,FX 64 (([rg,ra,rb,rc]).getD 3 default)),(52,MT.ex (Value.pointer (some ⟨b1,(3) * (some 3 : Option Nat).getD 1,none⟩))),(51,QC (64 + 64) (((([rg,ra,rb,rc]).getD 2 default).val) * ((([rg,ra,rb,rc]).getD 2 default).val))),(50,FX 64 (([rg,ra,rb,rc]).getD 2 default)),(49,MT.ex (Value.pointer (some ⟨b1,(2) * (some 3 : Option Nat).getD 1,none⟩))),(48,FX 64 (([rg,ra,rb,rc]).getD 2 default)),(47,MT.ex (Value.pointer (some ⟨b1,(2) * (some 3 : Option Nat).getD 1,none⟩))),(46,QC (64 + 64) (((([rg,ra,rb,rc]).getD 1 default).val) * ((([rg,ra,rb,rc]).getD 1 default).val))),(45,FX 64 (([rg,ra,rb,rc]).getD 1 default)),(44,MT.ex (Value.pointer (some ⟨b1,(1) * (some 3 : Option Nat).getD 1,none⟩))),(43,FX 64 (([rg,ra,rb,rc]).getD 1 default)),(42,MT.ex (Value.pointer (some ⟨b1,(1) * (some 3 : Option Nat).getD 1,none⟩))),(41,QC (64 + 64) (((([rg,ra,rb,rc]).getD 0 default).val) * ((([rg,ra,rb,rc]).getD 0 default).val))),(40,FX 64 (([rg,ra,rb,rc]).getD 0 default)),(39,MT.ex (Value.pointer (some ⟨b1,(0) * (some 3 : Option Nat).getD 1,none⟩))),(38,FX 64 (([rg,ra,rb,rc]).getD 0 default)),(37,MT.ex (Value.pointer (some ⟨b1,(0) * (some 3 : Option Nat).getD 1,none⟩))),(26,BT (decide (i < 4))),(25,NT i),(24,ARN (some 3) (([rg,ra,rb,rc]).map (FX 64))),(22,BT (!(shortF ([rg,ra,rb,rc])))),(2,BT false),(1,PB b1)] [⟨(β 21),37,some 12,MT.ex ((.agg #[.bool false,.slice none 0 0,.slice none 0 0,.bool false,.slice none 0 0,.slice none 0 0,.bool false,.slice none 0 0,.slice none 0 0,.bool false,.slice none 0 0,.slice none 0 0] : Value))⟩,⟨b1,48,some 12,ROWS (some 3) (([rg,ra,rb,rc]).map (FX 64))⟩] a _ _:=S
   generalize β 21 = b5 at S
   refine S.store (τ:=PTS [(some 3,FX 128 (FR.of (rg.val * rg.val))),(some 3,FX 128 (FR.of (ra.val * ra.val))),(some 3,FX 128 (FR.of (rb.val * rb.val))),(some 3,FX 128 (FR.of (rc.val * rc.val)))]) 0 rfl rfl rfl rfl (S.e 0 rfl) tS_37 (S.g 1 rfl) (sh (τ:=PTS [(some 3,FX 128 (FR.of (rg.val * rg.val))),(some 3,FX 128 (FR.of (ra.val * ra.val))),(some 3,FX 128 (FR.of (rb.val * rb.val))),(some 3,FX 128 (FR.of (rc.val * rc.val)))]) (S.g 1 rfl)) fun w S=>?_
   replace S:=S.n0
   refine wpList_nil (hK _ _ ?_);clear hK K
   replace S:=S.d21.d20.d19.d18.d17.d16.d15.d14.d13.d12.d11.d10.d9.d8.d7.d6.d5.d4.d3.d2.d1
   refine wp_seq_k fun K hK=>?_
   refine S.drawnS [⟨58,.g (QR false ([]) ([])),[]⟩,⟨59,.g (MT.ex (Value.pointer (some ⟨b1,(0) * (some 3 : Option Nat).getD 1,none⟩))),[]⟩,⟨60,.g (FX 64 (([rg,ra,rb,rc]).getD 0 default)),[1]⟩,⟨61,.g (MT.ex (Value.pointer (some ⟨b1,(0) * (some 3 : Option Nat).getD 1,none⟩))),[]⟩,⟨62,.g (FX 64 (([rg,ra,rb,rc]).getD 0 default)),[3]⟩,⟨6,.al mkP 35 (some 3) (MT.ex (.agg #[.bool false,.slice none 0 0,.slice none 0 0])),[]⟩,⟨7,.al mkP 35 (some 3) (MT.ex (.agg #[.bool false,.slice none 0 0,.slice none 0 0])),[]⟩,⟨8,.al mkP 35 (some 3) (MT.ex (.agg #[.bool false,.slice none 0 0,.slice none 0 0])),[]⟩,⟨9998,.st 7 (QR false ([]) ([])),[5,0]⟩,⟨9998,.st 8 (FX 64 (([rg,ra,rb,rc]).getD 0 default)),[6,2]⟩,⟨9998,.st 9 (FX 64 (([rg,ra,rb,rc]).getD 0 default)),[7,4]⟩] mixedOrders (by kernel_rfl)
    ⟨⟨rfl,fun a w G S=>.of rfl (OpR.bQ0 S.ok rfl bt_35_)⟩,
     ⟨rfl,fun a w G S=>.of rfl (OpR.ixAr (i:=0) S.ok rfl Try.underlying48 tS_35 (S.e 6 rfl) (rfl : _ = nv .i64 0) rfl (of_decide_eq_true rfl) rfl)⟩,
     ⟨rfl,fun a w G S=>have S:=S.boxes (B':=[⟨b5,37,some 12,PTS [(some 3,FX 128 (FR.of (rg.val * rg.val))),(some 3,FX 128 (FR.of (ra.val * ra.val))),(some 3,FX 128 (FR.of (rb.val * rb.val))),(some 3,FX 128 (FR.of (rc.val * rc.val)))]⟩,⟨b1,48,some 12,ROWS (some 3) (([rg,ra,rb,rc]).map (FX 64))⟩]) (by kernel_rfl);OpG.of rfl (OpR.ldSM (k:=some 3) (T:=(FX 64)) (xs:=[rg,ra,rb,rc]) (i:=0) S.ok rfl (S.e 0 rfl) (S.box 1 rfl) tS_35 (of_decide_eq_true rfl))⟩,
     ⟨rfl,fun a w G S=>.of rfl (OpR.ixAr (i:=0) S.ok rfl Try.underlying48 tS_35 (S.e 6 rfl) (rfl : _ = nv .i64 0) rfl (of_decide_eq_true rfl) rfl)⟩,
     ⟨rfl,fun a w G S=>have S:=S.boxes (B':=[⟨b5,37,some 12,PTS [(some 3,FX 128 (FR.of (rg.val * rg.val))),(some 3,FX 128 (FR.of (ra.val * ra.val))),(some 3,FX 128 (FR.of (rb.val * rb.val))),(some 3,FX 128 (FR.of (rc.val * rc.val)))]⟩,⟨b1,48,some 12,ROWS (some 3) (([rg,ra,rb,rc]).map (FX 64))⟩]) (by kernel_rfl);OpG.of rfl (OpR.ldSM (k:=some 3) (T:=(FX 64)) (xs:=[rg,ra,rb,rc]) (i:=0) S.ok rfl (S.e 0 rfl) (S.box 1 rfl) tS_35 (of_decide_eq_true rfl))⟩,
     ⟨rfl,fun _=>rfl,rfl,fun a w G S=>OpB.alloc S.ok rfl z_35 zs_35⟩,
     ⟨rfl,fun _=>rfl,rfl,fun a w G S=>OpB.alloc S.ok rfl z_35 zs_35⟩,
     ⟨rfl,fun _=>rfl,rfl,fun a w G S=>OpB.alloc S.ok rfl z_35 zs_35⟩,
     ⟨rfl,rfl,rfl,.inl ⟨_,_,_,_,rfl,tS_35,fun a w G S=>⟨(S.g 0 rfl),sh (τ:=QR false ([]) ([])) (S.g 0 rfl)⟩,by rw [if_neg (by simp only [List.length_cons,List.length_nil];omega)];exact ⟨_,_,_,rfl,rfl,rfl,rfl⟩⟩⟩,
     ⟨rfl,rfl,rfl,.inl ⟨_,_,_,_,rfl,tS_35,fun a w G S=>⟨(S.g 0 rfl),sh (τ:=FX 64 (([rg,ra,rb,rc]).getD 0 default)) (S.g 0 rfl)⟩,by rw [if_neg (by simp only [List.length_cons,List.length_nil];omega)];exact ⟨_,_,_,rfl,rfl,rfl,rfl⟩⟩⟩,
     ⟨rfl,rfl,rfl,.inl ⟨_,_,_,_,rfl,tS_35,fun a w G S=>⟨(S.g 0 rfl),sh (τ:=FX 64 (([rg,ra,rb,rc]).getD 0 default)) (S.g 0 rfl)⟩,by rw [if_neg (by simp only [List.length_cons,List.length_nil];omega)];exact ⟨_,_,_,rfl,rfl,rfl,rfl⟩⟩⟩,trivial⟩ fun β a w G S=>?_
   replace S : St W0 G0 141 [(8,PB (β 7)),(7,PB (β 6)),(6,PB (β 5)),(62,FX 64 (([rg,ra,rb,rc]).getD 0 default)),(61,MT.ex (Value.pointer (some ⟨b1,(0) * (some 3 : Option Nat).getD 1,none⟩))),(60,FX 64 (([rg,ra,rb,rc]).getD 0 default)),(59,MT.ex (Value.pointer (some ⟨b1,(0) * (some 3 : Option Nat).getD 1,none⟩))),(58,QR false ([]) ([])),(5,PB b5),(26,BT (decide (i < 4))),(25,NT i),(24,ARN (some 3) (([rg,ra,rb,rc]).map (FX 64))),(22,BT (!(shortF ([rg,ra,rb,rc])))),(2,BT false),(1,PB b1)] [⟨(β 7),35,some 3,FX 64 (([rg,ra,rb,rc]).getD 0 default)⟩,⟨(β 6),35,some 3,FX 64 (([rg,ra,rb,rc]).getD 0 default)⟩,⟨(β 5),35,some 3,QR false ([]) ([])⟩,⟨b5,37,some 12,PTS [(some 3,FX 128 (FR.of (rg.val * rg.val))),(some 3,FX 128 (FR.of (ra.val * ra.val))),(some 3,FX 128 (FR.of (rb.val * rb.val))),(some 3,FX 128 (FR.of (rc.val * rc.val)))]⟩,⟨b1,48,some 12,ROWS (some 3) (([rg,ra,rb,rc]).map (FX 64))⟩] a _ _:=S
   generalize β 5 = b6 at S
   generalize β 6 = b7 at S
   generalize β 7 = b8 at S
   refine wpList_nil (hK _ _ ?_);clear hK K
   replace S:=S.d7.d6.d5.d4.d3
   refine wp_seq_k fun K hK=>?_
   refine wp_reg fun K hK=>?_
   replace S:=S.castBox (τ':=QV ((0 + 1) * 65) (sumT [rg,ra,rb,rc] 0)) 2 rfl fun _ h _=>QR.toQV0 (by decide) h
   replace S:=S.castBox (τ':=QV 64 (minT [rg,ra,rb,rc] 0)) 1 rfl fun _ h _=>FX.toQV h
   replace S:=S.castBox (τ':=QV 64 (maxT [rg,ra,rb,rc] 0)) 0 rfl fun _ h _=>FX.toQV h
   refine S.s (OpR.ldArr S.ok rfl (S.e 9 rfl) (S.box 4 rfl) tS_48 (by first | rfl | (simp;done) | (simp;omega))) rfl fun a w G S=>?_
   refine S.s (τ:=NT 0) (OpR.mv S.ok rfl (rfl : _ = nv .i64 0)) rfl fun a w G S=>?_
   refine wpList_nil (hK _ _ ?_);clear hK K
   refine wp_block ?_
   refine wp_loopJ (fun μ a w=>∃ (k2 : Nat) (G : Gh),μ = 4 - k2 ∧ (k2 ≤ 4) ∧  St W0 G0 141 [(64,NT k2),(63,ARN (some 3) (([rg,ra,rb,rc]).map (FX 64))),(8,PB b8),(7,PB b7),(6,PB b6),(5,PB b5),(26,BT (decide (i < 4))),(25,NT i),(24,ARN (some 3) (([rg,ra,rb,rc]).map (FX 64))),(22,BT (!(shortF ([rg,ra,rb,rc])))),(2,BT false),(1,PB b1)] [⟨b8,35,some 3,QV 64 (maxT [rg,ra,rb,rc] k2)⟩,⟨b7,35,some 3,QV 64 (minT [rg,ra,rb,rc] k2)⟩,⟨b6,35,some 3,QV ((k2 + 1) * 65) (sumT [rg,ra,rb,rc] k2)⟩,⟨b5,37,some 12,PTS [(some 3,FX 128 (FR.of (rg.val * rg.val))),(some 3,FX 128 (FR.of (ra.val * ra.val))),(some 3,FX 128 (FR.of (rb.val * rb.val))),(some 3,FX 128 (FR.of (rc.val * rc.val)))]⟩,⟨b1,48,some 12,ROWS (some 3) (([rg,ra,rb,rc]).map (FX 64))⟩] a w G) (4 - 0) ⟨0,_,rfl,(by omega),(S.keep [0,1,2,3,4,5,6,7,8,9,10,11]).keepB [0,1,2,3,4] (by decide)⟩ ?_
   clear S
   intro μ a w ⟨k2,G,hm,hk2,S⟩
   refine wp_reg fun K hK=>?_
   refine S.s (OpR.nlss S.ok rfl (S.e 0 rfl) (rfl : _ = nv .i64 4) MT.self) rfl fun a w G S=>?_
   refine wpList_nil (hK _ _ ?_);clear hK K
   refine wp_seq_k fun K hK=>?_
   refine S.cond 0 rfl (fun hc13=>?_) (fun hc13=>?_)
   ·
    have hp14:=of_decide_eq_true hc13
    refine wp_skip ?_
    refine hK _ _ ?_;clear hK K
    refine wp_seq_k fun K hK=>?_
    refine wp_block ?_
    refine wp_reg fun K hK=>?_
    refine S.s (τ:=FX 64 (([rg,ra,rb,rc]).getD k2 default)) (OpR.ixV (T:=(FX 64)) (xs:=[rg,ra,rb,rc]) (i:=k2) S.ok rfl Try.underlying48 tS_35 (S.g 2 rfl) (S.e 1 rfl) rfl rfl (by first | omega | (simp only [List.length_set,List.length_take,List.length_drop,List.length_append,List.length_map,List.length_replicate];omega))) rfl fun a w G S=>?_
    refine S.alloc rfl rfl rfl z_35 zs_35 rfl rfl fun b10 a w G S=>?_
    refine S.store (τ:=FX 64 (([rg,ra,rb,rc]).getD k2 default)) 0 rfl rfl rfl rfl (S.e 0 rfl) tS_35 (S.g 1 rfl) (sh (τ:=FX 64 (([rg,ra,rb,rc]).getD k2 default)) (S.g 1 rfl)) fun w S=>?_
    replace S:=S.n0
    refine wpList_nil (hK _ _ ?_);clear hK K
    replace S:=S.d1
    refine S.drawn [⟨67,.g (QV ((k2 + 1) * 65) (sumT [rg,ra,rb,rc] k2)),[]⟩,⟨68,.g (FX 64 (([rg,ra,rb,rc]).getD k2 default)),[]⟩,⟨69,.g (QC (((k2 + 1) * 65) + 64 + 1) ((sumT [rg,ra,rb,rc] k2) + ((([rg,ra,rb,rc]).getD k2 default).val))),[0,1]⟩,⟨70,.g (QV 64 (minT [rg,ra,rb,rc] k2)),[]⟩,⟨71,.g (FX 64 (([rg,ra,rb,rc]).getD k2 default)),[]⟩,⟨72,.g (QC (max 64 64) (minQ (minT [rg,ra,rb,rc] k2) ((([rg,ra,rb,rc]).getD k2 default).val))),[3,4]⟩,⟨73,.g (QV 64 (maxT [rg,ra,rb,rc] k2)),[]⟩,⟨74,.g (FX 64 (([rg,ra,rb,rc]).getD k2 default)),[]⟩,⟨75,.g (QC (max 64 64) (maxQ (maxT [rg,ra,rb,rc] k2) ((([rg,ra,rb,rc]).getD k2 default).val))),[6,7]⟩] mixedOrders (by kernel_rfl)
     ⟨fun a w G S=>.of rfl (OpR.ldBox S.ok rfl (S.e 6 rfl) (S.box 3 rfl) tS_35),
      fun a w G S=>.of rfl (OpR.ldBox S.ok rfl (S.e 0 rfl) (S.box 0 rfl) tS_35),
      fun a w G S=>.of rfl (OpR.call2 rfl c_22 (fAdd_ok S.ok (S.g 0 rfl) (FX.toQV (S.g 1 rfl)) (by simp only [BIG];omega))),
      fun a w G S=>.of rfl (OpR.ldBox S.ok rfl (S.e 5 rfl) (S.box 2 rfl) tS_35),
      fun a w G S=>.of rfl (OpR.ldBox S.ok rfl (S.e 0 rfl) (S.box 0 rfl) tS_35),
      fun a w G S=>.of rfl (OpR.call2 rfl c_26 (fMin_ok S.ok (S.g 0 rfl) (FX.toQV (S.g 1 rfl)) (by decide))),
      fun a w G S=>.of rfl (OpR.ldBox S.ok rfl (S.e 4 rfl) (S.box 1 rfl) tS_35),
      fun a w G S=>.of rfl (OpR.ldBox S.ok rfl (S.e 0 rfl) (S.box 0 rfl) tS_35),
      fun a w G S=>.of rfl (OpR.call2 rfl c_27 (fMax_ok S.ok (S.g 0 rfl) (FX.toQV (S.g 1 rfl)) (by decide))),trivial⟩ fun β a w G S=>?_
    replace S : St W0 G0 141 [(75,QC (max 64 64) (maxQ (maxT [rg,ra,rb,rc] k2) ((([rg,ra,rb,rc]).getD k2 default).val))),(74,FX 64 (([rg,ra,rb,rc]).getD k2 default)),(73,QV 64 (maxT [rg,ra,rb,rc] k2)),(72,QC (max 64 64) (minQ (minT [rg,ra,rb,rc] k2) ((([rg,ra,rb,rc]).getD k2 default).val))),(71,FX 64 (([rg,ra,rb,rc]).getD k2 default)),(70,QV 64 (minT [rg,ra,rb,rc] k2)),(69,QC (((k2 + 1) * 65) + 64 + 1) ((sumT [rg,ra,rb,rc] k2) + ((([rg,ra,rb,rc]).getD k2 default).val))),(68,FX 64 (([rg,ra,rb,rc]).getD k2 default)),(67,QV ((k2 + 1) * 65) (sumT [rg,ra,rb,rc] k2)),(10,PB b10),(65,BT (decide (k2 < 4))),(64,NT k2),(63,ARN (some 3) (([rg,ra,rb,rc]).map (FX 64))),(8,PB b8),(7,PB b7),(6,PB b6),(5,PB b5),(26,BT (decide (i < 4))),(25,NT i),(24,ARN (some 3) (([rg,ra,rb,rc]).map (FX 64))),(22,BT (!(shortF ([rg,ra,rb,rc])))),(2,BT false),(1,PB b1)] [⟨b10,35,some 3,FX 64 (([rg,ra,rb,rc]).getD k2 default)⟩,⟨b8,35,some 3,QV 64 (maxT [rg,ra,rb,rc] k2)⟩,⟨b7,35,some 3,QV 64 (minT [rg,ra,rb,rc] k2)⟩,⟨b6,35,some 3,QV ((k2 + 1) * 65) (sumT [rg,ra,rb,rc] k2)⟩,⟨b5,37,some 12,PTS [(some 3,FX 128 (FR.of (rg.val * rg.val))),(some 3,FX 128 (FR.of (ra.val * ra.val))),(some 3,FX 128 (FR.of (rb.val * rb.val))),(some 3,FX 128 (FR.of (rc.val * rc.val)))]⟩,⟨b1,48,some 12,ROWS (some 3) (([rg,ra,rb,rc]).map (FX 64))⟩] a _ _:=S
    refine S.store (τ:=QC (((k2 + 1) * 65) + 64 + 1) ((sumT [rg,ra,rb,rc] k2) + ((([rg,ra,rb,rc]).getD k2 default).val))) 3 rfl rfl rfl rfl (S.e 15 rfl) tS_35 (S.g 6 rfl) (sh (τ:=QC (((k2 + 1) * 65) + 64 + 1) ((sumT [rg,ra,rb,rc] k2) + ((([rg,ra,rb,rc]).getD k2 default).val))) (S.g 6 rfl)) fun w S=>?_
    replace S:=S.n3
    refine S.store (τ:=QC (max 64 64) (minQ (minT [rg,ra,rb,rc] k2) ((([rg,ra,rb,rc]).getD k2 default).val))) 2 rfl rfl rfl rfl (S.e 14 rfl) tS_35 (S.g 3 rfl) (sh (τ:=QC (max 64 64) (minQ (minT [rg,ra,rb,rc] k2) ((([rg,ra,rb,rc]).getD k2 default).val))) (S.g 3 rfl)) fun w S=>?_
    replace S:=S.n2
    refine S.store (τ:=QC (max 64 64) (maxQ (maxT [rg,ra,rb,rc] k2) ((([rg,ra,rb,rc]).getD k2 default).val))) 1 rfl rfl rfl rfl (S.e 13 rfl) tS_35 (S.g 0 rfl) (sh (τ:=QC (max 64 64) (maxQ (maxT [rg,ra,rb,rc] k2) ((([rg,ra,rb,rc]).getD k2 default).val))) (S.g 0 rfl)) fun w S=>?_
    replace S:=S.n1
    refine wpList_nil ?_
    replace S:=S.d8.d7.d6.d5.d4.d3.d2.d1.d0
    refine hK _ _ ?_;clear hK K
    refine wp_region_lit ?_
    refine S.s (OpR.nadd S.ok rfl (S.e 2 rfl) (rfl : _ = nv .i64 1) (wr_i64 (by omega)) MT.self) rfl fun a w G S=>?_
    replace S:=S.d3
    refine S.s (OpR.mv S.ok rfl (S.g 0 rfl)) rfl fun a w G S=>?_
    refine wpList_nil ?_
    replace S:=S.d1
    replace S:=S.castBox (τ':=QV 64 (maxT [rg,ra,rb,rc] (k2 + 1))) 1 rfl fun _ h _=>(QC.toQV (QC.up h (by omega)))
    replace S:=S.n1
    replace S:=S.castBox (τ':=QV 64 (minT [rg,ra,rb,rc] (k2 + 1))) 2 rfl fun _ h _=>(QC.toQV (QC.up h (by omega)))
    replace S:=S.n2
    replace S:=S.castBox (τ':=QV (((k2 + 1) + 1) * 65) (sumT [rg,ra,rb,rc] (k2 + 1))) 3 rfl fun _ h _=>(QC.toQV (QC.up h (by omega)))
    replace S:=S.n3
    exact ⟨4 - (k2 + 1),(by omega),k2 + 1,_,rfl,(by omega),(S.keep [0,3,4,5,6,7,8,9,10,11,12,13]).keepB [1,2,3,4,5] (by decide)⟩
   ·
    have hp15:=of_decide_eq_false hc13
    refine wp_exit (then_exit (then_exit (exit_same ?_)))
    clear hK K
    refine hK _ _ ?_;clear hK K
    refine wp_reg fun K hK=>?_
    refine S.s (OpR.ldBox S.ok rfl (S.e 6 rfl) (S.box 3 rfl) tS_37) rfl fun a w G S=>?_
    refine S.s (τ:=MT.tup2 (IT (excRes [(FR.of (rg.val * rg.val)),(FR.of (ra.val * ra.val)),(FR.of (rb.val * rb.val)),(FR.of (rc.val * rc.val))])) (MT.ex (errV 51 (chkF [(FR.of (rg.val * rg.val)),(FR.of (ra.val * ra.val)),(FR.of (rb.val * rb.val)),(FR.of (rc.val * rc.val))])))) (OpR.call1 rfl c_24 (xExcess_ok S.ok (S.g 0 rfl) (by decide) (by decide))) rfl fun a w G S=>?_
    refine S.s (OpR.mv S.ok rfl (S.g 0 rfl)) rfl fun a w G S=>?_
    refine S.s (OpR.ext2a S.ok rfl (S.g 0 rfl)) rfl fun a w G S=>?_
    refine S.s (OpR.ext2b S.ok rfl (S.g 1 rfl)) rfl fun a w G S=>?_
    refine S.s (OpR.asn S.ok rfl (S.g 1 rfl)) rfl fun a w G S=>?_
    refine S.s (OpR.asn S.ok rfl (S.g 1 rfl)) rfl fun a w G S=>?_
    refine wpList_nil (hK _ _ ?_);clear hK K
    replace S:=S.d6.d5.d4.d3.d2
    refine wp_seq_k fun K hK=>?_
    refine wp_seq_k fun K hK=>?_
    have hk4 : k2 = 4:=by omega
    refine S.drawn [⟨82,.g (QV 64 (maxT [rg,ra,rb,rc] k2)),[]⟩,⟨83,.g (QV 64 (maxT [rg,ra,rb,rc] k2)),[]⟩,⟨84,.g (QC (64 + 64 + 1) ((maxT [rg,ra,rb,rc] k2) + (maxT [rg,ra,rb,rc] k2))),[0,1]⟩,⟨85,.g (QV ((k2 + 1) * 65) (sumT [rg,ra,rb,rc] k2)),[]⟩,⟨86,.g (IT (cmpQ ((maxT [rg,ra,rb,rc] k2) + (maxT [rg,ra,rb,rc] k2)) (sumT [rg,ra,rb,rc] k2))),[2,3]⟩,⟨87,.g (BT (decide ((cmpQ ((maxT [rg,ra,rb,rc] k2) + (maxT [rg,ra,rb,rc] k2)) (sumT [rg,ra,rb,rc] k2)) > 0))),[4]⟩] mixedOrders (by kernel_rfl)
     ⟨fun a w G S=>.of rfl (OpR.ldBox S.ok rfl (S.e 5 rfl) (S.box 0 rfl) tS_35),
      fun a w G S=>.of rfl (OpR.ldBox S.ok rfl (S.e 5 rfl) (S.box 0 rfl) tS_35),
      fun a w G S=>.of rfl (OpR.call2 rfl c_22 (fAdd_ok S.ok (S.g 0 rfl) (S.g 1 rfl) (by decide))),
      fun a w G S=>.of rfl (OpR.ldBox S.ok rfl (S.e 7 rfl) (S.box 2 rfl) tS_35),
      fun a w G S=>.of rfl (OpR.call2 rfl c_25 (fCmp_ok S.ok (QC.toQV (S.g 0 rfl)) (S.g 1 rfl) (by simp only [BIG];omega))),
      fun a w G S=>.of rfl (OpR.igtr S.ok rfl (S.e 0 rfl) (rfl : _ = nv .i64 0) MT.self),trivial⟩ fun β a w G S=>?_
    replace S : St W0 G0 141 [(87,BT (decide ((cmpQ ((maxT [rg,ra,rb,rc] k2) + (maxT [rg,ra,rb,rc] k2)) (sumT [rg,ra,rb,rc] k2)) > 0))),(86,IT (cmpQ ((maxT [rg,ra,rb,rc] k2) + (maxT [rg,ra,rb,rc] k2)) (sumT [rg,ra,rb,rc] k2))),(85,QV ((k2 + 1) * 65) (sumT [rg,ra,rb,rc] k2)),(84,QC (64 + 64 + 1) ((maxT [rg,ra,rb,rc] k2) + (maxT [rg,ra,rb,rc] k2))),(83,QV 64 (maxT [rg,ra,rb,rc] k2)),(82,QV 64 (maxT [rg,ra,rb,rc] k2)),(12,MT.ex (errV 51 (chkF [(FR.of (rg.val * rg.val)),(FR.of (ra.val * ra.val)),(FR.of (rb.val * rb.val)),(FR.of (rc.val * rc.val))]))),(11,IT (excRes [(FR.of (rg.val * rg.val)),(FR.of (ra.val * ra.val)),(FR.of (rb.val * rb.val)),(FR.of (rc.val * rc.val))])),(65,BT (decide (k2 < 4))),(64,NT k2),(63,ARN (some 3) (([rg,ra,rb,rc]).map (FX 64))),(8,PB b8),(7,PB b7),(6,PB b6),(5,PB b5),(26,BT (decide (i < 4))),(25,NT i),(24,ARN (some 3) (([rg,ra,rb,rc]).map (FX 64))),(22,BT (!(shortF ([rg,ra,rb,rc])))),(2,BT false),(1,PB b1)] [⟨b8,35,some 3,QV 64 (maxT [rg,ra,rb,rc] k2)⟩,⟨b7,35,some 3,QV 64 (minT [rg,ra,rb,rc] k2)⟩,⟨b6,35,some 3,QV ((k2 + 1) * 65) (sumT [rg,ra,rb,rc] k2)⟩,⟨b5,37,some 12,PTS [(some 3,FX 128 (FR.of (rg.val * rg.val))),(some 3,FX 128 (FR.of (ra.val * ra.val))),(some 3,FX 128 (FR.of (rb.val * rb.val))),(some 3,FX 128 (FR.of (rc.val * rc.val)))]⟩,⟨b1,48,some 12,ROWS (some 3) (([rg,ra,rb,rc]).map (FX 64))⟩] a _ _:=S
    refine wpList_nil (hK _ _ ?_);clear hK K
    replace S:=S.d5.d4.d3.d2.d1
    refine S.cond 0 rfl (fun hc16=>?_) (fun hc16=>?_)
    ·
     have hp17:=of_decide_eq_true hc16
     have hbad:=len_bad h0p h1p h2p h3p (by rw [hk4] at hp17;exact hp17)
     refine wp_reg fun K hK=>?_
     refine S.s (OpR.mv S.ok rfl (S.g 2 rfl)) rfl fun a w G S=>?_
     refine S.s (τ:=BT true) (OpR.zeql S.ok rfl (S.e 0 rfl) (rfl : _ = nv .i64 0) (bv_eq (decide_eq_true (by unfold excRes;rw [hbad];rfl)))) rfl fun a w G S=>?_
     refine S.s (OpR.mv S.ok rfl (S.g 0 rfl)) rfl fun a w G S=>?_
     refine S.stepG 0 (OpR.mv S.ok rfl (S.g 4 rfl)) rfl rfl rfl rfl rfl rfl fun a w G S=>?_
     refine S.stepG (τ:=BT true) 1 (OpR.conv' (OpR.call2 rfl c_28 (bIs_ok S.ok ((S.e 0 rfl).trans (by first | rfl | omega | (simp only [Nat.zero_add,Nat.add_zero];done) | (simp;done) | (push_cast;omega))) ((rfl : _ = nv .i64 16).trans (iv_eq (by first | rfl | omega | (simp only [Nat.zero_add,Nat.add_zero];done) | (simp;done) | (push_cast;omega)))))) fun _ _ h=>(h.trans (bv_eq (decide_eq_true hbad)))) rfl rfl rfl rfl rfl rfl fun a w G S=>?_
     refine S.s (τ:=BT true) (OpR.pick S.ok rfl (S.e 2 rfl) (S.g 0 rfl)) rfl fun a w G S=>?_
     replace S:=S.d20
     refine S.s (OpR.asn S.ok rfl (S.g 0 rfl)) rfl fun a w G S=>?_
     refine wpList_nil (hK _ _ ?_);clear hK K
     replace S:=S.d6.d5.d4.d3.d2.d1
     exact wp_ret (then_ret (S.retTmp rfl (S.g 0 rfl)))
    ·
     have hp18:=of_decide_eq_false hc16
     have hck:=len_ok h0p h1p h2p h3p (by rw [hk4] at hp18;exact hp18)
     refine wp_skip ?_
     refine hK _ _ ?_;clear hK K
     refine wp_reg fun K hK=>?_
     refine S.s (OpR.ldBox S.ok rfl (S.e 7 rfl) (S.box 1 rfl) tS_35) rfl fun a w G S=>?_
     refine S.s (OpR.ldBox S.ok rfl (S.e 7 rfl) (S.box 0 rfl) tS_35) rfl fun a w G S=>?_
     refine S.s (τ:=QC (64 + 64 + 1) ((minT [rg,ra,rb,rc] k2) + (maxT [rg,ra,rb,rc] k2))) (OpR.call2 rfl c_22 (fAdd_ok S.ok (S.g 1 rfl) (S.g 0 rfl) (by decide))) rfl fun a w G S=>?_
     refine S.alloc rfl rfl rfl z_35 zs_35 rfl rfl fun b13 a w G S=>?_
     refine S.store (τ:=QC (64 + 64 + 1) ((minT [rg,ra,rb,rc] k2) + (maxT [rg,ra,rb,rc] k2))) 0 rfl rfl rfl rfl (S.e 0 rfl) tS_35 (S.g 1 rfl) (sh (τ:=QC (64 + 64 + 1) ((minT [rg,ra,rb,rc] k2) + (maxT [rg,ra,rb,rc] k2))) (S.g 1 rfl)) fun w S=>?_
     replace S:=S.n0
     refine wpList_nil (hK _ _ ?_);clear hK K
     replace S:=S.d3.d2.d1
     refine wp_reg fun K hK=>?_
     replace S:=S.castBox (τ':=QC 130 (minT [rg,ra,rb,rc] k2 + maxT [rg,ra,rb,rc] k2)) 0 rfl fun _ h _=>QC.up h (by decide)
     refine S.s (τ:=PB b5) (OpR.fldA S.ok rfl (S.e 10 rfl) fo_37_0 rfl) rfl fun a w G S=>?_
     refine S.s (OpR.ldPart S.ok rfl (S.e 0 rfl) (S.box 4 rfl) tS_35 fun _ h hs=>part_load (PTS.part 0 rfl rfl h hs) rfl) rfl fun a w G S=>?_
     refine S.s (τ:=MT.ex (Value.pointer (some ⟨b5,3,none⟩))) (OpR.fldA S.ok rfl (S.e 12 rfl) fo_37_1 rfl) rfl fun a w G S=>?_
     refine S.s (OpR.ldPart S.ok rfl (S.e 0 rfl) (S.box 4 rfl) tS_35 fun _ h hs=>part_load (PTS.part 1 rfl rfl h hs) rfl) rfl fun a w G S=>?_
     refine S.s (τ:=LS (some 3) (([FR.of (rg.val * rg.val),FR.of (ra.val * ra.val)]).map (FX 128))) (OpR.buildS (k:=some 3) (τs:=[FR.of (rg.val * rg.val),FR.of (ra.val * ra.val)].map (FX 128)) (us:=[a.eval (.tmp 99),a.eval (.tmp 101)]) S.ok rfl Try.underlying22 el_35 rfl (by decide) (by decide) (by simp [Act.eval]) rfl (Els.cons (sh (τ:=FX 128 (FR.of (rg.val * rg.val))) (S.g 2 rfl)) (S.g 2 rfl) (Els.cons (sh (τ:=FX 128 (FR.of (ra.val * ra.val))) (S.g 0 rfl)) (S.g 0 rfl) Els.nil))) rfl fun a w G S=>?_
     refine S.s (τ:=MT.ex (Value.pointer (some ⟨b5,6,none⟩))) (OpR.fldA S.ok rfl (S.e 15 rfl) fo_37_2 rfl) rfl fun a w G S=>?_
     refine S.s (OpR.ldPart S.ok rfl (S.e 0 rfl) (S.box 4 rfl) tS_35 fun _ h hs=>part_load (PTS.part 2 rfl rfl h hs) rfl) rfl fun a w G S=>?_
     refine S.s (τ:=MT.ex (Value.pointer (some ⟨b5,9,none⟩))) (OpR.fldA S.ok rfl (S.e 17 rfl) fo_37_3 rfl) rfl fun a w G S=>?_
     refine S.s (OpR.ldPart S.ok rfl (S.e 0 rfl) (S.box 4 rfl) tS_35 fun _ h hs=>part_load (PTS.part 3 rfl rfl h hs) rfl) rfl fun a w G S=>?_
     refine S.s (τ:=LS (some 3) (([FR.of (rb.val * rb.val),FR.of (rc.val * rc.val)]).map (FX 128))) (OpR.buildS (k:=some 3) (τs:=[FR.of (rb.val * rb.val),FR.of (rc.val * rc.val)].map (FX 128)) (us:=[a.eval (.tmp 104),a.eval (.tmp 106)]) S.ok rfl Try.underlying22 el_35 rfl (by decide) (by decide) (by simp [Act.eval]) rfl (Els.cons (sh (τ:=FX 128 (FR.of (rb.val * rb.val))) (S.g 2 rfl)) (S.g 2 rfl) (Els.cons (sh (τ:=FX 128 (FR.of (rc.val * rc.val))) (S.g 0 rfl)) (S.g 0 rfl) Els.nil))) rfl fun a w G S=>?_
     refine S.s (τ:=MT.tup2 (IT (cmpRes ([FR.of (rg.val * rg.val),FR.of (ra.val * ra.val)]) ([FR.of (rb.val * rb.val),FR.of (rc.val * rc.val)]))) (MT.ex (errV 51 (cmpCode ([FR.of (rg.val * rg.val),FR.of (ra.val * ra.val)]) ([FR.of (rb.val * rb.val),FR.of (rc.val * rc.val)]))))) (OpR.call2 rfl c_11 (xCompare_ok S.ok (LS.eqM (S.g 5 rfl) (by first | rfl | omega | (simp only [Nat.zero_add,Nat.add_zero];done) | (simp;done) | (push_cast;omega))) (LS.eqM (S.g 0 rfl) (by first | rfl | omega | (simp only [Nat.zero_add,Nat.add_zero];done) | (simp;done) | (push_cast;omega))) (by decide) (by decide))) rfl fun a w G S=>?_
     refine S.s (OpR.mv S.ok rfl (S.g 0 rfl)) rfl fun a w G S=>?_
     refine S.s (OpR.ext2a S.ok rfl (S.g 0 rfl)) rfl fun a w G S=>?_
     refine S.s (OpR.ext2b S.ok rfl (S.g 1 rfl)) rfl fun a w G S=>?_
     refine S.s (τ:=IT (cmpQ (rg.val + ra.val) (rb.val + rc.val))) (OpR.asn S.ok rfl ((S.e 1 rfl).trans (iv_eq (len_cmp h0p h1p h2p h3p)))) rfl fun a w G S=>?_
     refine S.s (τ:=MT.ex (errV 51 (0))) (OpR.asn S.ok rfl ((S.e 1 rfl).trans (congrArg (errV 51) (len_code h0p h1p h2p h3p)))) rfl fun a w G S=>?_
     refine wpList_nil (hK _ _ ?_);clear hK K
     replace S:=S.d15.d14.d13.d12.d11.d10.d9.d8.d7.d6.d5.d4.d3.d2
     refine wp_seq_k fun K hK=>?_
     replace S:=S.d17
     refine S.drawn [⟨111,.g (MT.ex (errV 51 (0))),[]⟩,⟨112,.g (BT true),[0]⟩,⟨113,.g (BT true),[1]⟩,⟨114,.g (MT.ex (errV 51 (0))),[2]⟩,⟨115,.g (BT true),[3,2]⟩,⟨116,.g (BT true),[2,4]⟩,⟨117,.g (BT true),[5]⟩,⟨118,.g (IT (excF [FR.of (rg.val * rg.val),FR.of (ra.val * ra.val),FR.of (rb.val * rb.val),FR.of (rc.val * rc.val)])),[6]⟩,⟨119,.g (QC 130 (minT [rg,ra,rb,rc] k2 + maxT [rg,ra,rb,rc] k2)),[6]⟩,⟨120,.g (QC 130 (minT [rg,ra,rb,rc] k2 + maxT [rg,ra,rb,rc] k2)),[6]⟩,⟨121,.g (QC (130 + 130 + 1) ((minT [rg,ra,rb,rc] k2 + maxT [rg,ra,rb,rc] k2) + (minT [rg,ra,rb,rc] k2 + maxT [rg,ra,rb,rc] k2))),[8,9,6]⟩,⟨122,.g (QV ((k2 + 1) * 65) (sumT [rg,ra,rb,rc] k2)),[6]⟩,⟨123,.g (IT (cmpQ ((minT [rg,ra,rb,rc] k2 + maxT [rg,ra,rb,rc] k2) + (minT [rg,ra,rb,rc] k2 + maxT [rg,ra,rb,rc] k2)) (sumT [rg,ra,rb,rc] k2))),[10,11,6]⟩,⟨124,.g (BT true),[7,12,6]⟩,⟨125,.g (BT true),[6,13]⟩,⟨126,.g (BT true),[14]⟩,⟨127,.g (IT (cmpQ (rg.val + ra.val) (rb.val + rc.val))),[15]⟩,⟨128,.g (MT.ex (Value.pointer (some ⟨b1,(0) * (some 3 : Option Nat).getD 1,none⟩))),[15]⟩,⟨129,.g (FX 64 (([rg,ra,rb,rc]).getD 0 default)),[17,15]⟩,⟨130,.g (MT.ex (Value.pointer (some ⟨b1,(1) * (some 3 : Option Nat).getD 1,none⟩))),[15]⟩,⟨131,.g (FX 64 (([rg,ra,rb,rc]).getD 1 default)),[19,15]⟩,⟨132,.g (QC (64 + 64 + 1) (((([rg,ra,rb,rc]).getD 0 default).val) + ((([rg,ra,rb,rc]).getD 1 default).val))),[18,20,15]⟩,⟨133,.g (MT.ex (Value.pointer (some ⟨b1,(2) * (some 3 : Option Nat).getD 1,none⟩))),[15]⟩,⟨134,.g (FX 64 (([rg,ra,rb,rc]).getD 2 default)),[22,15]⟩,⟨135,.g (MT.ex (Value.pointer (some ⟨b1,(3) * (some 3 : Option Nat).getD 1,none⟩))),[15]⟩,⟨136,.g (FX 64 (([rg,ra,rb,rc]).getD 3 default)),[24,15]⟩,⟨137,.g (QC (64 + 64 + 1) (((([rg,ra,rb,rc]).getD 2 default).val) + ((([rg,ra,rb,rc]).getD 3 default).val))),[23,25,15]⟩,⟨138,.g (IT (cmpQ (((([rg,ra,rb,rc]).getD 0 default).val) + ((([rg,ra,rb,rc]).getD 1 default).val)) (((([rg,ra,rb,rc]).getD 2 default).val) + ((([rg,ra,rb,rc]).getD 3 default).val)))),[21,26,15]⟩,⟨139,.g (BT true),[16,27,15]⟩,⟨140,.g (BT true),[15,28]⟩,⟨2,.g (BT true),[29]⟩] mixedOrders (by kernel_rfl)
      ⟨fun a w G S=>.of rfl (OpR.mv S.ok rfl ((S.e 4 rfl).trans (congrArg (errV 51) hck))),
       fun a w G S=>.of rfl (OpR.isB (errV_eql.trans (by rfl)) (OpR.errEqNil S.ok rfl if_26 (S.e 0 rfl) (by first | exact .inl rfl | exact .inr ⟨_,_,rfl⟩ | exact errV_or _) rfl)),
       fun a w G S=>.of rfl (OpR.mv S.ok rfl (S.g 0 rfl)),
       fun a w G S=>.yes S 0 rfl rfl rfl (OpR.mv S.ok rfl (S.g 1 rfl)),
       fun a w G S=>.yes S 1 rfl rfl rfl (OpR.isB (errV_eql.trans (by rfl)) (OpR.errEqNil S.ok rfl if_26 (S.e 0 rfl) (by first | exact .inl rfl | exact .inr ⟨_,_,rfl⟩ | exact errV_or _) rfl)),
       fun a w G S=>.of rfl (OpR.pick S.ok rfl (S.e 0 rfl) (S.g 1 rfl)),
       fun a w G S=>.of rfl (OpR.mv S.ok rfl (S.g 0 rfl)),
       fun a w G S=>.yes S 0 rfl rfl rfl (OpR.mv S.ok rfl ((S.e 6 rfl).trans (iv_eq (if_pos hck)))),
       fun a w G S=>.yes S 0 rfl rfl rfl (OpR.ldBox S.ok rfl (S.e 3 rfl) (S.box 0 rfl) tS_35),
       fun a w G S=>.yes S 0 rfl rfl rfl (OpR.ldBox S.ok rfl (S.e 3 rfl) (S.box 0 rfl) tS_35),
       fun a w G S=>.yes S 2 rfl rfl rfl (OpR.call2 rfl c_22 (fAdd_ok S.ok (QC.toQV (S.g 0 rfl)) (QC.toQV (S.g 1 rfl)) (by decide))),
       fun a w G S=>.yes S 0 rfl rfl rfl (OpR.ldBox S.ok rfl (S.e 12 rfl) (S.box 3 rfl) tS_35),
       fun a w G S=>.yes S 2 rfl rfl rfl (OpR.call2 rfl c_25 (fCmp_ok S.ok (QC.toQV (S.g 0 rfl)) (S.g 1 rfl) (by simp only [BIG];omega))),
       fun a w G S=>.yes S 2 rfl rfl rfl (OpR.zeql S.ok rfl (S.e 0 rfl) (S.e 1 rfl) (bv_eq (decide_eq_true ((len_exc h0p h1p h2p h3p).trans (by rw [hk4]))))),
       fun a w G S=>.of rfl (OpR.pick S.ok rfl (S.e 0 rfl) (S.g 1 rfl)),
       fun a w G S=>.of rfl (OpR.mv S.ok rfl (S.g 0 rfl)),
       fun a w G S=>.yes S 0 rfl rfl rfl (OpR.mv S.ok rfl (S.g 2 rfl)),
       fun a w G S=>.yes S 0 rfl rfl rfl (OpR.ixAr (i:=0) S.ok rfl Try.underlying48 tS_35 (S.e 18 rfl) (rfl : _ = nv .i64 0) rfl (of_decide_eq_true rfl) rfl),
       fun a w G S=>.yes S 1 rfl rfl rfl (OpR.ldSM (k:=some 3) (T:=(FX 64)) (xs:=[rg,ra,rb,rc]) (i:=0) S.ok rfl (S.e 0 rfl) (S.box 5 rfl) tS_35 (of_decide_eq_true rfl)),
       fun a w G S=>.yes S 0 rfl rfl rfl (OpR.ixAr (i:=1) S.ok rfl Try.underlying48 tS_35 (S.e 18 rfl) (rfl : _ = nv .i64 1) rfl (of_decide_eq_true rfl) rfl),
       fun a w G S=>.yes S 1 rfl rfl rfl (OpR.ldSM (k:=some 3) (T:=(FX 64)) (xs:=[rg,ra,rb,rc]) (i:=1) S.ok rfl (S.e 0 rfl) (S.box 5 rfl) tS_35 (of_decide_eq_true rfl)),
       fun a w G S=>.yes S 2 rfl rfl rfl (OpR.call2 rfl c_22 (fAdd_ok S.ok (FX.toQV (S.g 0 rfl)) (FX.toQV (S.g 1 rfl)) (by decide))),
       fun a w G S=>.yes S 0 rfl rfl rfl (OpR.ixAr (i:=2) S.ok rfl Try.underlying48 tS_35 (S.e 18 rfl) (rfl : _ = nv .i64 2) rfl (of_decide_eq_true rfl) rfl),
       fun a w G S=>.yes S 1 rfl rfl rfl (OpR.ldSM (k:=some 3) (T:=(FX 64)) (xs:=[rg,ra,rb,rc]) (i:=2) S.ok rfl (S.e 0 rfl) (S.box 5 rfl) tS_35 (of_decide_eq_true rfl)),
       fun a w G S=>.yes S 0 rfl rfl rfl (OpR.ixAr (i:=3) S.ok rfl Try.underlying48 tS_35 (S.e 18 rfl) (rfl : _ = nv .i64 3) rfl (of_decide_eq_true rfl) rfl),
       fun a w G S=>.yes S 1 rfl rfl rfl (OpR.ldSM (k:=some 3) (T:=(FX 64)) (xs:=[rg,ra,rb,rc]) (i:=3) S.ok rfl (S.e 0 rfl) (S.box 5 rfl) tS_35 (of_decide_eq_true rfl)),
       fun a w G S=>.yes S 2 rfl rfl rfl (OpR.call2 rfl c_22 (fAdd_ok S.ok (FX.toQV (S.g 0 rfl)) (FX.toQV (S.g 1 rfl)) (by decide))),
       fun a w G S=>.yes S 2 rfl rfl rfl (OpR.call2 rfl c_25 (fCmp_ok S.ok (QC.toQV (S.g 0 rfl)) (QC.toQV (S.g 1 rfl)) (by decide))),
       fun a w G S=>.yes S 2 rfl rfl rfl (OpR.zeql S.ok rfl (S.e 0 rfl) (S.e 1 rfl) (bv_eq (decide_eq_true rfl))),
       fun a w G S=>.of rfl (OpR.pick S.ok rfl (S.e 0 rfl) (S.g 1 rfl)),
       fun a w G S=>.of rfl (OpR.asn S.ok rfl (S.g 0 rfl)),trivial⟩ fun β a w G S=>?_
     replace S : St W0 G0 141 [(2,BT true),(140,BT true),(139,BT true),(138,IT (cmpQ (((([rg,ra,rb,rc]).getD 0 default).val) + ((([rg,ra,rb,rc]).getD 1 default).val)) (((([rg,ra,rb,rc]).getD 2 default).val) + ((([rg,ra,rb,rc]).getD 3 default).val)))),(137,QC (64 + 64 + 1) (((([rg,ra,rb,rc]).getD 2 default).val) + ((([rg,ra,rb,rc]).getD 3 default).val))),(136,FX 64 (([rg,ra,rb,rc]).getD 3 default)),(135,MT.ex (Value.pointer (some ⟨b1,(3) * (some 3 : Option Nat).getD 1,none⟩))),(134,FX 64 (([rg,ra,rb,rc]).getD 2 default)),(133,MT.ex (Value.pointer (some ⟨b1,(2) * (some 3 : Option Nat).getD 1,none⟩))),(132,QC (64 + 64 + 1) (((([rg,ra,rb,rc]).getD 0 default).val) + ((([rg,ra,rb,rc]).getD 1 default).val))),(131,FX 64 (([rg,ra,rb,rc]).getD 1 default)),(130,MT.ex (Value.pointer (some ⟨b1,(1) * (some 3 : Option Nat).getD 1,none⟩))),(129,FX 64 (([rg,ra,rb,rc]).getD 0 default)),(128,MT.ex (Value.pointer (some ⟨b1,(0) * (some 3 : Option Nat).getD 1,none⟩))),(127,IT (cmpQ (rg.val + ra.val) (rb.val + rc.val))),(126,BT true),(125,BT true),(124,BT true),(123,IT (cmpQ ((minT [rg,ra,rb,rc] k2 + maxT [rg,ra,rb,rc] k2) + (minT [rg,ra,rb,rc] k2 + maxT [rg,ra,rb,rc] k2)) (sumT [rg,ra,rb,rc] k2))),(122,QV ((k2 + 1) * 65) (sumT [rg,ra,rb,rc] k2)),(121,QC (130 + 130 + 1) ((minT [rg,ra,rb,rc] k2 + maxT [rg,ra,rb,rc] k2) + (minT [rg,ra,rb,rc] k2 + maxT [rg,ra,rb,rc] k2))),(120,QC 130 (minT [rg,ra,rb,rc] k2 + maxT [rg,ra,rb,rc] k2)),(119,QC 130 (minT [rg,ra,rb,rc] k2 + maxT [rg,ra,rb,rc] k2)),(118,IT (excF [FR.of (rg.val * rg.val),FR.of (ra.val * ra.val),FR.of (rb.val * rb.val),FR.of (rc.val * rc.val)])),(117,BT true),(116,BT true),(115,BT true),(114,MT.ex (errV 51 (0))),(113,BT true),(112,BT true),(111,MT.ex (errV 51 (0))),(15,MT.ex (errV 51 (0))),(14,IT (cmpQ (rg.val + ra.val) (rb.val + rc.val))),(13,PB b13),(87,BT (decide ((cmpQ ((maxT [rg,ra,rb,rc] k2) + (maxT [rg,ra,rb,rc] k2)) (sumT [rg,ra,rb,rc] k2)) > 0))),(12,MT.ex (errV 51 (chkF [(FR.of (rg.val * rg.val)),(FR.of (ra.val * ra.val)),(FR.of (rb.val * rb.val)),(FR.of (rc.val * rc.val))]))),(11,IT (excRes [(FR.of (rg.val * rg.val)),(FR.of (ra.val * ra.val)),(FR.of (rb.val * rb.val)),(FR.of (rc.val * rc.val))])),(65,BT (decide (k2 < 4))),(64,NT k2),(63,ARN (some 3) (([rg,ra,rb,rc]).map (FX 64))),(8,PB b8),(7,PB b7),(6,PB b6),(5,PB b5),(26,BT (decide (i < 4))),(25,NT i),(24,ARN (some 3) (([rg,ra,rb,rc]).map (FX 64))),(22,BT (!(shortF ([rg,ra,rb,rc])))),(1,PB b1)] [⟨b13,35,some 3,QC 130 (minT [rg,ra,rb,rc] k2 + maxT [rg,ra,rb,rc] k2)⟩,⟨b8,35,some 3,QV 64 (maxT [rg,ra,rb,rc] k2)⟩,⟨b7,35,some 3,QV 64 (minT [rg,ra,rb,rc] k2)⟩,⟨b6,35,some 3,QV ((k2 + 1) * 65) (sumT [rg,ra,rb,rc] k2)⟩,⟨b5,37,some 12,PTS [(some 3,FX 128 (FR.of (rg.val * rg.val))),(some 3,FX 128 (FR.of (ra.val * ra.val))),(some 3,FX 128 (FR.of (rb.val * rb.val))),(some 3,FX 128 (FR.of (rc.val * rc.val)))]⟩,⟨b1,48,some 12,ROWS (some 3) (([rg,ra,rb,rc]).map (FX 64))⟩] a _ _:=S
     refine wpList_nil (hK _ _ ?_);clear hK K
     replace S : St W0 G0 141 [(2,BT true),(13,PB b13),(87,BT (decide ((cmpQ ((maxT [rg,ra,rb,rc] k2) + (maxT [rg,ra,rb,rc] k2)) (sumT [rg,ra,rb,rc] k2)) > 0))),(12,MT.ex (errV 51 (chkF [(FR.of (rg.val * rg.val)),(FR.of (ra.val * ra.val)),(FR.of (rb.val * rb.val)),(FR.of (rc.val * rc.val))]))),(11,IT (excRes [(FR.of (rg.val * rg.val)),(FR.of (ra.val * ra.val)),(FR.of (rb.val * rb.val)),(FR.of (rc.val * rc.val))])),(65,BT (decide (k2 < 4))),(64,NT k2),(63,ARN (some 3) (([rg,ra,rb,rc]).map (FX 64))),(8,PB b8),(7,PB b7),(6,PB b6),(5,PB b5),(26,BT (decide (i < 4))),(25,NT i),(24,ARN (some 3) (([rg,ra,rb,rc]).map (FX 64))),(22,BT (!(shortF ([rg,ra,rb,rc])))),(1,PB b1)] [⟨b13,35,some 3,QC 130 (minT [rg,ra,rb,rc] k2 + maxT [rg,ra,rb,rc] k2)⟩,⟨b8,35,some 3,QV 64 (maxT [rg,ra,rb,rc] k2)⟩,⟨b7,35,some 3,QV 64 (minT [rg,ra,rb,rc] k2)⟩,⟨b6,35,some 3,QV ((k2 + 1) * 65) (sumT [rg,ra,rb,rc] k2)⟩,⟨b5,37,some 12,PTS [(some 3,FX 128 (FR.of (rg.val * rg.val))),(some 3,FX 128 (FR.of (ra.val * ra.val))),(some 3,FX 128 (FR.of (rb.val * rb.val))),(some 3,FX 128 (FR.of (rc.val * rc.val)))]⟩,⟨b1,48,some 12,ROWS (some 3) (([rg,ra,rb,rc]).map (FX 64))⟩] a _ _:=S.keep [0,33,34,35,36,37,38,39,40,41,42,43,44,45,46,47,48]
     exact wp_ret (S.retTmp rfl (S.g 0 rfl))
end Go.Proofs.Ytdeihehaheelmaa
namespace Go.Proofs.Ytdeihehaheelmaa
open Go.RowKit (Below)
def G0of (W : World) : Gh := fun b => W.heap[b]?
theorem G0of_ok (W : World) : Gok W (G0of W) := fun _ _ h => h
theorem Gc_G0 {W : World} {b i : Nat} : Gc (G0of W) b i = W.cell? ⟨b, i, none⟩ := by
  unfold Gc G0of World.cell?; cases W.heap[b]? with
  | none => rfl
  | some o => cases o <;> rfl
def RdA (P : Program) (W : World) (t : TypeId) (k : Option Nat) (A : MT → Prop) : Prop := ∀ (H : Type) (enc : TypeId × Value → H) (fuel : Nat) (cs : List Value) (x : DataW H × List MemPlace),
  DataW.trod enc P W 0 (fun _ => true) true fuel t cs = some x → (x.1.weights P t).all (· ≤ reachBytes) = true → ∃ (v : Value) (τ : MT), A τ ∧ v.cells.toList = cs ∧ Shaped k v ∧ τ.t v (G0of W)
section
variable {P : Program} {W : World} {t e : TypeId} {k : Option Nat} {A A' : MT → Prop}
theorem RdA.mono (h : RdA P W t k A) (hA : ∀ τ v, A τ → τ.t v (G0of W) → ∃ σ, A' σ ∧ σ.t v (G0of W)) : RdA P W t k A' := fun H enc fuel cs x hx hw => by
  obtain ⟨v, τ, h1, h2, h3, h4⟩ := h H enc fuel cs x hx hw
  obtain ⟨σ, h5, h6⟩ := hA τ v h1 h4
  exact ⟨v, σ, h5, h2, h3, h6⟩
theorem rd_bool (ht : P.underlying t = some .bool) : RdA P W t none (fun τ => ∃ b, τ = .ex (.bool b)) := fun H enc fuel cs x hx hw => by
  obtain ⟨b, rfl, rfl⟩ := DataW.trod_bool ht hx
  exact ⟨.bool b, _, ⟨b, rfl⟩, rfl, ⟨rfl, rfl⟩, rfl⟩
theorem rd_int {kk : IntKind} (ht : P.underlying t = some (.int kk)) : RdA P W t none (fun τ => ∃ z, (Lit.int kk z).wf = true ∧ τ = .ex (.int kk z)) := fun H enc fuel cs x hx hw => by
  obtain ⟨z, rfl, rfl, h⟩ := DataW.trod_int ht hx
  exact ⟨.int kk z, _, ⟨z, h, rfl⟩, rfl, ⟨rfl, rfl⟩, rfl⟩
theorem cells_get {a : Addr} {n : Nat} {L : List Value} (h : W.cells? 0 a n = some L) : L.length = n ∧ ∀ j, j < n → W.cell? (a.add j) = L[j]? := by
  unfold World.cells? at h
  rw [if_pos (Nat.zero_le _)] at h
  exact ⟨by simpa using mapM_some_length h, fun j hj => mapM_some_get h j j (by simp [hj])⟩
theorem weightsAll_mem {H : Type} {es : List (DataW H)} {d : DataW H} {i : Nat} (hi : es[i]? = some d) : ∀ n ∈ d.weights P e, n ∈ DataW.weightsAll P e es := by
  induction es generalizing i with
  | nil => simp at hi
  | cons x r ih =>
    intro n hn
    rw [DataW.weightsAll, List.mem_append]
    cases i with
    | zero => simp at hi; subst hi; exact .inl hn
    | succ j => exact .inr (ih (by simpa using hi) n hn)
theorem rd_slice (ht : P.underlying t = some (.slice e)) (hc : P.cellsOf e = k.getD 1) (hc0 : 0 < k.getD 1) (hb : 4 ≤ P.bytesOf e) (h : RdA P W e k A) : RdA P W t none (fun τ => ∃ τs, (∀ σ ∈ τs, A σ) ∧ τ = LS k τs) := fun H enc fuel cs x hx hw => by
  rcases DataW.trod_slice ht hx with ⟨rfl, rfl⟩ | ⟨a, len, cap, elems, rest, n, rfl, rfl, rfl, hb0, hlc, hcm, hel, hE, _, _⟩
  · exact ⟨.slice none 0 0, LS k [], ⟨[], by simp, rfl⟩, rfl, ⟨rfl, rfl⟩, LS.nil⟩
  · simp only [DataW.weights, ht, List.all_cons, List.all_append, Bool.and_eq_true, decide_eq_true_eq] at hw
    obtain ⟨hw1, hw2, _⟩ := hw
    have hlim : len ≤ LIM := by
      have h1 : len * 4 ≤ ((elems.map (·.1)).length + (rest.map (·.1)).length) * P.bytesOf e := Nat.mul_le_mul (by simp; omega) hb
      have h2 : reachBytes = 140737488351232 := rfl
      simp only [LIM]; omega
    have each : ∀ i, ∃ (v : Value) (τ : MT), i < len → W.cells? 0 (a.add (i * k.getD 1)) (k.getD 1) = some v.cells.toList ∧ A τ ∧ Shaped k v ∧ τ.t v (G0of W) := fun i => by
      by_cases hi : i < len
      · have h1 := hE i hi
        rw [List.getElem?_eq_getElem (by omega), Option.bind_eq_some_iff, hc] at h1
        obtain ⟨cs', h2, h3⟩ := h1
        obtain ⟨v, τ, h4, h5, h6, h7⟩ := h H enc n cs' _ h3 (List.all_eq_true.2 fun m hm => List.all_eq_true.1 hw2 m (weightsAll_mem (i := i) (by rw [List.getElem?_map, List.getElem?_eq_getElem (by omega)]; rfl) m hm))
        exact ⟨v, τ, fun _ => ⟨by rw [h5]; exact h2, h4, h6, h7⟩⟩
      · exact ⟨undef, .ex undef, fun h => absurd h hi⟩
    obtain ⟨f, g, hfg⟩ : ∃ (f : Nat → Value) (g : Nat → MT), ∀ i, i < len → W.cells? 0 (a.add (i * k.getD 1)) (k.getD 1) = some (f i).cells.toList ∧ A (g i) ∧ Shaped k (f i) ∧ (g i).t (f i) (G0of W) := ⟨fun i => (each i).choose, fun i => (each i).choose_spec.choose, fun i => (each i).choose_spec.choose_spec⟩
    refine ⟨.slice (some a) len cap, LS k ((List.range len).map g), ⟨_, fun σ hσ => ?_, rfl⟩, rfl, ⟨rfl, rfl⟩, LS.of_vals (us := (List.range len).map f) (A := some a) (c := cap) (by simp) (by simpa using hlc) (by simpa using hlim) ⟨by simp, fun i τ u hi hu => ?_⟩ fun i u hu => ?_⟩
    · obtain ⟨i, hi, rfl⟩ := List.mem_map.1 hσ
      exact (hfg i (by simpa using hi)).2.1
    · have hlt : i < len := by have := (List.getElem?_eq_some_iff.1 hi).1; simpa using this
      simp [List.getElem?_range hlt] at hi hu
      subst hi; subst hu
      exact (hfg i hlt).2.2
    · have hlt : i < len := by have := (List.getElem?_eq_some_iff.1 hu).1; simpa using this
      simp [List.getElem?_range hlt] at hu
      subst hu
      obtain ⟨h1, h2, h3, h4⟩ := hfg i hlt
      obtain ⟨h5, h6⟩ := cells_get h1
      obtain ⟨g5, g6⟩ := cells_get (hfg 0 (by omega)).1
      obtain ⟨b, off, spot⟩ := a
      have h7 := g6 0 hc0
      rw [List.getElem?_eq_getElem (by omega)] at h7
      have hs : spot = none := by simpa [Addr.add] using World.cell?_spot h7
      subst hs
      refine ⟨b, off, rfl, fun j x hj => ?_⟩
      have hjl : j < k.getD 1 := by have := (Array.getElem?_eq_some_iff.1 hj).1; rw [← h5, Array.length_toList]; exact this
      have h8 := h6 j hjl
      rw [Gc_G0]
      rw [addr_add, addr_add, Array.getElem?_toList, hj] at h8
      exact h8
theorem forall_map {α : Type} {T : α → MT} {τs : List MT} (h : ∀ σ ∈ τs, ∃ x, σ = T x) : ∃ xs : List α, τs = xs.map T := by
  induction τs with
  | nil => exact ⟨[], rfl⟩
  | cons a r ih =>
    obtain ⟨l, rfl⟩ := ih fun σ h' => h σ (List.mem_cons_of_mem _ h')
    obtain ⟨x, rfl⟩ := h a (List.mem_cons_self ..)
    exact ⟨x :: l, rfl⟩
theorem forall_map' {α : Type} {T : α → MT} {p : α → Prop} {τs : List MT} (h : ∀ σ ∈ τs, ∃ x, p x ∧ σ = T x) : ∃ xs : List α, τs = xs.map T ∧ ∀ x ∈ xs, p x := by
  induction τs with
  | nil => exact ⟨[], rfl, by simp⟩
  | cons a r ih =>
    obtain ⟨l, rfl, hl⟩ := ih fun σ h' => h σ (List.mem_cons_of_mem _ h')
    obtain ⟨x, hx, rfl⟩ := h a (List.mem_cons_self ..)
    exact ⟨x :: l, rfl, by simpa using ⟨hx, hl⟩⟩
theorem rd_words (ht : P.underlying t = some (.slice e)) (hu : P.underlying e = some (.int .u32)) (hc : P.cellsOf e = 1) (hb : 4 ≤ P.bytesOf e) : RdA P W t none (fun τ => ∃ l, τ = SL l) := by
  have h1 : RdA P W e none (fun τ => ∃ x : Nat, x < 4294967296 ∧ τ = .ex (u32 x)) := (rd_int hu).mono fun τ v ⟨z, hz, hτ⟩ hv => by
    subst hτ
    have hm : IntKind.u32.min = 0 := by decide
    have hM : IntKind.u32.max = 4294967295 := by decide
    simp [Lit.wf, hm, hM] at hz
    exact ⟨_, ⟨z.toNat, by omega, rfl⟩, by
      have : (z.toNat : Int) = z := by omega
      show v = .int .u32 (z.toNat : Int); rw [this]; exact hv⟩
  refine (rd_slice (k := none) ht hc (by decide) hb h1).mono fun τ v ⟨τs, hσ, hτ⟩ hv => ?_
  subst hτ
  obtain ⟨l, hl, hlt⟩ := forall_map' hσ
  subst hl
  obtain ⟨A, c, us, h2, h3, h4, h5, h6⟩ := LS.vals hv
  rw [List.length_map] at h2 h3 h4
  refine ⟨_, ⟨l, rfl⟩, A, c, h2, h3, h4, hlt, fun i x hi => ?_⟩
  have hil := (List.getElem?_eq_some_iff.1 hi).1
  have hul : i < us.length := by rw [h5.1, List.length_map]; exact hil
  have hui : us[i]? = some us[i] := by rw [List.getElem?_eq_getElem hul]
  have h7 := (h5.2 i (.ex (u32 x)) us[i] (by rw [List.getElem?_map, hi]; rfl) hui).2
  obtain ⟨b, off, e1, h8⟩ := h6 i us[i] hui
  refine ⟨b, off, e1, ?_⟩
  have h9 : us[i] = u32 x := h7
  rw [h9] at h8
  simpa using h8 0 (u32 x) rfl
def FldOk (P : Program) (W : World) : Nat → List Field → List (Option Nat × (MT → Prop)) → Prop
  | _, [], [] => True
  | off, f :: fs, a :: As => f.offset = off ∧ P.cellsOf f.type = a.1.getD 1 ∧ RdA P W f.type a.1 a.2 ∧ FldOk P W (off + a.1.getD 1) fs As
  | _, _, _ => False
def Mt : List (Option Nat × (MT → Prop)) → List (Option Nat × MT) → Prop
  | [], [] => True
  | a :: As, f :: F => f.1 = a.1 ∧ a.2 f.2 ∧ Mt As F
  | _, _ => False
def tot (As : List (Option Nat × (MT → Prop))) : Nat := (As.map fun a => a.1.getD 1).sum
theorem Mt.tot : ∀ {As : List (Option Nat × (MT → Prop))} {F : List (Option Nat × MT)}, Mt As F → (F.map fun f => f.1.getD 1).sum = Go.Proofs.Ytdeihehaheelmaa.tot As
  | [], [], _ => rfl
  | a :: As, f :: F, h => by
    have := Mt.tot h.2.2
    simp only [Go.Proofs.Ytdeihehaheelmaa.tot, List.map_cons, List.sum_cons, h.1] at this ⊢
    rw [this]
  | [], _ :: _, h => h.elim
  | _ :: _, [], h => h.elim
theorem rd_fields {H : Type} {enc : TypeId × Value → H} {n : Nat} {cs : List Value} : ∀ (fs : List Field) (As : List (Option Nat × (MT → Prop))) (xs : List (DataW H × List MemPlace)) (off : Nat), FldOk P W off fs As → xs.length = fs.length →
    (∀ (i : Nat) (f : Field), fs[i]? = some f → DataW.trod enc P W 0 (fun _ => true) true n f.type ((cs.drop f.offset).take (P.cellsOf f.type)) = xs[i]?) → (DataW.weightsEach P (fs.map (·.type)) (xs.map (·.1))).all (· ≤ reachBytes) = true → cs.length = off + tot As →
    ∃ us F, Mt As F ∧ flat us = cs.drop off ∧ us.length = F.length ∧ ∀ (i : Nat) (f : Option Nat × MT) (u : Value), F[i]? = some f → us[i]? = some u → Shaped f.1 u ∧ f.2.t u (G0of W)
  | [], [], xs, off, _, _, _, _, hl => ⟨[], [], trivial, by rw [List.drop_eq_nil_of_le (by rw [hl]; simp [tot])]; rfl, rfl, fun i f u h => by simp at h⟩
  | f :: fs, a :: As, [], off, _, hx, _, _, _ => by simp at hx
  | f :: fs, a :: As, x :: xs, off, hF, hx, hT, hw, hl => by
    obtain ⟨h1, h2, h3, h4⟩ := hF
    simp only [List.map_cons, DataW.weightsEach, List.all_append, Bool.and_eq_true] at hw
    obtain ⟨v, τ, h5, h6, h7, h8⟩ := h3 H enc n _ x (hT 0 f rfl) hw.1
    obtain ⟨us, F, g1, g2, g3, g4⟩ := rd_fields fs As xs (off + a.1.getD 1) h4 (by simpa using hx) (fun i g hg => by simpa using hT (i + 1) g (by simpa using hg)) hw.2 (by rw [hl]; simp [tot]; omega)
    refine ⟨v :: us, (a.1, τ) :: F, ⟨rfl, h5, g1⟩, ?_, by simp [g3], fun i f' u hf hu => ?_⟩
    · rw [flat_cons, h6, g2, h1, h2, ← List.drop_drop, List.take_append_drop]
    · cases i with
      | zero => simp at hf hu; subst hf; subst hu; exact ⟨h7, h8⟩
      | succ i => exact g4 i f' u (by simpa using hf) (by simpa using hu)
  | [], _ :: _, _, _, h, _, _, _, _ => h.elim
  | _ :: _, [], _, _, h, _, _, _, _ => h.elim
theorem rd_struct {fs : Array Field} {As : List (Option Nat × (MT → Prop))} {n : Nat} (ht : P.underlying t = some (.struct fs)) (hn : P.cellsOf t = n) (hnA : tot As = n) (hF : FldOk P W 0 fs.toList As) : RdA P W t (some n) (fun τ => ∃ F, Mt As F ∧ τ = PTS F) := fun H enc fuel cs x hx hw => by
  obtain ⟨xs, m, rfl, rfl, hl, hxl, hT⟩ := DataW.trod_struct ht hx
  simp only [DataW.weights, ht] at hw
  obtain ⟨us, F, h1, h2, h3, h4⟩ := rd_fields fs.toList As xs 0 hF (by simpa using hxl) (fun i f hf => hT i f (by simpa using hf)) hw (by omega)
  have hP : (PTS F).t (.agg (flat us).toArray) (G0of W) := ⟨us, rfl, h3, h4⟩
  refine ⟨.agg (flat us).toArray, PTS F, ⟨F, h1, rfl⟩, by rw [h2]; rfl, PTS.shaped (by unfold offs; rw [List.take_length, h1.tot, hnA]) hP, hP⟩
theorem shaped1 {u : Value} (h : Shaped none u) : u.cells = #[u] := h.1
theorem PTS.toQR {s : Bool} {p q : List Nat} {v : Value} {G : Gh} (h : (PTS [(none, .ex (.bool s)), (none, SL p), (none, SL q)]).t v G) : (QR s p q).t v G := by
  obtain ⟨us, rfl, hl, h⟩ := h
  match us, hl, h with
  | [u0, u1, u2], _, h =>
    obtain ⟨a0, b0⟩ := h 0 _ u0 rfl rfl
    obtain ⟨a1, b1⟩ := h 1 _ u1 rfl rfl
    obtain ⟨a2, b2⟩ := h 2 _ u2 rfl rfl
    refine ⟨u1, u2, ?_, b1, b2⟩
    have e0 : u0 = .bool s := b0
    simp only [flat, List.flatMap_cons, List.flatMap_nil, shaped1 a0, shaped1 a1, shaped1 a2]
    rw [e0]; rfl
theorem rd_frac {fs : Array Field} {f0 f1 f2 : Field} {tw : TypeId} (ht : P.underlying t = some (.struct fs)) (hf : fs.toList = [f0, f1, f2]) (hn : P.cellsOf t = 3) (h0 : f0.offset = 0 ∧ P.cellsOf f0.type = 1 ∧ P.underlying f0.type = some .bool) (h1 : f1.offset = 1 ∧ f1.type = tw) (h2 : f2.offset = 2 ∧ f2.type = tw)
    (hw : P.underlying tw = some (.slice e) ∧ P.cellsOf tw = 1) (he : P.underlying e = some (.int .u32) ∧ P.cellsOf e = 1 ∧ 4 ≤ P.bytesOf e) : RdA P W t (some 3) (fun τ => ∃ r : FR, τ = QR r.s r.p r.q) := by
  have hW : RdA P W tw none (fun τ => ∃ l, τ = SL l) := rd_words hw.1 he.1 he.2.1 he.2.2
  refine (rd_struct (As := [(none, fun τ => ∃ b, τ = .ex (.bool b)), (none, fun τ => ∃ l, τ = SL l), (none, fun τ => ∃ l, τ = SL l)]) ht hn rfl (by
    rw [hf]; exact ⟨h0.1, h0.2.1, rd_bool h0.2.2, h1.1, by rw [h1.2]; exact hw.2, by rw [h1.2]; exact hW, h2.1, by rw [h2.2]; exact hw.2, by rw [h2.2]; exact hW, trivial⟩)).mono fun τ v ⟨F, hM, hτ⟩ hv => ?_
  subst hτ
  match F, hM with
  | [a, b, c], ⟨a1, ⟨s, a2⟩, b1, ⟨p, b2⟩, c1, ⟨q, c2⟩, _⟩ =>
    obtain ⟨a0, a'⟩ := a; obtain ⟨b0, b'⟩ := b; obtain ⟨c0, c'⟩ := c
    simp only at a1 a2 b1 b2 c1 c2
    subst a1; subst a2; subst b1; subst b2; subst c1; subst c2
    exact ⟨_, ⟨⟨s, p, q⟩, rfl⟩, PTS.toQR hv⟩
theorem rd_list {α : Type} {T : α → MT} (ht : P.underlying t = some (.slice e)) (hc : P.cellsOf e = k.getD 1) (hc0 : 0 < k.getD 1) (hb : 4 ≤ P.bytesOf e) (h : RdA P W e k (fun τ => ∃ x, τ = T x)) : RdA P W t none (fun τ => ∃ xs : List α, τ = LS k (xs.map T)) :=
  (rd_slice ht hc hc0 hb h).mono fun τ v ⟨τs, hσ, hτ⟩ hv => by
    obtain ⟨xs, rfl⟩ := forall_map hσ
    subst hτ
    exact ⟨_, ⟨xs, rfl⟩, hv⟩
theorem rd_arg {H : Type} {enc : TypeId × Value → H} {v : Value} {d : DataW H} {ps : List MemPlace} (h : RdA P W t k A) (hd : DataW.Trod enc P W 0 (fun _ => true) true t v d ps) (hw : (d.weights P t).all (· ≤ reachBytes) = true)
    (hv : match k with | none => v.cells = #[v] | some _ => ∃ cs, v = .agg cs) : ∃ τ, A τ ∧ Shaped k v ∧ τ.t v (G0of W) := by
  obtain ⟨fuel, hf⟩ := hd
  obtain ⟨u, τ, h1, h2, h3, h4⟩ := h H enc fuel _ _ hf hw
  have : u = v := by
    cases k with
    | none =>
      have h5 : u.cells = #[u] := h3.1
      rw [h5, hv] at h2
      simpa using h2
    | some n =>
      obtain ⟨cs, rfl⟩ := hv
      obtain ⟨cs', rfl, _⟩ := h3
      have : cs'.toList = cs.toList := h2
      rw [Array.toList_inj.1 this]
  subst this
  exact ⟨τ, h1, h3, h4⟩
end
end Go.Proofs.Ytdeihehaheelmaa
namespace Go.Proofs.Ytdeihehaheelmaa
open Go.RowKit (Below)
section
variable {P : Program} {W : World} {t e : TypeId} {k : Option Nat} {A : MT → Prop}
theorem rd_elems {H : Type} {enc : TypeId × Value → H} {m : Nat} {cs : List Value} {c : Nat} (hc : P.cellsOf e = c) (hck : c = k.getD 1) (h : RdA P W e k A) : ∀ (n off : Nat) (xs : List (DataW H × List MemPlace)), xs.length = n →
    (∀ i, i < n → DataW.trod enc P W 0 (fun _ => true) true m e ((cs.drop (off + i * c)).take c) = xs[i]?) → (DataW.weightsAll P e (xs.map (·.1))).all (· ≤ reachBytes) = true → cs.length = off + n * c →
    ∃ us τs, (∀ σ ∈ τs, A σ) ∧ flat us = cs.drop off ∧ τs.length = n ∧ Els k τs us (G0of W)
  | 0, off, xs, _, _, _, hl => ⟨[], [], by simp, by rw [List.drop_eq_nil_of_le (by rw [hl]; simp)]; rfl, rfl, Els.nil⟩
  | n + 1, off, [], hx, _, _, _ => by simp at hx
  | n + 1, off, x :: xs, hx, hT, hw, hl => by
    simp only [List.map_cons, DataW.weightsAll, List.all_append, Bool.and_eq_true] at hw
    obtain ⟨v, τ, h5, h6, h7, h8⟩ := h H enc m _ x (by simpa using hT 0 (by omega)) hw.1
    obtain ⟨us, τs, g1, g2, g3, g4⟩ := rd_elems hc hck h n (off + c) xs (by simpa using hx) (fun i hi => by
      have := hT (i + 1) (by omega)
      rw [show off + (i + 1) * c = off + c + i * c by rw [Nat.add_mul]; omega] at this
      simpa using this) hw.2 (by rw [hl, Nat.add_mul]; omega)
    refine ⟨v :: us, τ :: τs, fun σ hσ => ?_, ?_, by simp [g3], ?_⟩
    · rcases List.mem_cons.1 hσ with e1 | e1
      · rw [e1]; exact h5
      · exact g1 σ e1
    · rw [flat_cons, h6, g2, ← List.drop_drop, List.take_append_drop]
    · exact ⟨by simp [g4.1], fun i σ u hi hu => by
        cases i with
        | zero => simp at hi hu; subst hi; subst hu; exact ⟨h7, h8⟩
        | succ j => exact g4.2 j σ u (by simpa using hi) (by simpa using hu)⟩
theorem rd_array {n c : Nat} (ht : P.underlying t = some (.array n e)) (hc : P.cellsOf e = c) (hck : c = k.getD 1) (hn : P.cellsOf t = n * c) (h : RdA P W e k A) : RdA P W t (some (n * c)) (fun τ => ∃ τs, (∀ σ ∈ τs, A σ) ∧ τs.length = n ∧ τ = ARN k τs) := fun H enc fuel cs x hx hw => by
  obtain ⟨xs, m, rfl, rfl, hl, hxl, hT⟩ := DataW.trod_array ht hx
  simp only [DataW.weights, ht] at hw
  obtain ⟨us, τs, h1, h2, h3, h4⟩ := rd_elems hc hck h n 0 xs hxl (fun i hi => by simpa [hc] using hT i hi) hw (by omega)
  have hP : (ARN k τs).t (.agg (flat us).toArray) (G0of W) := ⟨us, rfl, h4⟩
  have hs := ARN.shaped hP
  rw [h3, ← hck] at hs
  exact ⟨.agg (flat us).toArray, ARN k τs, ⟨τs, h1, h3, rfl⟩, by rw [h2]; rfl, hs, hP⟩
theorem rd_arr4 {α : Type} {T : α → MT} {c : Nat} (ht : P.underlying t = some (.array 4 e)) (hc : P.cellsOf e = c) (hck : c = k.getD 1) (hn : P.cellsOf t = 4 * c) (h : RdA P W e k (fun τ => ∃ x, τ = T x)) : RdA P W t (some (4 * c)) (fun τ => ∃ x : α × α × α × α, τ = ARN k ([x.1, x.2.1, x.2.2.1, x.2.2.2].map T)) :=
  (rd_array ht hc hck hn h).mono fun τ v ⟨τs, hσ, hl, hτ⟩ hv => by
    obtain ⟨xs, rfl⟩ := forall_map hσ
    subst hτ
    match xs, hl with
    | [a, b, c, d], _ => exact ⟨_, ⟨(a, b, c, d), rfl⟩, hv⟩
theorem okWide_array {r : Reach} {base : Nat} {v : Value} {n : Nat} (ht : P.underlying t = some (.array n e)) (h : Value.okWide P W r base t v) : ∃ cs, v = .agg cs ∧ cs.size = P.cellsOf t := by
  simp only [Value.okWide, ht] at h
  obtain ⟨cs, h1, h2, _⟩ := h
  exact ⟨cs, h1, h2⟩
end
end Go.Proofs.Ytdeihehaheelmaa
namespace Go.Proofs.Ytdeihehaheelmaa.grashofLengthsDone
open Go.ChangeShapes Go.WideShapes Go.ChangeAt Go.RowKit
theorem own : ownKnob Try.prog.godebug = none := by kernel_rfl
theorem laidOut : laidOutB Try.prog = true := by kernel_rfl
theorem rd35 (W : World) : RdA Try.prog W 35 (some 3) (fun τ => ∃ r : FR, τ = RX r) :=
  rd_frac (tw := 33) (e := 88) Try.underlying35 rfl (by kernel_rfl) ⟨rfl, by kernel_rfl, Try.underlying4⟩ ⟨rfl, rfl⟩ ⟨rfl, rfl⟩ ⟨Try.underlying33, by kernel_rfl⟩ ⟨Try.underlying88, by kernel_rfl, of_decide_eq_true (by kernel_rfl)⟩
theorem rd48 (W : World) : RdA Try.prog W 48 (some 12) (fun τ => ∃ x : (FR) × (FR) × (FR) × (FR), τ = ARN (some 3) (List.map RX [(x).1, (x).2.1, (x).2.2.1, (x).2.2.2])) := rd_arr4 (c := 3) Try.underlying48 (by kernel_rfl) rfl (by kernel_rfl) (rd35 W)
set_option maxRecDepth 100000 in
theorem lifted (os : Os) (started : os.Started) (H : Type) (enc : TypeId × Value → H) :
    ReturnsInHanded {} Try.checked os 7 .any (Rows.grashofLengthsSpec.pre6 enc Try.prog Try.f7 Rows.grashofLengthsRow.domain false) (Rows.grashofLengthsSpec.post enc Try.prog Try.f7 false true false false) := by
  refine returnsInHanded_of_change_sized (C := Try.checked) own started (by kernel_rfl) Try.func7
    (ChangeSpec.witness6 (enc := enc) (C := Try.checked) false ⟨#[], #[.agg #[.bool false, .slice none 0 0, .slice none 0 0, .bool false, .slice none 0 0, .slice none 0 0, .bool false, .slice none 0 0, .slice none 0 0, .bool false, .slice none 0 0, .slice none 0 0]], []⟩ 8 (by kernel_rfl) (by kernel_rfl) (by kernel_rfl) (by kernel_rfl)) ?_
  intro W base args ds gs before hval0 hW hcnd hsz _
  have hval : ∀ (j : Nat) t v, Try.f7.params[j]? = some t → args[j]? = some v → Value.okWide Try.prog W .any base t v := hval0
  have hW' := hW
  obtain ⟨p, q, hA0, hV, rfl, hfz, hnd⟩ := hW
  have hA : DataW.TrodAll enc Try.prog W 0 (fun _ => true) true Try.f7.params.toList args.toList ds p := hA0
  have hsz : (DataW.weightsEach Try.prog (Try.f7.params.toList ++ _) (ds ++ gs)).all (· ≤ reachBytes) = true := hsz
  rw [Try.params7] at hA hval hsz
  obtain ⟨v0, vs0, d0, ds0, p0, q0, hargs, rfl, rfl, h0, r0⟩ := trodAll_cons hA
  obtain ⟨rfl, rfl, rfl⟩ := trodAll_nil r0
  obtain rfl : args = #[v0] := by cases args; simp_all
  obtain ⟨rfl, rfl⟩ := trodVars_none hV
  obtain ⟨cs0, rfl, hcs0⟩ := okWide_array Try.underlying48 (hval 0 48 v0 rfl rfl)
  have k0 := h0
  have lt0 : ∀ x ∈ p0, x.block < W.heap.size := by obtain ⟨m, hm⟩ := k0; exact DataW.trod_lt m _ _ _ hm
  have z0 : (d0.weights Try.prog 48).all (· ≤ reachBytes) = true := List.all_eq_true.2 fun x hx => List.all_eq_true.1 hsz x (DataW.weights_mem_each (j := 0) rfl rfl x hx)
  obtain ⟨τ0, ⟨x0, rfl⟩, _, H0⟩ := rd_arg (rd48 W) k0 z0 ⟨_, rfl⟩
  clear hA0 hval0
  refine (lLengths_ok (G0of_ok W) H0).mono fun e W' hr => ?_
  obtain ⟨v, G', rfl, hv, hn⟩ := hr
  have hv : v = .bool true := hv
  subst hv
  have bel : RowKit.Below W.heap.size W W' := hn.below
  exact ⟨_, rfl, _, _, _, [], _, [], hW', trodAll_mk1 (shut_bool Try.underlying4 _), (trodAll_cons_mk (Below.trod laidOut (by kernel_rfl) (of_decide_eq_true (by kernel_rfl)) k0 bel lt0) trodAll_mk0), rfl, bel.frame _, fun h => by cases h⟩
theorem over : Rows.grashofLengthsRow.holds Try.pinned (OpenSpec.ofChange Rows.grashofLengthsSpec) :=
  OpenClaim.holds_of_wide 7 Try.f7 rfl rfl rfl rfl rfl rfl rfl ⟨rfl, rfl, rfl, rfl, rfl⟩ rfl rfl rfl rfl rfl (by kernel_rfl) Try.func7 (by kernel_rfl)
    (of_decide_eq_true (by kernel_rfl)) (by unfold Func.isWrapper; first | (rw [if_pos (by decide +kernel)]; kernel_rfl) | (rw [if_neg (by decide +kernel)]; exact ⟨rfl, rfl⟩))
    (fun os started H enc _ => lifted os started H enc)
theorem proved : Rows.GrashofLengthsSaid := over
end Go.Proofs.Ytdeihehaheelmaa.grashofLengthsDone
