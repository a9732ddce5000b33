/- GrashofInverts returns true for every input, and every argument reads afterwards as it did. Conditions: none. -/
import Derived.ChangeArms
import Derived.SizedLaws
import Derived.WideShapes
import Derived.Test.YtdeihehaheelmaaRows
import Derived.WalkKit
import Derived.ProofKit
import Derived.OpenShut
import Derived.ShutString
import Derived.ChangeOld
import Derived.Below
import Derived.Test.YtdeihehaheelmaaQe
set_option linter.unusedVariables false
set_option linter.unusedSimpArgs false
namespace Go.Proofs.Ytdeihehaheelmaa
open Go.RowKit (Below)
def surdF (x y d : Rat) : Int :=
  if x.num.sign = 0 ∨ y.num.sign * d.num.sign = 0 ∨ x.num.sign = y.num.sign * d.num.sign then (if x.num.sign = 0 then y.num.sign * d.num.sign else x.num.sign) else x.num.sign * cmpQ (x * x) (y * y * d)
def surdsF (x y d z e : Rat) : Int :=
  if surdF x y d = 0 ∨ z.num.sign * e.num.sign = 0 ∨ surdF x y d = z.num.sign * e.num.sign then (if surdF x y d = 0 then z.num.sign * e.num.sign else surdF x y d) else surdF x y d * surdF (x * x + y * y * d - z * z * e) (2 * (x * y)) d
def sumsF (p q r s : Rat) : Int := surdsF (p + q - (r + s)) 2 (p * q) (-2) (r * s)
theorem surd_mixed {x y d : Rat} : surdF x y d = mixedF x y d := by
  unfold surdF mixedF
  generalize x.num.sign = s; generalize y.num.sign * d.num.sign = t; generalize cmpQ (x * x) (y * y * d) = c
  by_cases h1 : s = 0
  · rw [if_pos (.inl h1), if_pos h1, if_pos (.inl h1)]
  · by_cases h2 : s = t
    · rw [if_pos (.inr (.inr h2)), if_neg h1, if_pos (.inr h2), h2]
    · by_cases h3 : t = 0
      · rw [if_pos (.inr (.inl h3)), if_neg h1, if_neg (by omega), if_pos h3]
      · rw [if_neg (by omega), if_neg (by omega), if_neg h3]
theorem surd_sg {x y d : Rat} (hd : 0 ≤ d) : surdF x y d = sgR (RR.of x + RR.of y * rt d) := by rw [surd_mixed]; exact mixed_sg hd
theorem surds_sg {x y d z e : Rat} (hd : 0 ≤ d) (he : 0 ≤ e) : surdsF x y d z e = sgR (RR.of x + RR.of y * rt d + RR.of z * rt e) := by
  unfold surdsF
  rw [surd_sg hd, surd_sg hd, sgR_add (u := RR.of x + RR.of y * rt d)]
  rw [sgR_mul (RR.of z), sgR_of z, sgR_rt he]
  have hq : (RR.of x + RR.of y * rt d) * (RR.of x + RR.of y * rt d) - RR.of z * rt e * (RR.of z * rt e) = RR.of (x * x + y * y * d - z * z * e) + RR.of (2 * (x * y)) * rt d := by
    have e1 : RR.of (x * x + y * y * d - z * z * e) = RR.of x * RR.of x + RR.of y * RR.of y * (rt d * rt d) - RR.of z * RR.of z * (rt e * rt e) := by
      rw [rt_sq hd, rt_sq he, RR.of_sub, RR.of_add, RR.of_mul, RR.of_mul, RR.of_mul, RR.of_mul, RR.of_mul]
    rw [e1, RR.of_mul, RR.of_mul]
    generalize RR.of x = a; generalize RR.of y = b; generalize rt d = c; generalize RR.of z = f; generalize rt e = g
    obtain ⟨a, ha, rfl⟩ := RR.rep a; obtain ⟨b, hb, rfl⟩ := RR.rep b; obtain ⟨c, hc, rfl⟩ := RR.rep c; obtain ⟨f, hf, rfl⟩ := RR.rep f; obtain ⟨g, hg, rfl⟩ := RR.rep g
    exact RR.ext fun n => by grind
  rw [hq]
  generalize sgR (RR.of x + RR.of y * rt d) = s; generalize z.num.sign * e.num.sign = t; generalize sgR (RR.of (x * x + y * y * d - z * z * e) + RR.of (2 * (x * y)) * rt d) = c
  by_cases h1 : s = 0
  · rw [if_pos (.inl h1), if_pos h1, if_pos (.inl h1)]
  · by_cases h2 : s = t
    · rw [if_pos (.inr (.inr h2)), if_neg h1, if_pos (.inr h2), h2]
    · by_cases h3 : t = 0
      · rw [if_pos (.inr (.inl h3)), if_neg h1, if_neg (by omega), if_pos h3]
      · rw [if_neg (by omega), if_neg (by omega), if_neg h3]
theorem sums_four {p q r s : Rat} (hp : 0 ≤ p) (hq : 0 ≤ q) (hr : 0 ≤ r) (hs : 0 ≤ s) : sumsF p q r s = sgR ((rt p + rt q) - (rt r + rt s)) := by
  unfold sumsF
  rw [← roots_four hp hq hr hs, roots_sg (Rat.mul_nonneg hp hq) (Rat.mul_nonneg hr hs), surds_sg (Rat.mul_nonneg hp hq) (Rat.mul_nonneg hr hs)]
  congr 1
  rw [show RR.of (-2) = -RR.of 2 from rfl, RR.neg_mul, RR.sub_def]
theorem surd_bd (x y d : Rat) : -1 ≤ surdF x y d ∧ surdF x y d ≤ 1 := by
  have h0 := sgn_cases x.num; have h1 := sgn_cases y.num; have h2 := sgn_cases d.num
  have h3 := cmpQ_cases (x * x) (y * y * d)
  unfold surdF
  rcases h0 with ⟨_, e0⟩ | ⟨_, e0⟩ | ⟨_, e0⟩ <;> rcases h1 with ⟨_, e1⟩ | ⟨_, e1⟩ | ⟨_, e1⟩ <;> rcases h2 with ⟨_, e2⟩ | ⟨_, e2⟩ | ⟨_, e2⟩ <;> rcases h3 with e3 | e3 | e3 <;> rw [e0, e1, e2, e3] <;> decide
theorem surd_mul_bd (x y d x' y' d' : Rat) : -9223372036854775808 ≤ surdF x y d * surdF x' y' d' ∧ surdF x y d * surdF x' y' d' ≤ 9223372036854775807 := by
  have h1 := surd_bd x y d; have h2 := surd_bd x' y' d'
  generalize surdF x y d = u at *; generalize surdF x' y' d' = v at *
  have : (u = -1 ∨ u = 0 ∨ u = 1) := by omega
  rcases this with h | h | h <;> subst h <;> omega
def pad2 (l : List FR) : List FR := l ++ List.replicate (2 - l.length) default
def stF (l m : List FR) (k j : Nat) : List FR := if k = 0 then pad2 (l.take j) ++ pad2 [] else if k = 1 then pad2 l ++ pad2 (m.take j) else pad2 l ++ pad2 m
theorem len2 {l : List FR} (h : l.length ≤ 2) : l = [] ∨ (∃ a, l = [a]) ∨ ∃ a b, l = [a, b] := by
  match l, h with
  | [], _ => exact .inl rfl
  | [a], _ => exact .inr (.inl ⟨a, rfl⟩)
  | [a, b], _ => exact .inr (.inr ⟨a, b, rfl⟩)
theorem st_step {l m : List FR} {k j : Nat} (hl : l.length ≤ 2) (hm : m.length ≤ 2) (hk : k < 2) (hj : j < ([l, m].getD k default).length) : (stF l m k j).set (2 * k + j) (([l, m].getD k default).getD j default) = stF l m k (j + 1) := by
  match k, hk with
  | 0, _ =>
    rcases len2 hl with rfl | ⟨a, rfl⟩ | ⟨a, b, rfl⟩
    · exact absurd hj (Nat.not_lt_zero _)
    · match j, hj with
      | 0, _ => rfl
    · match j, hj with
      | 0, _ => rfl
      | 1, _ => rfl
  | 1, _ =>
    have hj' : j < m.length := hj
    rcases len2 hl with rfl | ⟨a, rfl⟩ | ⟨a, b, rfl⟩ <;> rcases len2 hm with rfl | ⟨c, rfl⟩ | ⟨c, d, rfl⟩ <;> rcases (by omega : j = 0 ∨ j = 1) with rfl | rfl <;> first | rfl | exact absurd hj' (by simp)
theorem st_next {l m : List FR} {k j : Nat} (hk : k < 2) (hj : ¬ j < ([l, m].getD k default).length) : stF l m k j = stF l m (k + 1) 0 := by
  match k, hk with
  | 0, _ =>
    have hj : ¬ j < l.length := hj
    show pad2 (l.take j) ++ pad2 [] = pad2 l ++ pad2 (m.take 0)
    rw [List.take_of_length_le (by omega)]; rfl
  | 1, _ =>
    have hj : ¬ j < m.length := hj
    show pad2 l ++ pad2 (m.take j) = pad2 l ++ pad2 m
    rw [List.take_of_length_le (by omega)]
theorem pad2_len {l : List FR} (h : l.length ≤ 2) : (pad2 l).length = 2 := by unfold pad2; simp; omega
theorem st_len {l m : List FR} {k j : Nat} (hl : l.length ≤ 2) (hm : m.length ≤ 2) : (stF l m k j).length = 4 := by
  have h1 := pad2_len hl; have h2 := pad2_len hm; have h3 := pad2_len (l := []) (by simp)
  have h4 := pad2_len (l := l.take j) (by simp; omega); have h5 := pad2_len (l := m.take j) (by simp; omega)
  unfold stF; split
  · simp [h3, h4]
  · split <;> simp [h1, h2, h5]
def refRes (l m : List FR) : Int := if cmpCode l m = 0 then sumsF ((pairF (l.map FR.val)).getD 0 default) ((pairF (l.map FR.val)).getD 1 default) ((pairF (m.map FR.val)).getD 0 default) ((pairF (m.map FR.val)).getD 1 default) else 0
theorem val_default : (default : FR).val = 0 := by
  show qval false [] [] = 0; simp [qval]
theorem st_end {l m : List FR} {k : Nat} (hl : l.length ≤ 2) (hm : m.length ≤ 2) (hk : ¬ k < 2) (h : cmpCode l m = 0) : sumsF ((stF l m k 0).getD 0 default).val ((stF l m k 0).getD 1 default).val ((stF l m k 0).getD 2 default).val ((stF l m k 0).getD 3 default).val = refRes l m := by
  unfold refRes; rw [if_pos h]
  have e : stF l m k 0 = pad2 l ++ pad2 m := by unfold stF; rw [if_neg (by omega), if_neg (by omega)]
  rw [e]
  have v0 := val_default
  rcases len2 hl with rfl | ⟨a, rfl⟩ | ⟨a, b, rfl⟩ <;> rcases len2 hm with rfl | ⟨c, rfl⟩ | ⟨c, d, rfl⟩ <;> simp [pad2, pairF, List.replicate, v0]
theorem ref_eq (l m : List FR) : cmpRes l m = refRes l m := by
  unfold cmpRes refRes
  by_cases h : cmpCode l m = 0
  · rw [if_pos h, if_pos h]
    rw [cmpCode_iff] at h
    have h1 := vals_nn h.2.2.1; have h2 := vals_nn h.2.2.2
    rw [compareF_sg h1 h2, sums_four (pairF_nn h1 0) (pairF_nn h1 1) (pairF_nn h2 0) (pairF_nn h2 1)]
    rfl
  · rw [if_neg h, if_neg h]
theorem refRes_bad {l m : List FR} (h : cmpCode l m ≠ 0) : refRes l m = 0 := by unfold refRes; rw [if_neg h]
end Go.Proofs.Ytdeihehaheelmaa
namespace Go.Proofs.Ytdeihehaheelmaa
open Go.RowKit (Below)
theorem quad_toFX {a b c d : FR} {v : Value} {G : Gh} (h : (PTS [(some 3, RX a), (some 3, RX b), (some 3, RX c), (some 3, RX d)]).t v G) (hs : shortF [a, b, c, d] = true) : (PTS [(some 3, FX 64 a), (some 3, FX 64 b), (some 3, FX 64 c), (some 3, FX 64 d)]).t v G := by
  unfold shortF at hs; simp at hs
  obtain ⟨us, e, hl, hE⟩ := h
  refine ⟨us, e, hl, fun i f u hf hu => ?_⟩
  match i, hf with
  | 0, hf => cases hf; have := hE 0 _ u rfl hu; exact ⟨this.1, RX.toFX this.2 hs.1⟩
  | 1, hf => cases hf; have := hE 1 _ u rfl hu; exact ⟨this.1, RX.toFX this.2 hs.2.1⟩
  | 2, hf => cases hf; have := hE 2 _ u rfl hu; exact ⟨this.1, RX.toFX this.2 hs.2.2.1⟩
  | 3, hf => cases hf; have := hE 3 _ u rfl hu; exact ⟨this.1, RX.toFX this.2 hs.2.2.2⟩
def scF (l : List FR) (c : Rat) : List FR := l.map fun r => FR.of (r.val * c)
theorem rt_c {c : Rat} (hc : 0 ≤ c) : rt (c * c) = RR.of c := rt_eq (rt_nn _) (RR.of_le (p := 0) |>.2 hc) (by rw [rt_sq (Rat.mul_nonneg hc hc), RR.of_mul])
theorem rt_cc {c d : Rat} (hc : 0 ≤ c) (hd : 0 ≤ d) : rt (d * (c * c)) = RR.of c * rt d := by rw [rt_mul hd (Rat.mul_nonneg hc hc), rt_c hc, RR.mul_comm]
theorem sgR_k {k : Rat} (hk : 0 < k) (x : RR) : sgR (RR.of k * x) = sgR x := by rw [sgR_mul, sgR_pos (RR.of_lt (p := 0) |>.2 hk), Int.one_mul]
theorem mixed_sc1 {x y d c : Rat} (hc : 0 < c) (hd : 0 ≤ d) : mixedF (x * c) y (d * (c * c)) = mixedF x y d := by
  have h0 : 0 ≤ c := by grind
  rw [mixed_sg hd, mixed_sg (Rat.mul_nonneg hd (Rat.mul_nonneg h0 h0)), rt_cc h0 hd, ← sgR_k hc (RR.of x + RR.of y * rt d), RR.of_mul]
  congr 1
  generalize RR.of x = a; generalize RR.of y = b; generalize rt d = e; generalize RR.of c = f
  obtain ⟨a, ha, rfl⟩ := RR.rep a; obtain ⟨b, hb, rfl⟩ := RR.rep b; obtain ⟨e, he, rfl⟩ := RR.rep e; obtain ⟨f, hf, rfl⟩ := RR.rep f
  exact RR.ext fun n => by grind
theorem mixed_sc2 {x y d c : Rat} (hc : 0 < c) (hd : 0 ≤ d) : mixedF (x * (c * c)) (y * c) (d * (c * c)) = mixedF x y d := by
  have h0 : 0 ≤ c := by grind
  rw [mixed_sg hd, mixed_sg (Rat.mul_nonneg hd (Rat.mul_nonneg h0 h0)), rt_cc h0 hd, ← sgR_k (Rat.mul_pos hc hc) (RR.of x + RR.of y * rt d)]
  simp only [RR.of_mul]
  congr 1
  generalize RR.of x = a; generalize RR.of y = b; generalize rt d = e; generalize RR.of c = f
  obtain ⟨a, ha, rfl⟩ := RR.rep a; obtain ⟨b, hb, rfl⟩ := RR.rep b; obtain ⟨e, he, rfl⟩ := RR.rep e; obtain ⟨f, hf, rfl⟩ := RR.rep f
  exact RR.ext fun n => by grind
theorem closes_sc {p q r s c : Rat} (hc : 0 < c) (hq : 0 ≤ q) (hr : 0 ≤ r) : closesF (p * c) (q * c) (r * c) (s * c) = closesF p q r s := by
  have hd := Rat.mul_nonneg hq hr
  unfold closesF
  have e1 : q * c + r * c - (p * c + s * c) = (q + r - (p + s)) * c := by grind
  have e2 : q * c * (r * c) = q * r * (c * c) := by grind
  have e3 : p * c * (s * c) = p * s * (c * c) := by grind
  rw [e1, e2, e3]
  have e4 : (q + r - (p + s)) * c * ((q + r - (p + s)) * c) + 4 * (q * r * (c * c)) - 4 * (p * s * (c * c)) = ((q + r - (p + s)) * (q + r - (p + s)) + 4 * (q * r) - 4 * (p * s)) * (c * c) := by grind
  have e5 : 4 * ((q + r - (p + s)) * c) = 4 * (q + r - (p + s)) * c := by grind
  rw [e4, e5, mixed_sc1 hc hd, mixed_sc2 hc hd]
theorem compare_sc {p q r s c : Rat} (hc : 0 < c) (hp : 0 ≤ p) (hq : 0 ≤ q) (hr : 0 ≤ r) (hs : 0 ≤ s) : compareF [p * c, q * c] [r * c, s * c] = compareF [p, q] [r, s] := by
  have h0 : 0 ≤ c := by grind
  show rootsF (p * c + q * c - (r * c + s * c)) (p * c * (q * c)) (r * c * (s * c)) = rootsF (p + q - (r + s)) (p * q) (r * s)
  rw [roots_four hp hq hr hs, roots_four (Rat.mul_nonneg hp h0) (Rat.mul_nonneg hq h0) (Rat.mul_nonneg hr h0) (Rat.mul_nonneg hs h0), rt_mul hp h0, rt_mul hq h0, rt_mul hr h0, rt_mul hs h0]
  have e : rt p * rt c + rt q * rt c - (rt r * rt c + rt s * rt c) = rt c * (rt p + rt q - (rt r + rt s)) := by
    generalize rt p = a; generalize rt q = b; generalize rt r = d; generalize rt s = e; generalize rt c = f
    obtain ⟨a, ha, rfl⟩ := RR.rep a; obtain ⟨b, hb, rfl⟩ := RR.rep b; obtain ⟨d, hd, rfl⟩ := RR.rep d; obtain ⟨e, he, rfl⟩ := RR.rep e; obtain ⟨f, hf, rfl⟩ := RR.rep f
    exact RR.ext fun n => by grind
  rw [e, sgR_mul, sgR_rt h0]
  have : c.num.sign = 1 := by
    have := rat_pos_iff.1 hc
    have := sgn_cases c.num; omega
  rw [this, Int.one_mul]
theorem rmul_lt_iff {a b c : Rat} (hc : 0 < c) : a * c < b * c ↔ a < b := by
  constructor
  · intro h
    refine Classical.byContradiction fun h2 => ?_
    have h3 : b ≤ a := by grind
    have := Rat.mul_le_mul_of_nonneg_right h3 (show 0 ≤ c by grind)
    grind
  · intro h; exact Rat.mul_lt_mul_of_pos_right h hc
theorem cmp_sc {a b c : Rat} (hc : 0 < c) : cmpQ (a * c) (b * c) = cmpQ a b := by unfold cmpQ; simp only [rmul_lt_iff hc]
theorem max_sc {a b c : Rat} (hc : 0 < c) : maxQ (a * c) (b * c) = maxQ a b * c := by
  unfold maxQ
  have h1 := @rmul_lt_iff a b c hc
  by_cases h : b ≤ a
  · rw [if_pos h, if_pos (by grind)]
  · rw [if_neg h, if_neg (by grind)]
theorem min_sc {a b c : Rat} (hc : 0 < c) : minQ (a * c) (b * c) = minQ a b * c := by
  unfold minQ
  have h1 := @rmul_lt_iff b a c hc
  by_cases h : a ≤ b
  · rw [if_pos h, if_pos (by grind)]
  · rw [if_neg h, if_neg (by grind)]
theorem getD_sc {xs : List Rat} {c : Rat} {j : Nat} : (xs.map (· * c)).getD j default = xs.getD j default * c := by
  rw [List.getD_eq_getElem?_getD, List.getD_eq_getElem?_getD, List.getElem?_map]
  cases xs[j]? with
  | none => show (0 : Rat) = 0 * c; grind
  | some z => rfl
theorem ins_sc {xs : List Rat} {c : Rat} (hc : 0 < c) (k : Nat) (o : List Nat) : insF (xs.map (· * c)) k o = insF xs k o := by
  induction k generalizing o with
  | zero => rfl
  | succ k ih => unfold insF; rw [getD_sc, getD_sc, cmp_sc hc, ih]
theorem ord_sc {xs : List Rat} {c : Rat} (hc : 0 < c) (i n : Nat) (o : List Nat) : ordF (xs.map (· * c)) i o n = ordF xs i o n := by
  induction n generalizing i o with
  | zero => rfl
  | succ n ih => unfold ordF; rw [ins_sc hc, ih]
theorem order_sc {xs : List Rat} {c : Rat} (hc : 0 < c) : orderF (xs.map (· * c)) = orderF xs := ord_sc hc _ _ _
theorem vals_sc {l : List FR} {c : Rat} : (scF l c).map FR.val = (l.map FR.val).map (· * c) := by
  unfold scF; rw [List.map_map, List.map_map]; exact List.map_congr_left fun r _ => FR.of_val _
theorem val_sc {l : List FR} {c : Rat} (j : Nat) : ((scF l c).getD j default).val = (l.getD j default).val * c := by
  unfold scF
  rw [List.getD_eq_getElem?_getD, List.getD_eq_getElem?_getD, List.getElem?_map]
  cases l[j]? with
  | none => show (default : FR).val = (default : FR).val * c; rw [val_default]; grind
  | some z => exact FR.of_val _
theorem lk_sc {l : List FR} {c : Rat} (hc : 0 < c) (j : Nat) : lk (scF l c) j = lk l j * c := by
  unfold lk; rw [vals_sc, order_sc hc, val_sc]
theorem posR_val {r : FR} (h : posR r = true) : 0 < r.val := by unfold posR at h; simp at h; exact h.2
theorem vals_pos {l : List FR} (h : l.all posR = true) (j : Nat) : 0 ≤ (l.getD j default).val := by
  rw [List.getD_eq_getElem?_getD]
  cases hj : l[j]? with
  | none => show 0 ≤ (default : FR).val; rw [val_default]; exact Rat.le_refl
  | some z => have := posR_val (List.all_eq_true.1 h z (List.mem_of_getElem? hj)); show 0 ≤ z.val; grind
theorem lk_nn {l : List FR} (h : l.all posR = true) (j : Nat) : 0 ≤ lk l j := vals_pos h _
theorem chk_pos {l : List FR} (h : chkF l = 0) : l.all posR = true := by
  unfold chkF at h
  cases hp : l.all posR with
  | true => rfl
  | false => rw [hp, if_neg (by decide)] at h; exact absurd h (by decide)
theorem pos_sc {l : List FR} {c : Rat} (hc : 0 < c) (h : l.all posR = true) : (scF l c).all posR = true := by
  unfold scF
  rw [List.all_map, List.all_eq_true]
  intro r hr
  show posR (FR.of (r.val * c)) = true
  rw [posR_of4]
  exact decide_eq_true (Rat.mul_pos (posR_val (List.all_eq_true.1 h r hr)) hc)
theorem chk_sc {l : List FR} {c : Rat} (hc : 0 < c) (h : chkF l = 0) : chkF (scF l c) = 0 := by
  have hp := chk_pos h
  unfold chkF at h ⊢
  rw [pos_sc hc hp]
  rw [hp] at h
  simp only [lk_sc hc]
  rw [closes_sc hc (lk_nn hp 0) (lk_nn hp 1)]
  exact h
theorem exc_sc {l : List FR} {c : Rat} (hc : 0 < c) (h : l.all posR = true) : excF (scF l c) = excF l := by
  unfold excF
  simp only [lk_sc hc]
  exact compare_sc hc (lk_nn h 0) (lk_nn h 3) (lk_nn h 1) (lk_nn h 2)
theorem cls_sc {l : List FR} {c : Rat} (hc : 0 < c) (h : chkF l = 0) : clsF (scF l c) = clsF l := by
  unfold clsF
  rw [chk_sc hc h, h, exc_sc hc (chk_pos h), vals_sc, order_sc hc]
theorem max_nn {a b : Rat} (ha : 0 ≤ a) (hb : 0 ≤ b) : 0 ≤ maxQ a b := by unfold maxQ; split <;> assumption
theorem min_nn {a b : Rat} (ha : 0 ≤ a) (hb : 0 ≤ b) : 0 ≤ minQ a b := by unfold minQ; split <;> assumption
theorem rot_sc {l : List FR} {c : Rat} (hc : 0 < c) (h : chkF l = 0) (k : Int) : rotF (scF l c) k = rotF l k ∧ rotCode (scF l c) k = rotCode l k := by
  have hp := chk_pos h
  have e : rotCode (scF l c) k = rotCode l k := by unfold rotCode; rw [chk_sc hc h, h]
  refine ⟨?_, e⟩
  unfold rotF; rw [e]
  congr 1
  unfold rotL
  simp only [val_sc, max_sc hc, min_sc hc]
  rw [compare_sc hc (vals_pos hp _) (vals_pos hp _) (vals_pos hp _) (vals_pos hp _), compare_sc hc (max_nn (vals_pos hp _) (vals_pos hp _)) (min_nn (vals_pos hp _) (vals_pos hp _)) (min_nn (vals_pos hp _) (vals_pos hp _)) (max_nn (vals_pos hp _) (vals_pos hp _))]
theorem sgn_pos_of {q : Rat} (h : ¬ q.num.sign ≤ 0) : 0 < q := by rw [rat_pos_iff]; have := sgn_cases q.num; omega
theorem rot_in {l : List FR} {i : Nat} (h : chkF l = 0) (hi : i < 4) : rotCode l ((i : Nat) : Int) = 0 := rotC_ok (by omega) (by omega)
end Go.Proofs.Ytdeihehaheelmaa
namespace Go.Proofs.Ytdeihehaheelmaa
open Go.RowKit (Below)
def befR (xs : List Rat) (p q : Nat) : Prop := if p < q then xs.getD p default ≤ xs.getD q default else xs.getD p default < xs.getD q default
theorem cmpQ_lt0 {x y : Rat} : cmpQ x y < 0 ↔ x < y := by unfold cmpQ; split <;> (try split) <;> simp_all
section
variable {xs : List Rat} {p q i j k m : Nat}
theorem bef_t (hpq : q < p) (h : cmpQ (xs.getD p default) (xs.getD q default) < 0) : befR xs p q := by unfold befR; rw [if_neg (by omega)]; exact cmpQ_lt0.1 h
theorem bef_f (hpq : q < p) (h : ¬ cmpQ (xs.getD p default) (xs.getD q default) < 0) : befR xs q p := by unfold befR; rw [if_pos hpq]; rw [cmpQ_lt0] at h; exact Rat.not_lt.1 h
theorem ins1 : insF xs 1 [i, j, k, m] = if cmpQ (xs.getD j default) (xs.getD i default) < 0 then [j, i, k, m] else [i, j, k, m] := rfl
theorem ins2 : insF xs 2 [i, j, k, m] = if cmpQ (xs.getD k default) (xs.getD j default) < 0 then insF xs 1 [i, k, j, m] else [i, j, k, m] := rfl
theorem ins3 : insF xs 3 [i, j, k, m] = if cmpQ (xs.getD m default) (xs.getD k default) < 0 then insF xs 2 [i, j, m, k] else [i, j, k, m] := rfl
theorem ins1_spec (hj : i < j) : (insF xs 1 [i, j, k, m] = [j, i, k, m] ∧ befR xs j i) ∨ (insF xs 1 [i, j, k, m] = [i, j, k, m] ∧ befR xs i j) := by
  rw [ins1]; split
  · exact .inl ⟨rfl, bef_t hj ‹_›⟩
  · exact .inr ⟨rfl, bef_f hj ‹_›⟩
theorem ins2_spec (hi : i < k) (hj : j < k) (h : befR xs i j) : (insF xs 2 [i, j, k, m] = [k, i, j, m] ∧ befR xs k i ∧ befR xs i j) ∨ (insF xs 2 [i, j, k, m] = [i, k, j, m] ∧ befR xs i k ∧ befR xs k j) ∨ (insF xs 2 [i, j, k, m] = [i, j, k, m] ∧ befR xs i j ∧ befR xs j k) := by
  rw [ins2]; split
  · rename_i h1
    rcases ins1_spec (xs := xs) (k := j) (m := m) hi with ⟨e, b⟩ | ⟨e, b⟩
    · exact .inl ⟨e, b, h⟩
    · exact .inr (.inl ⟨e, b, bef_t hj h1⟩)
  · exact .inr (.inr ⟨rfl, h, bef_f hj ‹_›⟩)
theorem ins3_spec (hi : i < m) (hj : j < m) (hk : k < m) (h1 : befR xs i j) (h2 : befR xs j k) : (insF xs 3 [i, j, k, m] = [m, i, j, k] ∧ befR xs m i ∧ befR xs i j ∧ befR xs j k) ∨ (insF xs 3 [i, j, k, m] = [i, m, j, k] ∧ befR xs i m ∧ befR xs m j ∧ befR xs j k) ∨
    (insF xs 3 [i, j, k, m] = [i, j, m, k] ∧ befR xs i j ∧ befR xs j m ∧ befR xs m k) ∨ (insF xs 3 [i, j, k, m] = [i, j, k, m] ∧ befR xs i j ∧ befR xs j k ∧ befR xs k m) := by
  rw [ins3]; split
  · rename_i h
    rcases ins2_spec (xs := xs) (m := k) hi hj h1 with ⟨e, b1, b2⟩ | ⟨e, b1, b2⟩ | ⟨e, b1, b2⟩
    · exact .inl ⟨e, b1, b2, h2⟩
    · exact .inr (.inl ⟨e, b1, b2, h2⟩)
    · exact .inr (.inr (.inl ⟨e, b1, b2, bef_t hk h⟩))
  · exact .inr (.inr (.inr ⟨rfl, h1, h2, bef_f hk ‹_›⟩))
end
def ordO (xs : List Rat) (o : List Nat) : Prop := ∃ i j k m, o = [i, j, k, m] ∧ [i, j, k, m].Perm [0, 1, 2, 3] ∧ befR xs i j ∧ befR xs j k ∧ befR xs k m
theorem order_ok (xs : List Rat) : ordO xs (orderF xs) := by
  have e : orderF xs = insF xs 3 (insF xs 2 (insF xs 1 [0, 1, 2, 3])) := rfl
  rw [e]
  rcases ins1_spec (xs := xs) (i := 0) (j := 1) (k := 2) (m := 3) (by decide) with ⟨e1, b1⟩ | ⟨e1, b1⟩ <;> rw [e1]
  · rcases ins2_spec (xs := xs) (i := 1) (j := 0) (k := 2) (m := 3) (by decide) (by decide) b1 with ⟨e2, c1, c2⟩ | ⟨e2, c1, c2⟩ | ⟨e2, c1, c2⟩ <;> rw [e2]
    all_goals rcases ins3_spec (xs := xs) (m := 3) (by decide) (by decide) (by decide) c1 c2 with ⟨e3, d1, d2, d3⟩ | ⟨e3, d1, d2, d3⟩ | ⟨e3, d1, d2, d3⟩ | ⟨e3, d1, d2, d3⟩ <;> exact ⟨_, _, _, _, e3, by decide, d1, d2, d3⟩
  · rcases ins2_spec (xs := xs) (i := 0) (j := 1) (k := 2) (m := 3) (by decide) (by decide) b1 with ⟨e2, c1, c2⟩ | ⟨e2, c1, c2⟩ | ⟨e2, c1, c2⟩ <;> rw [e2]
    all_goals rcases ins3_spec (xs := xs) (m := 3) (by decide) (by decide) (by decide) c1 c2 with ⟨e3, d1, d2, d3⟩ | ⟨e3, d1, d2, d3⟩ | ⟨e3, d1, d2, d3⟩ | ⟨e3, d1, d2, d3⟩ <;> exact ⟨_, _, _, _, e3, by decide, d1, d2, d3⟩
theorem bef_le {xs : List Rat} {p q : Nat} (h : befR xs p q) : xs.getD p default ≤ xs.getD q default := by
  unfold befR at h; split at h
  · exact h
  · grind
theorem bef_trans {xs : List Rat} {p q r : Nat} (h : befR xs p q) (k : befR xs q r) : befR xs p r := by
  unfold befR at *
  split at h <;> split at k <;> split <;> first | grind | omega
theorem bef_asymm {xs : List Rat} {p q : Nat} (h : befR xs p q) (k : befR xs q p) : False := by
  unfold befR at *
  split at h <;> split at k <;> first | grind | omega
theorem ordO_uniq {xs : List Rat} {o o' : List Nat} (h : ordO xs o) (h' : ordO xs o') : o = o' := by
  obtain ⟨i, j, k, m, rfl, hp, b1, b2, b3⟩ := h
  obtain ⟨i', j', k', m', rfl, hp', c1, c2, c3⟩ := h'
  have hperm := hp.trans hp'.symm
  have hs : ∀ {i j k m : Nat}, befR xs i j → befR xs j k → befR xs k m → [i, j, k, m].Pairwise (befR xs) := fun b1 b2 b3 => by
    simp only [List.pairwise_cons, List.mem_cons, List.not_mem_nil, or_false, forall_eq_or_imp, forall_eq, List.Pairwise.nil, and_true]
    exact ⟨⟨b1, bef_trans b1 b2, bef_trans (bef_trans b1 b2) b3⟩, ⟨b2, bef_trans b2 b3⟩, b3, by simp⟩
  exact hperm.eq_of_pairwise (le := befR xs) (fun a b _ _ h k => (bef_asymm h k).elim) (hs b1 b2 b3) (hs c1 c2 c3)
end Go.Proofs.Ytdeihehaheelmaa
namespace Go.Proofs.Ytdeihehaheelmaa
open Go.RowKit (Below)
theorem RR.add_le_add {a b c d : RR} (h : a ≤ b) (k : c ≤ d) : a + c ≤ b + d := by
  refine RR.le_trans (RR.add_le_add_right h c) ?_
  rw [RR.add_comm b c, RR.add_comm b d]; exact RR.add_le_add_right k b
theorem sgR_le {x y : RR} : sgR (x - y) ≤ 0 ↔ x ≤ y := by
  rcases sgR_cases (x - y) with ⟨h, e⟩ | ⟨h, e⟩ | ⟨h, e⟩ <;> rw [e]
  · refine ⟨fun _ => RR.le_of_lt (RR.lt_iff_sub.2 ?_), fun _ => by decide⟩
    rw [← RR.neg_sub]; exact RR.neg_pos.2 h
  · refine ⟨fun _ => ?_, fun _ => by decide⟩
    rw [← RR.sub_add x y, h, RR.zero_add]; exact RR.le_refl _
  · refine ⟨fun h2 => absurd h2 (by decide), fun h2 => ?_⟩
    have h3 : y < x := RR.lt_iff_sub.2 h
    exact absurd h2 h3
theorem sgR_ge {x y : RR} : sgR (x - y) ≥ 0 ↔ y ≤ x := by
  rw [← RR.neg_sub, sgR_negate]
  have := @sgR_le y x
  constructor
  · intro h; exact this.1 (by omega)
  · intro h; have := this.2 h; omega
section
variable {a b c d s p q m : Rat}
theorem cmp4 (ha : 0 ≤ a) (hb : 0 ≤ b) (hc : 0 ≤ c) (hd : 0 ≤ d) : compareF [a, b] [c, d] = sgR ((rt a + rt b) - (rt c + rt d)) := roots_four ha hb hc hd
def rotQ (a b c d : Rat) : Prop := compareF [a, b] [c, d] ≤ 0 ∧ compareF [maxQ a b, minQ c d] [minQ a b, maxQ c d] ≥ 0
theorem max_comm : maxQ a b = maxQ b a := by unfold maxQ; split <;> split <;> grind
theorem min_comm : minQ a b = minQ b a := by unfold minQ; split <;> split <;> grind
theorem max_le (h : a ≤ b) : maxQ a b = b := by unfold maxQ; split <;> grind
theorem min_le (h : a ≤ b) : minQ a b = a := by unfold minQ; rw [if_pos h]
theorem rotQ_iff (ha : 0 ≤ a) (hb : 0 ≤ b) (hc : 0 ≤ c) (hd : 0 ≤ d) (hab : a ≤ b) (hcd : c ≤ d) : rotQ a b c d ↔ rt a + rt b ≤ rt c + rt d ∧ rt a + rt d ≤ rt b + rt c := by
  unfold rotQ
  rw [max_le hab, min_le hab, max_le hcd, min_le hcd, cmp4 ha hb hc hd, cmp4 hb hc ha hd, sgR_le, sgR_ge]
theorem rotQ_swap1 (ha : 0 ≤ a) (hb : 0 ≤ b) (hc : 0 ≤ c) (hd : 0 ≤ d) : rotQ a b c d ↔ rotQ b a c d := by
  unfold rotQ
  rw [max_comm (a := b) (b := a), min_comm (a := b) (b := a), cmp4 ha hb hc hd, cmp4 hb ha hc hd, RR.add_comm (rt b)]
theorem rotQ_swap2 (ha : 0 ≤ a) (hb : 0 ≤ b) (hc : 0 ≤ c) (hd : 0 ≤ d) : rotQ a b c d ↔ rotQ a b d c := by
  unfold rotQ
  rw [max_comm (a := d) (b := c), min_comm (a := d) (b := c), cmp4 ha hb hc hd, cmp4 ha hb hd hc, RR.add_comm (rt d)]
variable (h0 : 0 ≤ s) (h1 : s ≤ p) (h2 : p ≤ q) (h3 : q ≤ m)
include h0 h1 h2 h3
theorem exc_le : compareF [s, m] [p, q] ≤ 0 ↔ rt s + rt m ≤ rt p + rt q := by
  rw [cmp4 h0 (by grind) (by grind) (by grind), sgR_le]
theorem exc_ne (h : rt s + rt m ≤ rt p + rt q) (k : rt p + rt q ≤ rt s + rt m) : compareF [s, m] [p, q] = 0 := by
  rw [cmp4 h0 (by grind) (by grind) (by grind), RR.le_antisymm h k, RR.sub_self, sgR_zero]
theorem rot_sp : rotQ s p q m ↔ compareF [s, m] [p, q] ≤ 0 := by
  rw [exc_le h0 h1 h2 h3, rotQ_iff h0 (by grind) (by grind) (by grind) h1 h3]
  exact ⟨fun h => h.2, fun h => ⟨RR.add_le_add (rt_le h0 (by grind)) (rt_le (by grind) (by grind)), h⟩⟩
theorem rot_sq : rotQ s q p m ↔ compareF [s, m] [p, q] ≤ 0 := by
  rw [exc_le h0 h1 h2 h3, rotQ_iff h0 (by grind) (by grind) (by grind) (by grind) (by grind), RR.add_comm (rt q) (rt p)]
  exact ⟨fun h => h.2, fun h => ⟨RR.add_le_add (rt_le h0 h1) (rt_le (by grind) h3), h⟩⟩
theorem rot_sm : rotQ s m p q ↔ compareF [s, m] [p, q] ≤ 0 := by
  rw [exc_le h0 h1 h2 h3, rotQ_iff h0 (by grind) (by grind) (by grind) (by grind) h2]
  refine ⟨fun h => h.1, fun h => ⟨h, ?_⟩⟩
  rw [RR.add_comm (rt m)]; exact RR.add_le_add (rt_le h0 h1) (rt_le (by grind) h3)
theorem rot_pq (h : rotQ p q s m) : compareF [s, m] [p, q] = 0 := by
  rw [rotQ_iff (by grind) (by grind) h0 (by grind) h2 (by grind)] at h
  have hS := rt_le h0 h1; have hQ := rt_le (show 0 ≤ q by grind) h3
  have h4 : rt p + rt m ≤ rt q + rt s := h.2
  refine exc_ne h0 h1 h2 h3 (RR.le_trans (RR.add_le_add hS (RR.le_refl (rt m))) (RR.le_trans h4 ?_)) h.1
  rw [RR.add_comm (rt p)]; exact RR.add_le_add (RR.le_refl _) hS
theorem rot_pm (h : rotQ p m s q) : compareF [s, m] [p, q] = 0 := by
  rw [rotQ_iff (by grind) (by grind) h0 (by grind) (by grind) (by grind)] at h
  have hS := rt_le h0 h1; have hQ := rt_le (show 0 ≤ q by grind) h3
  exact exc_ne h0 h1 h2 h3 (RR.le_trans (RR.add_le_add hS (RR.le_refl (rt m))) (RR.le_trans h.1 (RR.add_le_add hS (RR.le_refl _)))) (RR.le_trans (RR.add_le_add (RR.le_refl (rt p)) hQ) (RR.le_trans h.1 (RR.add_le_add (RR.le_refl _) hQ)))
theorem rot_qm (h : rotQ q m s p) : compareF [s, m] [p, q] = 0 := by
  rw [rotQ_iff (by grind) (by grind) h0 (by grind) h3 h1] at h
  have hS := rt_le h0 (show s ≤ q by grind); have hP := rt_le (show 0 ≤ p by grind) (show p ≤ m by grind)
  refine exc_ne h0 h1 h2 h3 (RR.le_trans (RR.add_le_add hS (RR.le_refl (rt m))) (RR.le_trans h.1 ?_)) ?_
  · rw [RR.add_comm (rt p)]; exact RR.add_le_add hS (RR.le_refl _)
  · rw [RR.add_comm (rt p)]; exact RR.le_trans (RR.add_le_add (RR.le_refl (rt q)) hP) (RR.le_trans h.1 (RR.add_le_add (RR.le_refl _) hP))
end
end Go.Proofs.Ytdeihehaheelmaa
namespace Go.Proofs.Ytdeihehaheelmaa
open Go.RowKit (Below)
def perms4 : List (List Nat) := [[0, 1, 2, 3], [0, 1, 3, 2], [0, 2, 1, 3], [0, 2, 3, 1], [0, 3, 1, 2], [0, 3, 2, 1], [1, 0, 2, 3], [1, 0, 3, 2], [1, 2, 0, 3], [1, 2, 3, 0], [1, 3, 0, 2], [1, 3, 2, 0], [2, 0, 1, 3], [2, 0, 3, 1], [2, 1, 0, 3], [2, 1, 3, 0], [2, 3, 0, 1], [2, 3, 1, 0], [3, 0, 1, 2], [3, 0, 2, 1], [3, 1, 0, 2], [3, 1, 2, 0], [3, 2, 0, 1], [3, 2, 1, 0]]
theorem perm4 {i j k m : Nat} (h : [i, j, k, m].Perm [0, 1, 2, 3]) : [i, j, k, m] ∈ perms4 := by
  have hm : ∀ x ∈ [i, j, k, m], x < 4 := fun x hx => by
    have := h.mem_iff.1 hx
    simp at this; omega
  have all : ∀ i, i < 4 → ∀ j, j < 4 → ∀ k, k < 4 → ∀ m, m < 4 → [i, j, k, m].isPerm [0, 1, 2, 3] = true → perms4.contains [i, j, k, m] = true := by decide +kernel
  have := all i (hm i (by simp)) j (hm j (by simp)) k (hm k (by simp)) m (hm m (by simp)) (List.isPerm_iff.2 h)
  simpa using this
theorem fin_s {R C : Prop} {E : Int} (h : R ↔ E ≤ 0) (hC : C) : (E > 0 → ¬ R) ∧ (E < 0 → (R ↔ C)) := ⟨fun e r => by have := h.1 r; omega, fun e => ⟨fun _ => hC, fun _ => h.2 (by omega)⟩⟩
theorem fin_n {R C : Prop} {E : Int} (h : R → E = 0) (hC : ¬ C) : (E > 0 → ¬ R) ∧ (E < 0 → (R ↔ C)) := ⟨fun e r => by have := h r; omega, fun e => ⟨fun r => by have := h r; omega, fun c => absurd c hC⟩⟩
attribute [local irreducible] rotQ compareF befR
set_option maxHeartbeats 4000000 in
theorem turn_law {xs : List Rat} (hn : ∀ j, 0 ≤ xs.getD j default) {i j k m : Nat} (hp : [i, j, k, m].Perm [0, 1, 2, 3]) (b1 : befR xs i j) (b2 : befR xs j k) (b3 : befR xs k m) {t : Nat} (ht : t < 4) :
    (compareF [xs.getD i default, xs.getD m default] [xs.getD j default, xs.getD k default] > 0 → ¬ rotQ (xs.getD t default) (xs.getD ((t + 3) % 4) default) (xs.getD ((t + 1) % 4) default) (xs.getD ((t + 2) % 4) default)) ∧
    (compareF [xs.getD i default, xs.getD m default] [xs.getD j default, xs.getD k default] < 0 → (rotQ (xs.getD t default) (xs.getD ((t + 3) % 4) default) (xs.getD ((t + 1) % 4) default) (xs.getD ((t + 2) % 4) default) ↔ (t = i ∨ (t + 3) % 4 = i))) := by
  have h0 := hn i; have h1 := bef_le b1; have h2 := bef_le b2; have h3 := bef_le b3
  have hm := perm4 hp
  simp only [perms4, List.mem_cons, List.not_mem_nil, or_false, List.cons.injEq, and_true] at hm
  clear hp b1 b2 b3
  rcases hm with ⟨rfl, rfl, rfl, rfl⟩ | ⟨rfl, rfl, rfl, rfl⟩ | ⟨rfl, rfl, rfl, rfl⟩ | ⟨rfl, rfl, rfl, rfl⟩ | ⟨rfl, rfl, rfl, rfl⟩ | ⟨rfl, rfl, rfl, rfl⟩ | ⟨rfl, rfl, rfl, rfl⟩ | ⟨rfl, rfl, rfl, rfl⟩ | ⟨rfl, rfl, rfl, rfl⟩ | ⟨rfl, rfl, rfl, rfl⟩ | ⟨rfl, rfl, rfl, rfl⟩ | ⟨rfl, rfl, rfl, rfl⟩ | ⟨rfl, rfl, rfl, rfl⟩ | ⟨rfl, rfl, rfl, rfl⟩ | ⟨rfl, rfl, rfl, rfl⟩ | ⟨rfl, rfl, rfl, rfl⟩ | ⟨rfl, rfl, rfl, rfl⟩ | ⟨rfl, rfl, rfl, rfl⟩ | ⟨rfl, rfl, rfl, rfl⟩ | ⟨rfl, rfl, rfl, rfl⟩ | ⟨rfl, rfl, rfl, rfl⟩ | ⟨rfl, rfl, rfl, rfl⟩ | ⟨rfl, rfl, rfl, rfl⟩ | ⟨rfl, rfl, rfl, rfl⟩
  all_goals
    match t, ht with
    | 0, _ => first
        | exact fin_s (rot_sp h0 h1 h2 h3) (by decide)
        | exact fin_s ((rotQ_swap1 (hn _) (hn _) (hn _) (hn _)).trans (rot_sp h0 h1 h2 h3)) (by decide)
        | exact fin_s ((rotQ_swap2 (hn _) (hn _) (hn _) (hn _)).trans (rot_sp h0 h1 h2 h3)) (by decide)
        | exact fin_s ((rotQ_swap1 (hn _) (hn _) (hn _) (hn _)).trans ((rotQ_swap2 (hn _) (hn _) (hn _) (hn _)).trans (rot_sp h0 h1 h2 h3))) (by decide)
        | exact fin_s (rot_sq h0 h1 h2 h3) (by decide)
        | exact fin_s ((rotQ_swap1 (hn _) (hn _) (hn _) (hn _)).trans (rot_sq h0 h1 h2 h3)) (by decide)
        | exact fin_s ((rotQ_swap2 (hn _) (hn _) (hn _) (hn _)).trans (rot_sq h0 h1 h2 h3)) (by decide)
        | exact fin_s ((rotQ_swap1 (hn _) (hn _) (hn _) (hn _)).trans ((rotQ_swap2 (hn _) (hn _) (hn _) (hn _)).trans (rot_sq h0 h1 h2 h3))) (by decide)
        | exact fin_s (rot_sm h0 h1 h2 h3) (by decide)
        | exact fin_s ((rotQ_swap1 (hn _) (hn _) (hn _) (hn _)).trans (rot_sm h0 h1 h2 h3)) (by decide)
        | exact fin_s ((rotQ_swap2 (hn _) (hn _) (hn _) (hn _)).trans (rot_sm h0 h1 h2 h3)) (by decide)
        | exact fin_s ((rotQ_swap1 (hn _) (hn _) (hn _) (hn _)).trans ((rotQ_swap2 (hn _) (hn _) (hn _) (hn _)).trans (rot_sm h0 h1 h2 h3))) (by decide)
        | exact fin_n (fun r => rot_pq h0 h1 h2 h3 r) (by decide)
        | exact fin_n (fun r => rot_pq h0 h1 h2 h3 ((rotQ_swap1 (hn _) (hn _) (hn _) (hn _)).1 r)) (by decide)
        | exact fin_n (fun r => rot_pq h0 h1 h2 h3 ((rotQ_swap2 (hn _) (hn _) (hn _) (hn _)).1 r)) (by decide)
        | exact fin_n (fun r => rot_pq h0 h1 h2 h3 ((rotQ_swap2 (hn _) (hn _) (hn _) (hn _)).1 ((rotQ_swap1 (hn _) (hn _) (hn _) (hn _)).1 r))) (by decide)
        | exact fin_n (fun r => rot_pm h0 h1 h2 h3 r) (by decide)
        | exact fin_n (fun r => rot_pm h0 h1 h2 h3 ((rotQ_swap1 (hn _) (hn _) (hn _) (hn _)).1 r)) (by decide)
        | exact fin_n (fun r => rot_pm h0 h1 h2 h3 ((rotQ_swap2 (hn _) (hn _) (hn _) (hn _)).1 r)) (by decide)
        | exact fin_n (fun r => rot_pm h0 h1 h2 h3 ((rotQ_swap2 (hn _) (hn _) (hn _) (hn _)).1 ((rotQ_swap1 (hn _) (hn _) (hn _) (hn _)).1 r))) (by decide)
        | exact fin_n (fun r => rot_qm h0 h1 h2 h3 r) (by decide)
        | exact fin_n (fun r => rot_qm h0 h1 h2 h3 ((rotQ_swap1 (hn _) (hn _) (hn _) (hn _)).1 r)) (by decide)
        | exact fin_n (fun r => rot_qm h0 h1 h2 h3 ((rotQ_swap2 (hn _) (hn _) (hn _) (hn _)).1 r)) (by decide)
        | exact fin_n (fun r => rot_qm h0 h1 h2 h3 ((rotQ_swap2 (hn _) (hn _) (hn _) (hn _)).1 ((rotQ_swap1 (hn _) (hn _) (hn _) (hn _)).1 r))) (by decide)
    | 1, _ => first
        | exact fin_s (rot_sp h0 h1 h2 h3) (by decide)
        | exact fin_s ((rotQ_swap1 (hn _) (hn _) (hn _) (hn _)).trans (rot_sp h0 h1 h2 h3)) (by decide)
        | exact fin_s ((rotQ_swap2 (hn _) (hn _) (hn _) (hn _)).trans (rot_sp h0 h1 h2 h3)) (by decide)
        | exact fin_s ((rotQ_swap1 (hn _) (hn _) (hn _) (hn _)).trans ((rotQ_swap2 (hn _) (hn _) (hn _) (hn _)).trans (rot_sp h0 h1 h2 h3))) (by decide)
        | exact fin_s (rot_sq h0 h1 h2 h3) (by decide)
        | exact fin_s ((rotQ_swap1 (hn _) (hn _) (hn _) (hn _)).trans (rot_sq h0 h1 h2 h3)) (by decide)
        | exact fin_s ((rotQ_swap2 (hn _) (hn _) (hn _) (hn _)).trans (rot_sq h0 h1 h2 h3)) (by decide)
        | exact fin_s ((rotQ_swap1 (hn _) (hn _) (hn _) (hn _)).trans ((rotQ_swap2 (hn _) (hn _) (hn _) (hn _)).trans (rot_sq h0 h1 h2 h3))) (by decide)
        | exact fin_s (rot_sm h0 h1 h2 h3) (by decide)
        | exact fin_s ((rotQ_swap1 (hn _) (hn _) (hn _) (hn _)).trans (rot_sm h0 h1 h2 h3)) (by decide)
        | exact fin_s ((rotQ_swap2 (hn _) (hn _) (hn _) (hn _)).trans (rot_sm h0 h1 h2 h3)) (by decide)
        | exact fin_s ((rotQ_swap1 (hn _) (hn _) (hn _) (hn _)).trans ((rotQ_swap2 (hn _) (hn _) (hn _) (hn _)).trans (rot_sm h0 h1 h2 h3))) (by decide)
        | exact fin_n (fun r => rot_pq h0 h1 h2 h3 r) (by decide)
        | exact fin_n (fun r => rot_pq h0 h1 h2 h3 ((rotQ_swap1 (hn _) (hn _) (hn _) (hn _)).1 r)) (by decide)
        | exact fin_n (fun r => rot_pq h0 h1 h2 h3 ((rotQ_swap2 (hn _) (hn _) (hn _) (hn _)).1 r)) (by decide)
        | exact fin_n (fun r => rot_pq h0 h1 h2 h3 ((rotQ_swap2 (hn _) (hn _) (hn _) (hn _)).1 ((rotQ_swap1 (hn _) (hn _) (hn _) (hn _)).1 r))) (by decide)
        | exact fin_n (fun r => rot_pm h0 h1 h2 h3 r) (by decide)
        | exact fin_n (fun r => rot_pm h0 h1 h2 h3 ((rotQ_swap1 (hn _) (hn _) (hn _) (hn _)).1 r)) (by decide)
        | exact fin_n (fun r => rot_pm h0 h1 h2 h3 ((rotQ_swap2 (hn _) (hn _) (hn _) (hn _)).1 r)) (by decide)
        | exact fin_n (fun r => rot_pm h0 h1 h2 h3 ((rotQ_swap2 (hn _) (hn _) (hn _) (hn _)).1 ((rotQ_swap1 (hn _) (hn _) (hn _) (hn _)).1 r))) (by decide)
        | exact fin_n (fun r => rot_qm h0 h1 h2 h3 r) (by decide)
        | exact fin_n (fun r => rot_qm h0 h1 h2 h3 ((rotQ_swap1 (hn _) (hn _) (hn _) (hn _)).1 r)) (by decide)
        | exact fin_n (fun r => rot_qm h0 h1 h2 h3 ((rotQ_swap2 (hn _) (hn _) (hn _) (hn _)).1 r)) (by decide)
        | exact fin_n (fun r => rot_qm h0 h1 h2 h3 ((rotQ_swap2 (hn _) (hn _) (hn _) (hn _)).1 ((rotQ_swap1 (hn _) (hn _) (hn _) (hn _)).1 r))) (by decide)
    | 2, _ => first
        | exact fin_s (rot_sp h0 h1 h2 h3) (by decide)
        | exact fin_s ((rotQ_swap1 (hn _) (hn _) (hn _) (hn _)).trans (rot_sp h0 h1 h2 h3)) (by decide)
        | exact fin_s ((rotQ_swap2 (hn _) (hn _) (hn _) (hn _)).trans (rot_sp h0 h1 h2 h3)) (by decide)
        | exact fin_s ((rotQ_swap1 (hn _) (hn _) (hn _) (hn _)).trans ((rotQ_swap2 (hn _) (hn _) (hn _) (hn _)).trans (rot_sp h0 h1 h2 h3))) (by decide)
        | exact fin_s (rot_sq h0 h1 h2 h3) (by decide)
        | exact fin_s ((rotQ_swap1 (hn _) (hn _) (hn _) (hn _)).trans (rot_sq h0 h1 h2 h3)) (by decide)
        | exact fin_s ((rotQ_swap2 (hn _) (hn _) (hn _) (hn _)).trans (rot_sq h0 h1 h2 h3)) (by decide)
        | exact fin_s ((rotQ_swap1 (hn _) (hn _) (hn _) (hn _)).trans ((rotQ_swap2 (hn _) (hn _) (hn _) (hn _)).trans (rot_sq h0 h1 h2 h3))) (by decide)
        | exact fin_s (rot_sm h0 h1 h2 h3) (by decide)
        | exact fin_s ((rotQ_swap1 (hn _) (hn _) (hn _) (hn _)).trans (rot_sm h0 h1 h2 h3)) (by decide)
        | exact fin_s ((rotQ_swap2 (hn _) (hn _) (hn _) (hn _)).trans (rot_sm h0 h1 h2 h3)) (by decide)
        | exact fin_s ((rotQ_swap1 (hn _) (hn _) (hn _) (hn _)).trans ((rotQ_swap2 (hn _) (hn _) (hn _) (hn _)).trans (rot_sm h0 h1 h2 h3))) (by decide)
        | exact fin_n (fun r => rot_pq h0 h1 h2 h3 r) (by decide)
        | exact fin_n (fun r => rot_pq h0 h1 h2 h3 ((rotQ_swap1 (hn _) (hn _) (hn _) (hn _)).1 r)) (by decide)
        | exact fin_n (fun r => rot_pq h0 h1 h2 h3 ((rotQ_swap2 (hn _) (hn _) (hn _) (hn _)).1 r)) (by decide)
        | exact fin_n (fun r => rot_pq h0 h1 h2 h3 ((rotQ_swap2 (hn _) (hn _) (hn _) (hn _)).1 ((rotQ_swap1 (hn _) (hn _) (hn _) (hn _)).1 r))) (by decide)
        | exact fin_n (fun r => rot_pm h0 h1 h2 h3 r) (by decide)
        | exact fin_n (fun r => rot_pm h0 h1 h2 h3 ((rotQ_swap1 (hn _) (hn _) (hn _) (hn _)).1 r)) (by decide)
        | exact fin_n (fun r => rot_pm h0 h1 h2 h3 ((rotQ_swap2 (hn _) (hn _) (hn _) (hn _)).1 r)) (by decide)
        | exact fin_n (fun r => rot_pm h0 h1 h2 h3 ((rotQ_swap2 (hn _) (hn _) (hn _) (hn _)).1 ((rotQ_swap1 (hn _) (hn _) (hn _) (hn _)).1 r))) (by decide)
        | exact fin_n (fun r => rot_qm h0 h1 h2 h3 r) (by decide)
        | exact fin_n (fun r => rot_qm h0 h1 h2 h3 ((rotQ_swap1 (hn _) (hn _) (hn _) (hn _)).1 r)) (by decide)
        | exact fin_n (fun r => rot_qm h0 h1 h2 h3 ((rotQ_swap2 (hn _) (hn _) (hn _) (hn _)).1 r)) (by decide)
        | exact fin_n (fun r => rot_qm h0 h1 h2 h3 ((rotQ_swap2 (hn _) (hn _) (hn _) (hn _)).1 ((rotQ_swap1 (hn _) (hn _) (hn _) (hn _)).1 r))) (by decide)
    | 3, _ => first
        | exact fin_s (rot_sp h0 h1 h2 h3) (by decide)
        | exact fin_s ((rotQ_swap1 (hn _) (hn _) (hn _) (hn _)).trans (rot_sp h0 h1 h2 h3)) (by decide)
        | exact fin_s ((rotQ_swap2 (hn _) (hn _) (hn _) (hn _)).trans (rot_sp h0 h1 h2 h3)) (by decide)
        | exact fin_s ((rotQ_swap1 (hn _) (hn _) (hn _) (hn _)).trans ((rotQ_swap2 (hn _) (hn _) (hn _) (hn _)).trans (rot_sp h0 h1 h2 h3))) (by decide)
        | exact fin_s (rot_sq h0 h1 h2 h3) (by decide)
        | exact fin_s ((rotQ_swap1 (hn _) (hn _) (hn _) (hn _)).trans (rot_sq h0 h1 h2 h3)) (by decide)
        | exact fin_s ((rotQ_swap2 (hn _) (hn _) (hn _) (hn _)).trans (rot_sq h0 h1 h2 h3)) (by decide)
        | exact fin_s ((rotQ_swap1 (hn _) (hn _) (hn _) (hn _)).trans ((rotQ_swap2 (hn _) (hn _) (hn _) (hn _)).trans (rot_sq h0 h1 h2 h3))) (by decide)
        | exact fin_s (rot_sm h0 h1 h2 h3) (by decide)
        | exact fin_s ((rotQ_swap1 (hn _) (hn _) (hn _) (hn _)).trans (rot_sm h0 h1 h2 h3)) (by decide)
        | exact fin_s ((rotQ_swap2 (hn _) (hn _) (hn _) (hn _)).trans (rot_sm h0 h1 h2 h3)) (by decide)
        | exact fin_s ((rotQ_swap1 (hn _) (hn _) (hn _) (hn _)).trans ((rotQ_swap2 (hn _) (hn _) (hn _) (hn _)).trans (rot_sm h0 h1 h2 h3))) (by decide)
        | exact fin_n (fun r => rot_pq h0 h1 h2 h3 r) (by decide)
        | exact fin_n (fun r => rot_pq h0 h1 h2 h3 ((rotQ_swap1 (hn _) (hn _) (hn _) (hn _)).1 r)) (by decide)
        | exact fin_n (fun r => rot_pq h0 h1 h2 h3 ((rotQ_swap2 (hn _) (hn _) (hn _) (hn _)).1 r)) (by decide)
        | exact fin_n (fun r => rot_pq h0 h1 h2 h3 ((rotQ_swap2 (hn _) (hn _) (hn _) (hn _)).1 ((rotQ_swap1 (hn _) (hn _) (hn _) (hn _)).1 r))) (by decide)
        | exact fin_n (fun r => rot_pm h0 h1 h2 h3 r) (by decide)
        | exact fin_n (fun r => rot_pm h0 h1 h2 h3 ((rotQ_swap1 (hn _) (hn _) (hn _) (hn _)).1 r)) (by decide)
        | exact fin_n (fun r => rot_pm h0 h1 h2 h3 ((rotQ_swap2 (hn _) (hn _) (hn _) (hn _)).1 r)) (by decide)
        | exact fin_n (fun r => rot_pm h0 h1 h2 h3 ((rotQ_swap2 (hn _) (hn _) (hn _) (hn _)).1 ((rotQ_swap1 (hn _) (hn _) (hn _) (hn _)).1 r))) (by decide)
        | exact fin_n (fun r => rot_qm h0 h1 h2 h3 r) (by decide)
        | exact fin_n (fun r => rot_qm h0 h1 h2 h3 ((rotQ_swap1 (hn _) (hn _) (hn _) (hn _)).1 r)) (by decide)
        | exact fin_n (fun r => rot_qm h0 h1 h2 h3 ((rotQ_swap2 (hn _) (hn _) (hn _) (hn _)).1 r)) (by decide)
        | exact fin_n (fun r => rot_qm h0 h1 h2 h3 ((rotQ_swap2 (hn _) (hn _) (hn _) (hn _)).1 ((rotQ_swap1 (hn _) (hn _) (hn _) (hn _)).1 r))) (by decide)
end Go.Proofs.Ytdeihehaheelmaa
namespace Go.Proofs.Ytdeihehaheelmaa
set_option maxHeartbeats 1000000
set_option maxRecDepth 100000
open Go.RowKit (Below)
private theorem ap_48 : ∀ {u0 : Value} {u1 : Value} {u2 : Value} {u3 : Value} (h0 : Shaped (some 3) u0) (h1 : Shaped (some 3) u1) (h2 : Shaped (some 3) u2) (h3 : Shaped (some 3) u3),Try.prog.built 48 [(0,u0),(1,u1),(2,u2),(3,u3)] = some (flat [u0,u1,u2,u3]).toArray:=by
 intro u0 u1 u2 u3 h0 h1 h2 h3
 obtain ⟨c0_0,c0_1,c0_2,rfl⟩:=agg3 h0
 obtain ⟨c1_0,c1_1,c1_2,rfl⟩:=agg3 h1
 obtain ⟨c2_0,c2_1,c2_2,rfl⟩:=agg3 h2
 obtain ⟨c3_0,c3_1,c3_2,rfl⟩:=agg3 h3
 kernel_rfl
private theorem c_10 : callable Try.prog 10 = true:=by kernel_rfl
private theorem c_36 : callable Try.prog 36 = true:=by kernel_rfl
private theorem fo_37_0 : fldOff Try.prog 37 0 = some 0:=by kernel_rfl
private theorem fo_37_1 : fldOff Try.prog 37 1 = some 3:=by kernel_rfl
private theorem fo_37_2 : fldOff Try.prog 37 2 = some 6:=by kernel_rfl
private theorem fo_37_3 : fldOff Try.prog 37 3 = some 9:=by kernel_rfl
private theorem tS_35 : tyS Try.prog 35 (some 3) = true:=by kernel_rfl
private theorem tS_37 : tyS Try.prog 37 (some 12) = true:=by kernel_rfl
private theorem tS_48 : tyS Try.prog 48 (some 12) = true:=by kernel_rfl
private theorem z_48 : (Try.prog.info? 48).bind (·.zero) = some (.agg #[.bool false,.slice none 0 0,.slice none 0 0,.bool false,.slice none 0 0,.slice none 0 0,.bool false,.slice none 0 0,.slice none 0 0,.bool false,.slice none 0 0,.slice none 0 0]):=by kernel_rfl
private theorem zs_48 : Shaped (some 12) (.agg #[.bool false,.slice none 0 0,.slice none 0 0,.bool false,.slice none 0 0,.slice none 0 0,.bool false,.slice none 0 0,.slice none 0 0,.bool false,.slice none 0 0,.slice none 0 0]):=⟨_,rfl,rfl,by simp [Value.oneCell']⟩
theorem rSquaresX_ok {rg ra rb rc : FR} {v1 : Value} {W0 : World} {G0 : Gh} (hok : Gok W0 G0) (h1 : (PTS [(some 3,RX rg),(some 3,RX ra),(some 3,RX rb),(some 3,RX rc)]).t v1 G0)  : Calls Try.prog 36 #[v1] W0 (Ret W0 G0 (ARN (some 3) (([rg,ra,rb,rc]).map (RX)))):=by
 refine St.enter (N:=12) (L:=[(0,PTS [(some 3,RX rg),(some 3,RX ra),(some 3,RX rb),(some 3,RX rc)])]) (args:=[v1]) Try.func36 rfl rfl rfl hok (enter1 h1) fun a S=>?_
 refine wp_reg fun K hK=>?_
 refine S.boxop (x:=.tmp 0) (τ:=PTS [(some 3,RX rg),(some 3,RX ra),(some 3,RX rb),(some 3,RX rc)]) (S.g 0 rfl) (sh (τ:=PTS [(some 3,RX rg),(some 3,RX ra),(some 3,RX rb),(some 3,RX rc)]) (S.g 0 rfl)) rfl rfl rfl rfl rfl fun b1 a w G S=>?_
 refine S.alloc rfl rfl rfl z_48 zs_48 rfl rfl fun b2 a w G S=>?_
 refine wpList_nil (hK _ _ ?_);clear hK K
 replace S:=S.d2
 refine wp_reg fun K hK=>?_
 refine S.s (τ:=PB b1) (OpR.fldA S.ok rfl (S.e 1 rfl) fo_37_0 rfl) rfl fun a w G S=>?_
 refine S.s (OpR.ldPart S.ok rfl (S.e 0 rfl) (S.box 1 rfl) tS_35 fun _ h hs=>part_load (PTS.part 0 rfl rfl h hs) rfl) rfl fun a w G S=>?_
 refine S.s (τ:=MT.ex (Value.pointer (some ⟨b1,3,none⟩))) (OpR.fldA S.ok rfl (S.e 3 rfl) fo_37_1 rfl) rfl fun a w G S=>?_
 refine S.s (OpR.ldPart S.ok rfl (S.e 0 rfl) (S.box 1 rfl) tS_35 fun _ h hs=>part_load (PTS.part 1 rfl rfl h hs) rfl) rfl fun a w G S=>?_
 refine S.s (τ:=MT.ex (Value.pointer (some ⟨b1,6,none⟩))) (OpR.fldA S.ok rfl (S.e 5 rfl) fo_37_2 rfl) rfl fun a w G S=>?_
 refine S.s (OpR.ldPart S.ok rfl (S.e 0 rfl) (S.box 1 rfl) tS_35 fun _ h hs=>part_load (PTS.part 2 rfl rfl h hs) rfl) rfl fun a w G S=>?_
 refine S.s (τ:=MT.ex (Value.pointer (some ⟨b1,9,none⟩))) (OpR.fldA S.ok rfl (S.e 7 rfl) fo_37_3 rfl) rfl fun a w G S=>?_
 refine S.s (OpR.ldPart S.ok rfl (S.e 0 rfl) (S.box 1 rfl) tS_35 fun _ h hs=>part_load (PTS.part 3 rfl rfl h hs) rfl) rfl fun a w G S=>?_
 refine S.s (τ:=ARN (some 3) (([rg,ra,rb,rc]).map (RX))) (OpR.conv' (OpR.bldP (us:=[a.eval (.tmp 4),a.eval (.tmp 6),a.eval (.tmp 8),a.eval (.tmp 10)]) (fs:=(List.map (RX) [rg,ra,rb,rc]).map fun τ=>(some 3,τ)) S.ok rfl (by simp only [List.map_toArray,List.map_cons,List.map_nil];exact ap_48 (u0:=a.eval (.tmp 4)) (u1:=a.eval (.tmp 6)) (u2:=a.eval (.tmp 8)) (u3:=a.eval (.tmp 10)) (sh (τ:=RX rg) (S.g 6 rfl)) (sh (τ:=RX ra) (S.g 4 rfl)) (sh (τ:=RX rb) (S.g 2 rfl)) (sh (τ:=RX rc) (S.g 0 rfl))) rfl (pts_cons (sh (τ:=RX rg) (S.g 6 rfl)) (S.g 6 rfl) (pts_cons (sh (τ:=RX ra) (S.g 4 rfl)) (S.g 4 rfl) (pts_cons (sh (τ:=RX rb) (S.g 2 rfl)) (S.g 2 rfl) (pts_cons (sh (τ:=RX rc) (S.g 0 rfl)) (S.g 0 rfl) pts_nil))))) fun _ _ h=>PTS.arn h) rfl fun a w G S=>?_
 refine S.store (τ:=ARN (some 3) (([rg,ra,rb,rc]).map (RX))) 0 rfl rfl rfl rfl (S.e 9 rfl) tS_48 (S.g 0 rfl) (sh (τ:=ARN (some 3) (([rg,ra,rb,rc]).map (RX))) (S.g 0 rfl)) fun w S=>?_
 replace S:=S.n0
 replace S:=(S.castBox (τ':=ROWS (some 3) (([rg,ra,rb,rc]).map (RX))) 0 rfl fun _ h _=>ARN.rows h).n0
 refine wpList_nil (hK _ _ ?_);clear hK K
 replace S:=S.d10.d8.d7.d6.d5.d4.d3.d2.d1.d0
 replace S:=(S.castBox (τ':=ARN (some 3) (([rg,ra,rb,rc]).map (RX))) 0 rfl fun _ h hs=>ROWS.arn h hs (by first | rfl | (simp;done) | (simp;omega))).n0
 exact wp_ret (S.retCell (i:=0) rfl (S.e 0 rfl) rfl tS_48 (fun _ h=>h))
theorem rSquares_ok {n : Nat} {rg ra rb rc : FR} {v1 : Value} {W0 : World} {G0 : Gh} (hok : Gok W0 G0) (h1 : (PTS [(some 3,FX n rg),(some 3,FX n ra),(some 3,FX n rb),(some 3,FX n rc)]).t v1 G0)  : Calls Try.prog 36 #[v1] W0 (Ret W0 G0 (ARN (some 3) (([rg,ra,rb,rc]).map (FX n)))):=by
 refine St.enter (N:=12) (L:=[(0,PTS [(some 3,FX n rg),(some 3,FX n ra),(some 3,FX n rb),(some 3,FX n rc)])]) (args:=[v1]) Try.func36 rfl rfl rfl hok (enter1 h1) fun a S=>?_
 refine wp_reg fun K hK=>?_
 refine S.boxop (x:=.tmp 0) (τ:=PTS [(some 3,FX n rg),(some 3,FX n ra),(some 3,FX n rb),(some 3,FX n rc)]) (S.g 0 rfl) (sh (τ:=PTS [(some 3,FX n rg),(some 3,FX n ra),(some 3,FX n rb),(some 3,FX n rc)]) (S.g 0 rfl)) rfl rfl rfl rfl rfl fun b1 a w G S=>?_
 refine S.alloc rfl rfl rfl z_48 zs_48 rfl rfl fun b2 a w G S=>?_
 refine wpList_nil (hK _ _ ?_);clear hK K
 replace S:=S.d2
 refine wp_reg fun K hK=>?_
 refine S.s (τ:=PB b1) (OpR.fldA S.ok rfl (S.e 1 rfl) fo_37_0 rfl) rfl fun a w G S=>?_
 refine S.s (OpR.ldPart S.ok rfl (S.e 0 rfl) (S.box 1 rfl) tS_35 fun _ h hs=>part_load (PTS.part 0 rfl rfl h hs) rfl) rfl fun a w G S=>?_
 refine S.s (τ:=MT.ex (Value.pointer (some ⟨b1,3,none⟩))) (OpR.fldA S.ok rfl (S.e 3 rfl) fo_37_1 rfl) rfl fun a w G S=>?_
 refine S.s (OpR.ldPart S.ok rfl (S.e 0 rfl) (S.box 1 rfl) tS_35 fun _ h hs=>part_load (PTS.part 1 rfl rfl h hs) rfl) rfl fun a w G S=>?_
 refine S.s (τ:=MT.ex (Value.pointer (some ⟨b1,6,none⟩))) (OpR.fldA S.ok rfl (S.e 5 rfl) fo_37_2 rfl) rfl fun a w G S=>?_
 refine S.s (OpR.ldPart S.ok rfl (S.e 0 rfl) (S.box 1 rfl) tS_35 fun _ h hs=>part_load (PTS.part 2 rfl rfl h hs) rfl) rfl fun a w G S=>?_
 refine S.s (τ:=MT.ex (Value.pointer (some ⟨b1,9,none⟩))) (OpR.fldA S.ok rfl (S.e 7 rfl) fo_37_3 rfl) rfl fun a w G S=>?_
 refine S.s (OpR.ldPart S.ok rfl (S.e 0 rfl) (S.box 1 rfl) tS_35 fun _ h hs=>part_load (PTS.part 3 rfl rfl h hs) rfl) rfl fun a w G S=>?_
 refine S.s (τ:=ARN (some 3) (([rg,ra,rb,rc]).map (FX n))) (OpR.conv' (OpR.bldP (us:=[a.eval (.tmp 4),a.eval (.tmp 6),a.eval (.tmp 8),a.eval (.tmp 10)]) (fs:=(List.map (FX n) [rg,ra,rb,rc]).map fun τ=>(some 3,τ)) S.ok rfl (by simp only [List.map_toArray,List.map_cons,List.map_nil];exact ap_48 (u0:=a.eval (.tmp 4)) (u1:=a.eval (.tmp 6)) (u2:=a.eval (.tmp 8)) (u3:=a.eval (.tmp 10)) (sh (τ:=FX n rg) (S.g 6 rfl)) (sh (τ:=FX n ra) (S.g 4 rfl)) (sh (τ:=FX n rb) (S.g 2 rfl)) (sh (τ:=FX n rc) (S.g 0 rfl))) rfl (pts_cons (sh (τ:=FX n rg) (S.g 6 rfl)) (S.g 6 rfl) (pts_cons (sh (τ:=FX n ra) (S.g 4 rfl)) (S.g 4 rfl) (pts_cons (sh (τ:=FX n rb) (S.g 2 rfl)) (S.g 2 rfl) (pts_cons (sh (τ:=FX n rc) (S.g 0 rfl)) (S.g 0 rfl) pts_nil))))) fun _ _ h=>PTS.arn h) rfl fun a w G S=>?_
 refine S.store (τ:=ARN (some 3) (([rg,ra,rb,rc]).map (FX n))) 0 rfl rfl rfl rfl (S.e 9 rfl) tS_48 (S.g 0 rfl) (sh (τ:=ARN (some 3) (([rg,ra,rb,rc]).map (FX n))) (S.g 0 rfl)) fun w S=>?_
 replace S:=S.n0
 replace S:=(S.castBox (τ':=ROWS (some 3) (([rg,ra,rb,rc]).map (FX n))) 0 rfl fun _ h _=>ARN.rows h).n0
 refine wpList_nil (hK _ _ ?_);clear hK K
 replace S:=S.d10.d8.d7.d6.d5.d4.d3.d2.d1.d0
 replace S:=(S.castBox (τ':=ARN (some 3) (([rg,ra,rb,rc]).map (FX n))) 0 rfl fun _ h hs=>ROWS.arn h hs (by first | rfl | (simp;done) | (simp;omega))).n0
 exact wp_ret (S.retCell (i:=0) rfl (S.e 0 rfl) rfl tS_48 (fun _ h=>h))
theorem lshort_ok {rg ra rb rc : FR} {v1 : Value} {W0 : World} {G0 : Gh} (hok : Gok W0 G0) (h1 : (PTS [(some 3,RX rg),(some 3,RX ra),(some 3,RX rb),(some 3,RX rc)]).t v1 G0)  : Calls Try.prog 14 #[v1] W0 (Ret W0 G0 (BT (shortF [rg,ra,rb,rc]))):=by
 refine St.enter (N:=8) (L:=[(0,PTS [(some 3,RX rg),(some 3,RX ra),(some 3,RX rb),(some 3,RX rc)])]) (args:=[v1]) Try.func14 rfl rfl rfl hok (enter1 h1) fun a S=>?_
 refine wp_reg fun K hK=>?_
 refine S.boxop (x:=.tmp 0) (τ:=PTS [(some 3,RX rg),(some 3,RX ra),(some 3,RX rb),(some 3,RX rc)]) (S.g 0 rfl) (sh (τ:=PTS [(some 3,RX rg),(some 3,RX ra),(some 3,RX rb),(some 3,RX rc)]) (S.g 0 rfl)) rfl rfl rfl rfl rfl fun b1 a w G S=>?_
 refine S.s (τ:=BT false) (OpR.asn S.ok rfl rfl) rfl fun a w G S=>?_
 refine wpList_nil (hK _ _ ?_);clear hK K
 replace S:=S.d2
 refine wp_reg fun K hK=>?_
 refine S.s (OpR.ldBox S.ok rfl (S.e 1 rfl) (S.box 0 rfl) tS_37) rfl fun a w G S=>?_
 refine S.s (τ:=ARN (some 3) (([rg,ra,rb,rc]).map (RX))) (OpR.call1 rfl c_36 (rSquaresX_ok S.ok (S.g 0 rfl))) rfl fun a w G S=>?_
 refine S.alloc rfl rfl rfl z_48 zs_48 rfl rfl fun b3 a w G S=>?_
 refine S.store (τ:=ARN (some 3) (([rg,ra,rb,rc]).map (RX))) 0 rfl rfl rfl rfl (S.e 0 rfl) tS_48 (S.g 1 rfl) (sh (τ:=ARN (some 3) (([rg,ra,rb,rc]).map (RX))) (S.g 1 rfl)) fun w S=>?_
 replace S:=S.n0
 replace S:=(S.castBox (τ':=ROWS (some 3) (([rg,ra,rb,rc]).map (RX))) 0 rfl fun _ h _=>ARN.rows h).n0
 refine wpList_nil (hK _ _ ?_);clear hK K
 replace S:=S.d4.d2.d1
 refine wp_reg fun K hK=>?_
 refine S.s (τ:=MT.ex (Value.slice (some ⟨b3,0,none⟩) (4) (4))) (OpR.slAr S.ok rfl Try.underlying48 tS_35 (S.e 0 rfl) rfl rfl) rfl fun a w G S=>?_
 obtain ⟨vz1,Gz1,hz1,hs1,hg1,hle1,S⟩:=S.freeze 0 rfl
 have hsl1:=ROWS.slM hz1 hg1 rfl (Nat.le_refl _) (show 4 ≤ LIM by decide) (rfl : _ = Value.slice (some ⟨b3,0,none⟩) (4) (4))
 replace S:=S.also (t:=6) (τ:=LS (some 3) (([rg,ra,rb,rc]).map (RX))) ((S.e 0 rfl).symm ▸ hsl1)
 replace S : St W0 G0 8 [(6,LS (some 3) (([rg,ra,rb,rc]).map (RX))),(3,PB b3),(2,BT false)] [⟨b1,37,some 12,PTS [(some 3,RX rg),(some 3,RX ra),(some 3,RX rb),(some 3,RX rc)]⟩] a _ _:=S.keep [0,2,3]
 refine S.s (τ:=BT (shortF ([rg,ra,rb,rc]))) (OpR.call1 rfl c_10 (rShort_ok S.ok (LS.eqM (S.g 0 rfl) (by first | rfl | omega | (simp only [Nat.zero_add,Nat.add_zero];done) | (simp;done) | (push_cast;omega))))) rfl fun a w G S=>?_
 replace S:=S.d3
 refine S.s (OpR.asn S.ok rfl (S.g 0 rfl)) rfl fun a w G S=>?_
 refine wpList_nil (hK _ _ ?_);clear hK K
 replace S:=S.d2.d1
 exact wp_ret (S.retTmp rfl ((S.e 0 rfl).trans (bv_eq (by first | rfl | omega | (simp only [Nat.zero_add,Nat.add_zero];done) | (simp;done) | (push_cast;omega)))))
end Go.Proofs.Ytdeihehaheelmaa
namespace Go.Proofs.Ytdeihehaheelmaa
open Go.RowKit (Below)
theorem vget (l : List FR) (j : Nat) : (l.map FR.val).getD j default = (l.getD j default).val := by
  rw [List.getD_eq_getElem?_getD, List.getD_eq_getElem?_getD, List.getElem?_map]
  cases l[j]? with
  | none => exact val_default.symm
  | some z => rfl
theorem rotL_iff {l : List FR} {t : Nat} : rotL l t = true ↔ rotQ ((l.map FR.val).getD t default) ((l.map FR.val).getD ((t + 3) % 4) default) ((l.map FR.val).getD ((t + 1) % 4) default) ((l.map FR.val).getD ((t + 2) % 4) default) := by
  simp only [vget]
  unfold rotL rotQ
  rw [Bool.and_eq_true, decide_eq_true_iff, decide_eq_true_iff]
theorem lk_get (l : List FR) (j : Nat) : lk l j = (l.map FR.val).getD ((orderF (l.map FR.val)).getD j default) default := by rw [vget]; rfl
theorem turns {l : List FR} (h : l.all posR = true) {t : Nat} (ht : t < 4) : (excF l > 0 → rotL l t = false) ∧ (excF l < 0 → (rotL l t = true ↔ (t = (orderF (l.map FR.val)).getD 0 default ∨ (t + 3) % 4 = (orderF (l.map FR.val)).getD 0 default))) := by
  obtain ⟨i, j, k, m, e, hp, b1, b2, b3⟩ := order_ok (l.map FR.val)
  have hE : excF l = compareF [(l.map FR.val).getD i default, (l.map FR.val).getD m default] [(l.map FR.val).getD j default, (l.map FR.val).getD k default] := by
    unfold excF; simp only [lk_get, e]; rfl
  have hl := turn_law (xs := l.map FR.val) (fun q => by rw [vget]; exact vals_pos h q) hp b1 b2 b3 ht
  rw [← hE] at hl
  rw [e]
  refine ⟨fun h1 => ?_, fun h1 => rotL_iff.trans (hl.2 h1)⟩
  cases hr : rotL l t with
  | false => rfl
  | true => exact absurd (rotL_iff.1 hr) (hl.1 h1)
def leastI (xs : List Rat) (b i : Nat) : Prop := b < 4 ∧ (b < i ∨ (i = 0 ∧ b = 0)) ∧ ∀ j, j < i → j = b ∨ befR xs b j
theorem least_0 (xs : List Rat) : leastI xs 0 0 := ⟨by decide, .inr ⟨rfl, rfl⟩, fun j hj => absurd hj (Nat.not_lt_zero _)⟩
theorem least_t {l : List FR} {b i : Nat} (h : leastI (l.map FR.val) b i) (hi : i < 4) (hc : cmpQ (l.getD i default).val (l.getD b default).val < 0) : leastI (l.map FR.val) i (i + 1) := by
  rw [← vget, ← vget] at hc
  refine ⟨hi, .inl (by omega), fun j hj => ?_⟩
  rcases Nat.lt_or_ge j i with h1 | h1
  · right
    have hb : befR (l.map FR.val) i b := by
      rcases h.2.1 with h2 | ⟨h2, h3⟩
      · exact bef_t h2 hc
      · omega
    rcases h.2.2 j h1 with h2 | h2
    · rw [h2]; exact hb
    · exact bef_trans hb h2
  · left; omega
theorem least_f {l : List FR} {b i : Nat} (h : leastI (l.map FR.val) b i) (hc : ¬ cmpQ (l.getD i default).val (l.getD b default).val < 0) : leastI (l.map FR.val) b (i + 1) := by
  rw [← vget, ← vget] at hc
  refine ⟨h.1, .inl (by rcases h.2.1 with h2 | ⟨h2, h3⟩ <;> omega), fun j hj => ?_⟩
  rcases Nat.lt_or_ge j i with h1 | h1
  · exact h.2.2 j h1
  · obtain rfl : j = i := by omega
    rcases h.2.1 with h2 | ⟨h2, h3⟩
    · exact .inr (bef_f h2 hc)
    · left; omega
theorem least_end {xs : List Rat} {b : Nat} (h : leastI xs b 4) : b = (orderF xs).getD 0 default := by
  obtain ⟨i, j, k, m, e, hp, b1, b2, b3⟩ := order_ok xs
  rw [e]
  show b = i
  have hb : b ∈ [i, j, k, m] := hp.mem_iff.2 (by have := h.1; simp; omega)
  have hi4 : i < 4 := by have := hp.mem_iff.1 (show i ∈ [i, j, k, m] by simp); simp at this; omega
  rcases h.2.2 i hi4 with h1 | h1
  · exact h1.symm
  · simp only [List.mem_cons, List.not_mem_nil, or_false] at hb
    rcases hb with h2 | h2 | h2 | h2
    · exact h2
    · subst h2; exact (bef_asymm h1 b1).elim
    · subst h2; exact (bef_asymm h1 (bef_trans b1 b2)).elim
    · subst h2; exact (bef_asymm h1 (bef_trans (bef_trans b1 b2) b3)).elim
theorem excRes_ok {l : List FR} (h : chkF l = 0) : excRes l = excF l := by unfold excRes; rw [if_pos h]
theorem rotF_in {l : List FR} {i : Nat} (h : chkF l = 0) (hi : i < 4) : rotF l ((i : Nat) : Int) = rotL l i := by rw [rotF_ok (by omega) (by omega)]; simp
theorem sh_eq1 {r : Bool} {t o c : Nat} (h : r = true ↔ (t = o ∨ (t + 3) % 4 = o)) (hc : c = o) (ht : t = c) : (!(r == true)) = false := by
  rw [h.2 (.inl (ht.trans hc))]; rfl
theorem sh_eq2 {r : Bool} {t o c : Nat} (h : r = true ↔ (t = o ∨ (t + 3) % 4 = o)) (hc : c = o) (ht : ¬ t = c) : (!(r == decide ((t + 3) % 4 = c))) = false := by
  subst hc
  by_cases h2 : (t + 3) % 4 = c
  · rw [h.2 (.inr h2), decide_eq_true h2]; rfl
  · rw [decide_eq_false h2]
    cases r with
    | false => rfl
    | true => rcases h.1 rfl with h3 | h3
              · exact absurd h3 ht
              · exact absurd h3 h2
end Go.Proofs.Ytdeihehaheelmaa
namespace Go.Proofs.Ytdeihehaheelmaa
open Go.RowKit (Below)
theorem md4_lt (k : Int) : md4 k < 4 := by
  have h : md4 k = (k % 4).toNat := rfl
  omega
theorem tmod4 (k : Int) : k.tmod 4 = k % 4 ∨ (k.tmod 4 = k % 4 - 4 ∧ k % 4 ≠ 0) := by
  rw [Int.tmod_eq_emod]
  split
  · left; omega
  · rename_i h
    right
    have h2 : ¬ (4 : Int) ∣ k := fun h3 => h (.inr h3)
    refine ⟨by simp, fun h3 => h2 (Int.dvd_of_emod_eq_zero h3)⟩
theorem tmod4_bd (k : Int) : -9223372036854775808 ≤ k.tmod 4 + 4 ∧ k.tmod 4 + 4 ≤ 9223372036854775807 := by
  have := tmod4 k; omega
theorem md4_eq (k : Int) : (k.tmod 4 + 4).tmod 4 = ((md4 k : Nat) : Int) := by
  have h := tmod4 k
  have h1 : (k.tmod 4 + 4).tmod 4 = (k.tmod 4 + 4) % 4 := Int.tmod_eq_emod_of_nonneg (by omega)
  rw [h1]
  have h2 : ((md4 k : Nat) : Int) = k % 4 := by unfold md4; exact Int.toNat_of_nonneg (Int.emod_nonneg k (by decide))
  rw [h2]
  omega
def invL (l : List FR) (m n : Nat) : List FR := (List.range n).map fun j => FR.of ((l.getD ((j + m) % 4) default).val)
theorem inv_next {l : List FR} {m n : Nat} : invL l m n ++ [FR.of ((l.getD ((n + m) % 4) default).val)] = invL l m (n + 1) := by unfold invL; rw [List.range_succ, List.map_append]; rfl
theorem inv_len {l : List FR} {m n : Nat} : (invL l m n).length = n := by unfold invL; simp
theorem inv_at {l : List FR} {k : Int} {j : Nat} (h : chkF l = 0) (hj : j < 4) : (invL l (md4 k) 4).getD j default = invF l k j := by
  unfold invF invL; rw [if_pos h]
  rw [List.getD_eq_getElem?_getD, List.getElem?_map, List.getElem?_range hj]; rfl
theorem inv_bad {l : List FR} {k : Int} {j : Nat} (h : chkF l ≠ 0) : default = invF l k j := by unfold invF; rw [if_neg h]
end Go.Proofs.Ytdeihehaheelmaa
namespace Go.Proofs.Ytdeihehaheelmaa
open Go.RowKit (Below)
def svF (xs : List Rat) : List Rat := (orderF xs).map fun j => xs.getD j default
theorem sv_perm {a b c d : Rat} : (svF [a, b, c, d]).Perm [a, b, c, d] := by
  obtain ⟨i, j, k, m, e, hp, _⟩ := order_ok [a, b, c, d]
  unfold svF; rw [e]
  exact (hp.map _ : ([i, j, k, m].map fun j => [a, b, c, d].getD j default).Perm ([0, 1, 2, 3].map fun j => [a, b, c, d].getD j default))
theorem sv_sorted (xs : List Rat) : (svF xs).Pairwise (· ≤ ·) := by
  obtain ⟨i, j, k, m, e, hp, b1, b2, b3⟩ := order_ok xs
  unfold svF; rw [e]
  have h1 := bef_le b1; have h2 := bef_le b2; have h3 := bef_le b3
  simp only [List.map_cons, List.map_nil, List.pairwise_cons, List.mem_cons, List.not_mem_nil, or_false, forall_eq_or_imp, forall_eq, List.Pairwise.nil, and_true]
  refine ⟨⟨h1, ?_, ?_⟩, ⟨h2, ?_⟩, h3, by simp⟩ <;> grind
theorem sv_eq {xs ys : List Rat} (h : (svF xs).Perm (svF ys)) : svF xs = svF ys :=
  h.eq_of_pairwise (le := (· ≤ ·)) (fun a b _ _ h k => by grind) (sv_sorted xs) (sv_sorted ys)
theorem sv_get {xs : List Rat} {j : Nat} (hj : j < 4) : (svF xs).getD j default = xs.getD ((orderF xs).getD j default) default := by
  unfold svF
  have := orderF_len xs
  rw [List.getD_eq_getElem?_getD, List.getD_eq_getElem?_getD (l := orderF xs), List.getElem?_map, List.getElem?_eq_getElem (by omega)]
  rfl
theorem lk_sv {l : List FR} {j : Nat} (hj : j < 4) : lk l j = (svF (l.map FR.val)).getD j default := by rw [lk_get, sv_get hj]
def invQ (l : List FR) (k : Int) : List FR := [invF l k 0, invF l k 1, invF l k 2, invF l k 3]
theorem invQ_vals {ra rb rc rd : FR} {k : Int} (h : chkF [ra, rb, rc, rd] = 0) : (invQ [ra, rb, rc, rd] k).map FR.val = [([ra, rb, rc, rd].getD ((0 + md4 k) % 4) default).val, ([ra, rb, rc, rd].getD ((1 + md4 k) % 4) default).val, ([ra, rb, rc, rd].getD ((2 + md4 k) % 4) default).val, ([ra, rb, rc, rd].getD ((3 + md4 k) % 4) default).val] := by
  unfold invQ invF; simp only [if_pos h, List.map_cons, List.map_nil, FR.of_val]
theorem inv_perm {ra rb rc rd : FR} {k : Int} (h : chkF [ra, rb, rc, rd] = 0) : ((invQ [ra, rb, rc, rd] k).map FR.val).Perm ([ra, rb, rc, rd].map FR.val) := by
  rw [invQ_vals h]
  have hm := md4_lt k
  generalize md4 k = m at hm
  match m, hm with
  | 0, _ => exact List.Perm.refl _
  | 1, _ => exact List.perm_append_comm (l₁ := [rb.val, rc.val, rd.val]) (l₂ := [ra.val])
  | 2, _ => exact List.perm_append_comm (l₁ := [rc.val, rd.val]) (l₂ := [ra.val, rb.val])
  | 3, _ => exact List.perm_append_comm (l₁ := [rd.val]) (l₂ := [ra.val, rb.val, rc.val])
theorem inv_sv {ra rb rc rd : FR} {k : Int} (h : chkF [ra, rb, rc, rd] = 0) : svF ((invQ [ra, rb, rc, rd] k).map FR.val) = svF ([ra, rb, rc, rd].map FR.val) :=
  sv_eq (sv_perm.trans ((inv_perm h).trans sv_perm.symm))
theorem inv_lk {ra rb rc rd : FR} {k : Int} (h : chkF [ra, rb, rc, rd] = 0) {j : Nat} (hj : j < 4) : lk (invQ [ra, rb, rc, rd] k) j = lk [ra, rb, rc, rd] j := by rw [lk_sv hj, lk_sv hj, inv_sv h]
theorem inv_exc {ra rb rc rd : FR} {k : Int} (h : chkF [ra, rb, rc, rd] = 0) : excF (invQ [ra, rb, rc, rd] k) = excF [ra, rb, rc, rd] := by
  unfold excF
  rw [inv_lk h (by decide), inv_lk h (by decide), inv_lk h (by decide), inv_lk h (by decide)]
theorem inv_pos {l : List FR} {k : Int} (h : chkF l = 0) (hl : l.length = 4) : (invQ l k).all posR = true := by
  have hp := chk_pos h
  have : ∀ j, posR (invF l k j) = true := fun j => by
    unfold invF; rw [if_pos h, posR_of4]
    have hlt : (j + md4 k) % 4 < l.length := by rw [hl]; exact Nat.mod_lt _ (by decide)
    refine decide_eq_true (posR_val (List.all_eq_true.1 hp _ ?_))
    rw [List.getD_eq_getElem?_getD, List.getElem?_eq_getElem hlt]; exact List.getElem_mem hlt
  unfold invQ; simp [this]
theorem inv_chk {ra rb rc rd : FR} {k : Int} (h : chkF [ra, rb, rc, rd] = 0) : chkF (invQ [ra, rb, rc, rd] k) = 0 := by
  have h2 := h
  unfold chkF at h ⊢
  rw [inv_pos h2 rfl, inv_lk h2 (by decide), inv_lk h2 (by decide), inv_lk h2 (by decide), inv_lk h2 (by decide)]
  rw [chk_pos h2] at h
  exact h
theorem exc_strict {s p q m : Rat} (h0 : 0 ≤ s) (h1 : s ≤ p) (h2 : p ≤ q) (h3 : q ≤ m) (hE : compareF [s, m] [p, q] < 0) : s < p := by
  rcases Classical.em (s < p) with h | h
  · exact h
  · have e : s = p := by grind
    subst e
    have hq := rt_le (show 0 ≤ q by grind) h3
    rw [cmp4 h0 (by grind) h0 (by grind)] at hE
    have : sgR (rt s + rt m - (rt s + rt q)) ≥ 0 := sgR_ge.2 (RR.add_le_add (RR.le_refl _) hq)
    omega
def hd4 (l : List FR) : Nat := (orderF (l.map FR.val)).getD 0 default
theorem inv_hd {ra rb rc rd : FR} {k : Int} (h : chkF [ra, rb, rc, rd] = 0) (hE : excF [ra, rb, rc, rd] < 0) : (hd4 (invQ [ra, rb, rc, rd] k) + md4 k) % 4 = hd4 [ra, rb, rc, rd] := by
  have hv : ((invQ [ra, rb, rc, rd] k).map FR.val).getD (hd4 (invQ [ra, rb, rc, rd] k)) default = ([ra, rb, rc, rd].map FR.val).getD (hd4 [ra, rb, rc, rd]) default := by
    have := inv_lk (k := k) h (j := 0) (by decide)
    rw [lk_get, lk_get] at this
    exact this
  have hlt : hd4 (invQ [ra, rb, rc, rd] k) < 4 := orderF_lt _ 0
  have hg : ((invQ [ra, rb, rc, rd] k).map FR.val).getD (hd4 (invQ [ra, rb, rc, rd] k)) default = ([ra, rb, rc, rd].map FR.val).getD ((hd4 (invQ [ra, rb, rc, rd] k) + md4 k) % 4) default := by
    rw [invQ_vals h, vget]
    generalize hd4 (invQ [ra, rb, rc, rd] k) = q at hlt
    match q, hlt with
    | 0, _ => rfl
    | 1, _ => rfl
    | 2, _ => rfl
    | 3, _ => rfl
  rw [hg] at hv
  have hq : (hd4 (invQ [ra, rb, rc, rd] k) + md4 k) % 4 < 4 := Nat.mod_lt _ (by decide)
  generalize (hd4 (invQ [ra, rb, rc, rd] k) + md4 k) % 4 = q at hv hq
  obtain ⟨i, j, k', m, e, hp, b1, b2, b3⟩ := order_ok ([ra, rb, rc, rd].map FR.val)
  have hpos := chk_pos h
  have hh : hd4 [ra, rb, rc, rd] = i := by unfold hd4; rw [e]; rfl
  rw [hh] at hv ⊢
  have hE' : excF [ra, rb, rc, rd] = compareF [([ra, rb, rc, rd].map FR.val).getD i default, ([ra, rb, rc, rd].map FR.val).getD m default] [([ra, rb, rc, rd].map FR.val).getD j default, ([ra, rb, rc, rd].map FR.val).getD k' default] := by
    unfold excF; simp only [lk_get, e]; rfl
  rw [hE'] at hE
  have l1 := bef_le b1; have l2 := bef_le b2; have l3 := bef_le b3
  have hs := exc_strict (by rw [vget]; exact vals_pos hpos _) l1 l2 l3 hE
  have hm : q ∈ [i, j, k', m] := hp.mem_iff.2 (by simp; omega)
  simp only [List.mem_cons, List.not_mem_nil, or_false] at hm
  rcases hm with h2 | h2 | h2 | h2
  · exact h2
  all_goals (subst h2; exfalso; grind)
end Go.Proofs.Ytdeihehaheelmaa
namespace Go.Proofs.Ytdeihehaheelmaa
theorem md4_mod (k : Nat) : md4 ((k % 4 : Nat) : Int) = k % 4 := by
  have h : md4 ((k % 4 : Nat) : Int) = (((k % 4 : Nat) : Int) % 4).toNat := rfl
  omega
theorem cmp_bd (l m : List Rat) (hl : ∀ q ∈ l, 0 ≤ q) (hm : ∀ q ∈ m, 0 ≤ q) : compareF l m = -1 ∨ compareF l m = 0 ∨ compareF l m = 1 := by
  rw [compareF_sg hl hm]
  rcases sgR_cases (rs l - rs m) with h | h | h <;> simp [h.2]
theorem exc_bd {ra rb rc rd : FR} (h : chkF [ra, rb, rc, rd] = 0) : excF [ra, rb, rc, rd] = -1 ∨ excF [ra, rb, rc, rd] = 0 ∨ excF [ra, rb, rc, rd] = 1 := by
  have hp : ∀ j, 0 ≤ lk [ra, rb, rc, rd] j := fun j => by
    unfold lk; exact vals_pos (chk_pos h) _
  unfold excF
  exact cmp_bd _ _ (by simp [hp]) (by simp [hp])
def lnk (j : Nat) : Nat := ([1, 0, 2, 3] : List Nat).getD j default
theorem lnk_lnk {j : Nat} (h : j < 4) : ([1, 0, 2, 3] : List Nat).getD (lnk j) default = j := by
  match j, h with
  | 0, _ => rfl
  | 1, _ => rfl
  | 2, _ => rfl
  | 3, _ => rfl
theorem lnk_lt (j : Nat) : lnk j < 4 := by
  unfold lnk
  match j with
  | 0 => decide
  | 1 => decide
  | 2 => decide
  | 3 => decide
  | j + 4 => exact (show 0 < 4 by decide)
theorem hd4_lt (l : List FR) : hd4 l < 4 := orderF_lt _ 0
theorem cls_up {ra rb rc rd : FR} (h : chkF [ra, rb, rc, rd] = 0) (hE : excF [ra, rb, rc, rd] ≥ 0) : clsF [ra, rb, rc, rd] = if excF [ra, rb, rc, rd] > 0 then 4 else 5 := by
  unfold clsF; rw [if_pos h]
  rcases exc_bd h with e | e | e
  · omega
  · rw [e]; rfl
  · rw [e]; rfl
theorem cls_dn {ra rb rc rd : FR} (h : chkF [ra, rb, rc, rd] = 0) (hE : excF [ra, rb, rc, rd] < 0) : clsF [ra, rb, rc, rd] = ((lnk (hd4 [ra, rb, rc, rd]) : Nat) : Int) := by
  unfold clsF; rw [if_pos h, if_neg (by omega), if_neg (by omega)]; rfl
theorem cls_bd {ra rb rc rd : FR} (h : chkF [ra, rb, rc, rd] = 0) : 0 ≤ clsF [ra, rb, rc, rd] ∧ clsF [ra, rb, rc, rd] ≤ 5 := by
  rcases Int.lt_or_le (excF [ra, rb, rc, rd]) 0 with e | e
  · rw [cls_dn h e]; have := lnk_lt (hd4 [ra, rb, rc, rd]); omega
  · rw [cls_up h e]; split <;> omega
theorem inv_hd2 {ra rb rc rd : FR} {k : Nat} (h : chkF [ra, rb, rc, rd] = 0) (hE : excF [ra, rb, rc, rd] < 0) : (hd4 (invQ [ra, rb, rc, rd] ((k % 4 : Nat) : Int)) + k % 4) % 4 = hd4 [ra, rb, rc, rd] := by
  have := inv_hd (k := ((k % 4 : Nat) : Int)) h hE
  rwa [md4_mod] at this
end Go.Proofs.Ytdeihehaheelmaa
namespace Go.Proofs.Ytdeihehaheelmaa
set_option maxHeartbeats 1000000
set_option maxRecDepth 100000
open Go.RowKit (Below)
private theorem bp_37_ : Try.prog.built 37 [] = some (flat [(.agg #[.bool false,.slice none 0 0,.slice none 0 0] : Value),(.agg #[.bool false,.slice none 0 0,.slice none 0 0] : Value),(.agg #[.bool false,.slice none 0 0,.slice none 0 0] : Value),(.agg #[.bool false,.slice none 0 0,.slice none 0 0] : Value)]).toArray:=by kernel_rfl
private theorem bp_37_0_1_2_3 : ∀ {u0 : Value} {u1 : Value} {u2 : Value} {u3 : Value} (h0 : Shaped (some 3) u0) (h1 : Shaped (some 3) u1) (h2 : Shaped (some 3) u2) (h3 : Shaped (some 3) u3),Try.prog.built 37 [(0,u0),(1,u1),(2,u2),(3,u3)] = some (flat [u0,u1,u2,u3]).toArray:=by
 intro u0 u1 u2 u3 h0 h1 h2 h3
 obtain ⟨c0_0,c0_1,c0_2,rfl⟩:=agg3 h0
 obtain ⟨c1_0,c1_1,c1_2,rfl⟩:=agg3 h1
 obtain ⟨c2_0,c2_1,c2_2,rfl⟩:=agg3 h2
 obtain ⟨c3_0,c3_1,c3_2,rfl⟩:=agg3 h3
 kernel_rfl
private theorem bt_35_ : Try.prog.built 35 [] = some #[.bool false,.slice none 0 0,.slice none 0 0]:=by kernel_rfl
private theorem c_17 : callable Try.prog 17 = true:=by kernel_rfl
private theorem c_22 : callable Try.prog 22 = true:=by kernel_rfl
private theorem c_43 : callable Try.prog 43 = true:=by kernel_rfl
private theorem el_35 : elS Try.prog 35 3 56 (.agg #[.bool false,.slice none 0 0,.slice none 0 0]):=by unfold elS;kernel_rfl
private theorem if_26 : ifaceT Try.prog 26:=by unfold ifaceT;kernel_rfl
private theorem mixedOrders : Try.prog.follows .mixedOrders = true:=by kernel_rfl
private theorem z_37 : (Try.prog.info? 37).bind (·.zero) = some (.agg #[.bool false,.slice none 0 0,.slice none 0 0,.bool false,.slice none 0 0,.slice none 0 0,.bool false,.slice none 0 0,.slice none 0 0,.bool false,.slice none 0 0,.slice none 0 0]):=by kernel_rfl
private theorem zs_35 : Shaped (some 3) (.agg #[.bool false,.slice none 0 0,.slice none 0 0]):=⟨_,rfl,rfl,by simp [Value.oneCell']⟩
private theorem zs_37 : Shaped (some 12) (.agg #[.bool false,.slice none 0 0,.slice none 0 0,.bool false,.slice none 0 0,.slice none 0 0,.bool false,.slice none 0 0,.slice none 0 0,.bool false,.slice none 0 0,.slice none 0 0]):=⟨_,rfl,rfl,by simp [Value.oneCell']⟩
theorem xInvert_ok {n : Nat} {rg ra rb rc : FR} {k : Int} {v1 v2 : Value} {W0 : World} {G0 : Gh} (hok : Gok W0 G0) (h1 : (PTS [(some 3,FX n rg),(some 3,FX n ra),(some 3,FX n rb),(some 3,FX n rc)]).t v1 G0) (h2 : (IT k).t v2 G0) (hn : 1000 * n + 1000 ≤ BIG) (hn1 : 1 ≤ n) : Calls Try.prog 29 #[v1,v2] W0 (Ret W0 G0 (MT.tup2 (PTS [(some 3,FX (n + 2) (invF [rg,ra,rb,rc] k 0)),(some 3,FX (n + 2) (invF [rg,ra,rb,rc] k 1)),(some 3,FX (n + 2) (invF [rg,ra,rb,rc] k 2)),(some 3,FX (n + 2) (invF [rg,ra,rb,rc] k 3))]) (MT.ex (errV 51 (chkF [rg,ra,rb,rc]))))):=by
 have hmd:=md4_lt k
 refine St.enter (N:=51) (L:=[(1,IT k),(0,PTS [(some 3,FX n rg),(some 3,FX n ra),(some 3,FX n rb),(some 3,FX n rc)])]) (args:=[v1,v2]) Try.func29 rfl rfl rfl hok (enter2 h1 h2) fun a S=>?_
 refine wp_reg fun K hK=>?_
 refine S.boxop (x:=.tmp 0) (τ:=PTS [(some 3,FX n rg),(some 3,FX n ra),(some 3,FX n rb),(some 3,FX n rc)]) (S.g 1 rfl) (sh (τ:=PTS [(some 3,FX n rg),(some 3,FX n ra),(some 3,FX n rb),(some 3,FX n rc)]) (S.g 1 rfl)) rfl rfl rfl rfl rfl fun b2 a w G S=>?_
 refine S.alloc rfl rfl rfl z_37 zs_37 rfl rfl fun b4 a w G S=>?_
 refine S.s (τ:=MT.ex (Value.nilIface)) (OpR.asn S.ok rfl rfl) rfl fun a w G S=>?_
 refine wpList_nil (hK _ _ ?_);clear hK K
 replace S:=S.d4
 refine wp_seq_k fun K hK=>?_
 refine wp_reg fun K hK=>?_
 refine S.s (OpR.ldBox S.ok rfl (S.e 2 rfl) (S.box 1 rfl) tS_37) rfl fun a w G S=>?_
 refine S.s (τ:=MT.ex (errV 51 (chkF [rg,ra,rb,rc]))) (OpR.call1 rfl c_17 (xCheck_ok S.ok (S.g 0 rfl) (by omega) (by omega))) rfl fun a w G S=>?_
 refine S.s (OpR.asn S.ok rfl (S.g 0 rfl)) rfl fun a w G S=>?_
 refine wpList_nil (hK _ _ ?_);clear hK K
 replace S:=S.d2.d1
 refine wp_reg fun K hK=>?_
 refine S.s (OpR.mv S.ok rfl (S.g 0 rfl)) rfl fun a w G S=>?_
 refine S.s (τ:=BT (decide ((chkF [rg,ra,rb,rc]) ≠ 0))) (OpR.isB errV_neq (OpR.errNeqNil S.ok rfl if_26 (S.e 0 rfl) (by first | exact .inl rfl | exact .inr ⟨_,_,rfl⟩ | exact errV_or _) rfl)) rfl fun a w G S=>?_
 refine wpList_nil (hK _ _ ?_);clear hK K
 replace S:=S.d1
 refine S.cond 0 rfl (fun hc1=>?_) (fun hc1=>?_)
 ·
  have hp2:=of_decide_eq_true hc1
  refine wp_reg fun K hK=>?_
  refine S.s (τ:=PTS [(some 3,FX (n + 2) (invF [rg,ra,rb,rc] k 0)),(some 3,FX (n + 2) (invF [rg,ra,rb,rc] k 1)),(some 3,FX (n + 2) (invF [rg,ra,rb,rc] k 2)),(some 3,FX (n + 2) (invF [rg,ra,rb,rc] k 3))]) (OpR.bldP (us:=[(.agg #[.bool false,.slice none 0 0,.slice none 0 0] : Value),(.agg #[.bool false,.slice none 0 0,.slice none 0 0] : Value),(.agg #[.bool false,.slice none 0 0,.slice none 0 0] : Value),(.agg #[.bool false,.slice none 0 0,.slice none 0 0] : Value)]) S.ok rfl (by simp only [List.map_toArray,List.map_nil];exact bp_37_) rfl (pts_cons zs_35 (FX.eq (zero_FX (by omega)) (inv_bad (by omega))) (pts_cons zs_35 (FX.eq (zero_FX (by omega)) (inv_bad (by omega))) (pts_cons zs_35 (FX.eq (zero_FX (by omega)) (inv_bad (by omega))) (pts_cons zs_35 (FX.eq (zero_FX (by omega)) (inv_bad (by omega))) pts_nil))))) rfl fun a w G S=>?_
  refine S.s (OpR.mv S.ok rfl (S.g 2 rfl)) rfl fun a w G S=>?_
  refine S.store (τ:=PTS [(some 3,FX (n + 2) (invF [rg,ra,rb,rc] k 0)),(some 3,FX (n + 2) (invF [rg,ra,rb,rc] k 1)),(some 3,FX (n + 2) (invF [rg,ra,rb,rc] k 2)),(some 3,FX (n + 2) (invF [rg,ra,rb,rc] k 3))]) 0 rfl rfl rfl rfl (S.e 5 rfl) tS_37 (S.g 1 rfl) (sh (τ:=PTS [(some 3,FX (n + 2) (invF [rg,ra,rb,rc] k 0)),(some 3,FX (n + 2) (invF [rg,ra,rb,rc] k 1)),(some 3,FX (n + 2) (invF [rg,ra,rb,rc] k 2)),(some 3,FX (n + 2) (invF [rg,ra,rb,rc] k 3))]) (S.g 1 rfl)) fun w S=>?_
  replace S:=S.n0
  replace S:=S.d4
  refine S.s (OpR.asn S.ok rfl (S.g 0 rfl)) rfl fun a w G S=>?_
  refine wpList_nil (hK _ _ ?_);clear hK K
  replace S:=S.d2.d1
  exact wp_ret (then_ret (S.retCellTmp (i:=0) rfl (S.e 3 rfl) rfl tS_37 (fun _ h=>h) (S.g 0 rfl)))
 ·
  have hp3:=of_decide_eq_false hc1
  refine wp_skip ?_
  refine hK _ _ ?_;clear hK K
  refine wp_reg fun K hK=>?_
  refine S.s (OpR.mv S.ok rfl (S.g 5 rfl)) rfl fun a w G S=>?_
  refine S.s (τ:=IT (k.tmod 4)) (OpR.irem S.ok rfl (S.e 0 rfl) (rfl : _ = nv .i64 4) (by omega) rfl) rfl fun a w G S=>?_
  refine S.s (τ:=IT ((k.tmod 4) + 4)) (OpR.iadd S.ok rfl (S.e 0 rfl) (rfl : _ = nv .i64 4) (iw_i64 (by omega) (tmod4_bd k))) rfl fun a w G S=>?_
  refine S.s (τ:=NT (md4 k)) (OpR.irem S.ok rfl (S.e 0 rfl) (rfl : _ = nv .i64 4) (by omega) (iv_eq (md4_eq k))) rfl fun a w G S=>?_
  replace S:=S.d9
  refine S.s (OpR.asn S.ok rfl (S.g 0 rfl)) rfl fun a w G S=>?_
  refine wpList_nil (hK _ _ ?_);clear hK K
  replace S:=S.d4.d3.d2.d1
  refine wp_reg fun K hK=>?_
  refine S.s (OpR.ldBox S.ok rfl (S.e 5 rfl) (S.box 1 rfl) tS_37) rfl fun a w G S=>?_
  refine S.s (τ:=LS (some 3) (([rg,ra,rb,rc]).map (FX n))) (OpR.call1 rfl c_43 (xlist_ok S.ok (S.g 0 rfl) (by omega) (by omega))) rfl fun a w G S=>?_
  refine S.s (OpR.asn S.ok rfl (S.g 0 rfl)) rfl fun a w G S=>?_
  refine wpList_nil (hK _ _ ?_);clear hK K
  replace S:=S.d2.d1
  refine wp_reg fun K hK=>?_
  refine S.s (τ:=MT.ex (Value.slice none 0 0)) (OpR.asn S.ok rfl rfl) rfl fun a w G S=>?_
  refine wpList_nil (hK _ _ ?_);clear hK K
  refine wp_seq_k fun K hK=>?_
  refine wp_reg fun K hK=>?_
  refine S.s (τ:=NT 0) (OpR.mv S.ok rfl (rfl : _ = nv .i64 0)) rfl fun a w G S=>?_
  refine wpList_nil (hK _ _ ?_);clear hK K
  refine wp_block ?_
  replace S:=S.also (t:=8) (τ:=MT.ex ((Value.slice none 0 0))) ((S.e 1 rfl).trans (by first | rfl | omega | (simp only [Nat.zero_add,Nat.add_zero];done) | (simp;done) | (push_cast;omega)))
  refine wp_loopJ (fun μ a w=>∃ (i : Nat) (v : Value) (own : List BX) (G : Gh),μ = 4 - i ∧ (i ≤ 4) ∧ (OWNS (some 3) 35 v own ((invL [rg,ra,rb,rc] (md4 k) i).map (FX (n + 2)))) ∧  St W0 G0 51 [(22,NT i),(8,MT.ex (v)),(7,LS (some 3) (([rg,ra,rb,rc]).map (FX n))),(1,NT (md4 k)),(13,BT (decide ((chkF [rg,ra,rb,rc]) ≠ 0))),(6,MT.ex (errV 51 (chkF [rg,ra,rb,rc]))),(5,MT.ex (Value.nilIface)),(4,PB b4),(2,PB b2)] (⟨b4,37,some 12,MT.ex ((.agg #[.bool false,.slice none 0 0,.slice none 0 0,.bool false,.slice none 0 0,.slice none 0 0,.bool false,.slice none 0 0,.slice none 0 0,.bool false,.slice none 0 0,.slice none 0 0] : Value))⟩ :: ⟨b2,37,some 12,PTS [(some 3,FX n rg),(some 3,FX n ra),(some 3,FX n rb),(some 3,FX n rc)]⟩ :: own) a w G) (4 - 0) ⟨0,(Value.slice none 0 0),[],_,rfl,(by omega),OWNS.nil,(S.keep [1,0,3,4,5,6,7,8,9]).keepB [0,1] (by decide)⟩ ?_
  clear S
  intro μ a w ⟨i,v,own,G,hm,hi,hr,S⟩
  refine wp_reg fun K hK=>?_
  refine S.s (OpR.nlss S.ok rfl (S.e 0 rfl) (rfl : _ = nv .i64 4) MT.self) rfl fun a w G S=>?_
  refine wpList_nil (hK _ _ ?_);clear hK K
  refine wp_seq_k fun K hK=>?_
  refine S.cond 0 rfl (fun hc4=>?_) (fun hc4=>?_)
  ·
   have hp5:=of_decide_eq_true hc4
   refine wp_skip ?_
   refine hK _ _ ?_;clear hK K
   refine wp_seq_k fun K hK=>?_
   refine wp_block ?_
   refine wp_reg fun K hK=>?_
   refine S.s (OpR.mv S.ok rfl (S.g 1 rfl)) rfl fun a w G S=>?_
   refine S.s (OpR.asn S.ok rfl (S.g 0 rfl)) rfl fun a w G S=>?_
   refine wpList_nil (hK _ _ ?_);clear hK K
   replace S:=S.d1
   refine wp_region_lit ?_
   refine S.s (OpR.mv S.ok rfl (S.g 3 rfl)) rfl fun a w G S=>?_
   refine S.s (OpR.mv S.ok rfl (S.g 5 rfl)) rfl fun a w G S=>?_
   refine S.s (OpR.mv S.ok rfl (S.g 2 rfl)) rfl fun a w G S=>?_
   refine S.s (OpR.mv S.ok rfl (S.g 8 rfl)) rfl fun a w G S=>?_
   refine S.s (OpR.nadd S.ok rfl (S.e 1 rfl) (S.e 0 rfl) (wr_i64 (by omega)) MT.self) rfl fun a w G S=>?_
   refine S.s (OpR.nrem S.ok rfl (S.e 0 rfl) (rfl : _ = nv .i64 4) (by omega) MT.self) rfl fun a w G S=>?_
   refine S.s (τ:=PE (some 3) (FX n (([rg,ra,rb,rc]).getD ((i + (md4 k)) % 4) default))) (OpR.ixM (T:=(FX n)) (xs:=[rg,ra,rb,rc]) (i:=(i + (md4 k)) % 4) S.ok rfl Try.underlying22 tS_35 (S.g 4 rfl) (S.e 0 rfl) rfl (show _ < 4 by omega)) rfl fun a w G S=>?_
   refine S.s (OpR.ldE S.ok rfl tS_35 (S.g 0 rfl)) rfl fun a w G S=>?_
   refine S.s (τ:=QR false ([]) ([])) (OpR.bQ0 S.ok rfl bt_35_) rfl fun a w G S=>?_
   refine S.s (τ:=QC (n + 2) (([rg,ra,rb,rc].getD ((i + md4 k) % 4) default).val)) (OpR.conv' (OpR.call2 rfl c_22 (fAdd_ok S.ok (FX.toQV (S.g 1 rfl)) (QR.zQV (n:=1) (S.g 0 rfl) (by omega)) (by omega))) fun _ _ h=>(QC.eq (QC.up h (by omega)) (Rat.add_zero _))) rfl fun a w G S=>?_
   refine S.s (τ:=LS (some 3) (([FR.of (([rg,ra,rb,rc].getD ((i + md4 k) % 4) default).val)]).map (FX (n + 2)))) (OpR.buildS (k:=some 3) (τs:=[FR.of (([rg,ra,rb,rc].getD ((i + md4 k) % 4) default).val)].map (FX (n + 2))) (us:=[a.eval (.tmp 34)]) S.ok rfl Try.underlying22 el_35 rfl (by decide) (by decide) (by simp [Act.eval]) rfl (Els.cons (sh (τ:=FX (n + 2) (FR.of (([rg,ra,rb,rc].getD ((i + md4 k) % 4) default).val))) (FX.eq (FX.up (QC.toFX (S.g 0 rfl) (by first | decide | omega)) (by first | decide | omega)) (by first | rfl | omega | (simp only [Nat.zero_add,Nat.add_zero];done) | (simp;done) | (push_cast;omega)))) (FX.eq (FX.up (QC.toFX (S.g 0 rfl) (by first | decide | omega)) (by first | decide | omega)) (by first | rfl | omega | (simp only [Nat.zero_add,Nat.add_zero];done) | (simp;done) | (push_cast;omega))) Els.nil)) rfl fun a w G S=>?_
   refine S.appSM (k:=some 3) (Bh:=[⟨b4,37,some 12,MT.ex ((.agg #[.bool false,.slice none 0 0,.slice none 0 0,.bool false,.slice none 0 0,.slice none 0 0,.bool false,.slice none 0 0,.slice none 0 0,.bool false,.slice none 0 0,.slice none 0 0] : Value))⟩,⟨b2,37,some 12,PTS [(some 3,FX n rg),(some 3,FX n ra),(some 3,FX n rb),(some 3,FX n rc)]⟩]) (own:=own) (xs:=invL [rg,ra,rb,rc] (md4 k) i) (ys:=[FR.of (([rg,ra,rb,rc].getD ((i + md4 k) % 4) default).val)]) (T:=(FX (n + 2))) rfl rfl rfl Try.underlying22 el_35 zs_35 (S.e 10 rfl) hr (S.g 0 rfl) (by simp) (by simp only [LIM,inv_len,List.length_cons,List.length_nil];omega) (by simp only [inv_len,List.length_cons,List.length_nil];omega) rfl rfl fun v1 own1 a w G hr1 S=>?_
   replace S : St W0 G0 51 [(36,MT.ex (v1)),(35,LS (some 3) (([FR.of (([rg,ra,rb,rc].getD ((i + md4 k) % 4) default).val)]).map (FX (n + 2)))),(34,QC (n + 2) (([rg,ra,rb,rc].getD ((i + md4 k) % 4) default).val)),(33,QR false ([]) ([])),(32,FX n (([rg,ra,rb,rc]).getD ((i + (md4 k)) % 4) default)),(31,PE (some 3) (FX n (([rg,ra,rb,rc]).getD ((i + (md4 k)) % 4) default))),(30,NT ((i + (md4 k)) % 4)),(29,NT (i + (md4 k))),(28,NT (md4 k)),(27,NT i),(26,LS (some 3) (([rg,ra,rb,rc]).map (FX n))),(25,MT.ex (v)),(9,NT i),(23,BT (decide (i < 4))),(22,NT i),(8,MT.ex (v)),(7,LS (some 3) (([rg,ra,rb,rc]).map (FX n))),(1,NT (md4 k)),(13,BT (decide ((chkF [rg,ra,rb,rc]) ≠ 0))),(6,MT.ex (errV 51 (chkF [rg,ra,rb,rc]))),(5,MT.ex (Value.nilIface)),(4,PB b4),(2,PB b2)] (⟨b4,37,some 12,MT.ex ((.agg #[.bool false,.slice none 0 0,.slice none 0 0,.bool false,.slice none 0 0,.slice none 0 0,.bool false,.slice none 0 0,.slice none 0 0,.bool false,.slice none 0 0,.slice none 0 0] : Value))⟩ :: ⟨b2,37,some 12,PTS [(some 3,FX n rg),(some 3,FX n ra),(some 3,FX n rb),(some 3,FX n rc)]⟩ :: own1) a _ _:=S
   replace S:=S.d15
   refine S.s (OpR.asn S.ok rfl (S.g 0 rfl)) rfl fun a w G S=>?_
   refine wpList_nil ?_
   replace S:=S.d13.d12.d11.d10.d9.d8.d7.d6.d5.d4.d3.d2.d1
   refine hK _ _ ?_;clear hK K
   refine wp_region_lit ?_
   refine S.s (OpR.nadd S.ok rfl (S.e 2 rfl) (rfl : _ = nv .i64 1) (wr_i64 (by omega)) MT.self) rfl fun a w G S=>?_
   replace S:=S.d3
   refine S.s (OpR.mv S.ok rfl (S.g 0 rfl)) rfl fun a w G S=>?_
   refine wpList_nil ?_
   replace S:=S.d1
   exact ⟨4 - (i + 1),(by omega),i + 1,v1,own1,_,rfl,(by omega),(inv_next ▸ hr1),S.keep [0,1,3,4,5,6,7,8,9]⟩
  ·
   have hp6:=of_decide_eq_false hc4
   refine wp_exit (then_exit (then_exit (exit_same ?_)))
   clear hK K
   refine hK _ _ ?_;clear hK K
   refine wp_seq_k fun K hK=>?_
   replace S:=S.d1.d0
   have hi4 : i = 4:=by omega
   have hr4:=hr
   rw [hi4] at hr4
   have hck : chkF [rg,ra,rb,rc] = 0:=by omega
   obtain ⟨Gz,hsl,hle,S⟩:=S.freezeS (Bh:=[⟨b4,37,some 12,MT.ex ((.agg #[.bool false,.slice none 0 0,.slice none 0 0,.bool false,.slice none 0 0,.slice none 0 0,.bool false,.slice none 0 0,.slice none 0 0,.bool false,.slice none 0 0,.slice none 0 0] : Value))⟩,⟨b2,37,some 12,PTS [(some 3,FX n rg),(some 3,FX n ra),(some 3,FX n rb),(some 3,FX n rc)]⟩]) hr4 (by simp only [LIM,List.length_map,inv_len];omega)
   replace S:=S.also (t:=8) (τ:=LS (some 3) ((invL [rg,ra,rb,rc] (md4 k) 4).map (FX (n + 2)))) ((S.e 0 rfl).symm ▸ hsl)
   replace S : St W0 G0 51 [(8,LS (some 3) ((invL [rg,ra,rb,rc] (md4 k) 4).map (FX (n + 2)))),(8,MT.ex (v)),(7,LS (some 3) (([rg,ra,rb,rc]).map (FX n))),(1,NT (md4 k)),(13,BT (decide ((chkF [rg,ra,rb,rc]) ≠ 0))),(6,MT.ex (errV 51 (chkF [rg,ra,rb,rc]))),(5,MT.ex (Value.nilIface)),(4,PB b4),(2,PB b2)] [⟨b4,37,some 12,MT.ex ((.agg #[.bool false,.slice none 0 0,.slice none 0 0,.bool false,.slice none 0 0,.slice none 0 0,.bool false,.slice none 0 0,.slice none 0 0,.bool false,.slice none 0 0,.slice none 0 0] : Value))⟩,⟨b2,37,some 12,PTS [(some 3,FX n rg),(some 3,FX n ra),(some 3,FX n rb),(some 3,FX n rc)]⟩] a _ _:=S
   replace S:=S.d6
   refine S.drawnS [⟨38,.g (LS (some 3) ((invL [rg,ra,rb,rc] (md4 k) 4).map (FX (n + 2)))),[]⟩,⟨39,.g (PE (some 3) (FX (n + 2) ((invL [rg,ra,rb,rc] (md4 k) 4).getD 0 default))),[0]⟩,⟨40,.g (FX (n + 2) ((invL [rg,ra,rb,rc] (md4 k) 4).getD 0 default)),[1]⟩,⟨41,.g (LS (some 3) ((invL [rg,ra,rb,rc] (md4 k) 4).map (FX (n + 2)))),[]⟩,⟨42,.g (PE (some 3) (FX (n + 2) ((invL [rg,ra,rb,rc] (md4 k) 4).getD 1 default))),[3]⟩,⟨43,.g (FX (n + 2) ((invL [rg,ra,rb,rc] (md4 k) 4).getD 1 default)),[4]⟩,⟨44,.g (LS (some 3) ((invL [rg,ra,rb,rc] (md4 k) 4).map (FX (n + 2)))),[]⟩,⟨45,.g (PE (some 3) (FX (n + 2) ((invL [rg,ra,rb,rc] (md4 k) 4).getD 2 default))),[6]⟩,⟨46,.g (FX (n + 2) ((invL [rg,ra,rb,rc] (md4 k) 4).getD 2 default)),[7]⟩,⟨47,.g (LS (some 3) ((invL [rg,ra,rb,rc] (md4 k) 4).map (FX (n + 2)))),[]⟩,⟨48,.g (PE (some 3) (FX (n + 2) ((invL [rg,ra,rb,rc] (md4 k) 4).getD 3 default))),[9]⟩,⟨49,.g (FX (n + 2) ((invL [rg,ra,rb,rc] (md4 k) 4).getD 3 default)),[10]⟩,⟨50,.g (PTS [(some 3,FX (n + 2) (invF [rg,ra,rb,rc] k 0)),(some 3,FX (n + 2) (invF [rg,ra,rb,rc] k 1)),(some 3,FX (n + 2) (invF [rg,ra,rb,rc] k 2)),(some 3,FX (n + 2) (invF [rg,ra,rb,rc] k 3))]),[2,5,8,11]⟩,⟨9998,.st 0 (PTS [(some 3,FX (n + 2) (invF [rg,ra,rb,rc] k 0)),(some 3,FX (n + 2) (invF [rg,ra,rb,rc] k 1)),(some 3,FX (n + 2) (invF [rg,ra,rb,rc] k 2)),(some 3,FX (n + 2) (invF [rg,ra,rb,rc] k 3))]),[12]⟩,⟨5,.g (MT.ex (Value.nilIface)),[]⟩] mixedOrders (by kernel_rfl)
    ⟨⟨rfl,fun a w G S=>.of rfl (OpR.mv S.ok rfl (S.g 0 rfl))⟩,
     ⟨rfl,fun a w G S=>.of rfl (OpR.ixM (T:=(FX (n + 2))) (xs:=invL [rg,ra,rb,rc] (md4 k) 4) (i:=0) S.ok rfl Try.underlying22 tS_35 (S.g 0 rfl) (rfl : _ = nv .i64 0) rfl (by rw [inv_len];decide))⟩,
     ⟨rfl,fun a w G S=>.of rfl (OpR.ldE S.ok rfl tS_35 (S.g 0 rfl))⟩,
     ⟨rfl,fun a w G S=>.of rfl (OpR.mv S.ok rfl (S.g 0 rfl))⟩,
     ⟨rfl,fun a w G S=>.of rfl (OpR.ixM (T:=(FX (n + 2))) (xs:=invL [rg,ra,rb,rc] (md4 k) 4) (i:=1) S.ok rfl Try.underlying22 tS_35 (S.g 0 rfl) (rfl : _ = nv .i64 1) rfl (by rw [inv_len];decide))⟩,
     ⟨rfl,fun a w G S=>.of rfl (OpR.ldE S.ok rfl tS_35 (S.g 0 rfl))⟩,
     ⟨rfl,fun a w G S=>.of rfl (OpR.mv S.ok rfl (S.g 0 rfl))⟩,
     ⟨rfl,fun a w G S=>.of rfl (OpR.ixM (T:=(FX (n + 2))) (xs:=invL [rg,ra,rb,rc] (md4 k) 4) (i:=2) S.ok rfl Try.underlying22 tS_35 (S.g 0 rfl) (rfl : _ = nv .i64 2) rfl (by rw [inv_len];decide))⟩,
     ⟨rfl,fun a w G S=>.of rfl (OpR.ldE S.ok rfl tS_35 (S.g 0 rfl))⟩,
     ⟨rfl,fun a w G S=>.of rfl (OpR.mv S.ok rfl (S.g 0 rfl))⟩,
     ⟨rfl,fun a w G S=>.of rfl (OpR.ixM (T:=(FX (n + 2))) (xs:=invL [rg,ra,rb,rc] (md4 k) 4) (i:=3) S.ok rfl Try.underlying22 tS_35 (S.g 0 rfl) (rfl : _ = nv .i64 3) rfl (by rw [inv_len];decide))⟩,
     ⟨rfl,fun a w G S=>.of rfl (OpR.ldE S.ok rfl tS_35 (S.g 0 rfl))⟩,
     ⟨rfl,fun a w G S=>.of rfl (OpR.bldP (us:=[a.eval (.tmp 40),a.eval (.tmp 43),a.eval (.tmp 46),a.eval (.tmp 49)]) S.ok rfl (by simp only [List.map_toArray,List.map_cons,List.map_nil];exact bp_37_0_1_2_3 (u0:=a.eval (.tmp 40)) (u1:=a.eval (.tmp 43)) (u2:=a.eval (.tmp 46)) (u3:=a.eval (.tmp 49)) (sh (τ:=FX (n + 2) ((invL [rg,ra,rb,rc] (md4 k) 4).getD 0 default)) (S.g 0 rfl)) (sh (τ:=FX (n + 2) ((invL [rg,ra,rb,rc] (md4 k) 4).getD 1 default)) (S.g 1 rfl)) (sh (τ:=FX (n + 2) ((invL [rg,ra,rb,rc] (md4 k) 4).getD 2 default)) (S.g 2 rfl)) (sh (τ:=FX (n + 2) ((invL [rg,ra,rb,rc] (md4 k) 4).getD 3 default)) (S.g 3 rfl))) rfl (pts_cons (sh (τ:=FX (n + 2) (invF [rg,ra,rb,rc] k 0)) (FX.eq (S.g 0 rfl) (inv_at hck (by decide)))) (FX.eq (S.g 0 rfl) (inv_at hck (by decide))) (pts_cons (sh (τ:=FX (n + 2) (invF [rg,ra,rb,rc] k 1)) (FX.eq (S.g 1 rfl) (inv_at hck (by decide)))) (FX.eq (S.g 1 rfl) (inv_at hck (by decide))) (pts_cons (sh (τ:=FX (n + 2) (invF [rg,ra,rb,rc] k 2)) (FX.eq (S.g 2 rfl) (inv_at hck (by decide)))) (FX.eq (S.g 2 rfl) (inv_at hck (by decide))) (pts_cons (sh (τ:=FX (n + 2) (invF [rg,ra,rb,rc] k 3)) (FX.eq (S.g 3 rfl) (inv_at hck (by decide)))) (FX.eq (S.g 3 rfl) (inv_at hck (by decide))) pts_nil)))))⟩,
     ⟨rfl,rfl,rfl,.inl ⟨_,_,_,_,rfl,tS_37,fun a w G S=>⟨(S.g 0 rfl),sh (τ:=PTS [(some 3,FX (n + 2) (invF [rg,ra,rb,rc] k 0)),(some 3,FX (n + 2) (invF [rg,ra,rb,rc] k 1)),(some 3,FX (n + 2) (invF [rg,ra,rb,rc] k 2)),(some 3,FX (n + 2) (invF [rg,ra,rb,rc] k 3))]) (S.g 0 rfl)⟩,by rw [if_pos (by simp only [List.length_cons,List.length_nil];omega)];exact ⟨rfl,fun a w G S=>congrArg some (S.e 7 rfl).symm⟩⟩⟩,
     ⟨rfl,fun a w G S=>.of rfl (OpR.asn S.ok rfl rfl)⟩,trivial⟩ fun β a w G S=>?_
   replace S : St W0 G0 51 [(5,MT.ex (Value.nilIface)),(50,PTS [(some 3,FX (n + 2) (invF [rg,ra,rb,rc] k 0)),(some 3,FX (n + 2) (invF [rg,ra,rb,rc] k 1)),(some 3,FX (n + 2) (invF [rg,ra,rb,rc] k 2)),(some 3,FX (n + 2) (invF [rg,ra,rb,rc] k 3))]),(49,FX (n + 2) ((invL [rg,ra,rb,rc] (md4 k) 4).getD 3 default)),(48,PE (some 3) (FX (n + 2) ((invL [rg,ra,rb,rc] (md4 k) 4).getD 3 default))),(47,LS (some 3) ((invL [rg,ra,rb,rc] (md4 k) 4).map (FX (n + 2)))),(46,FX (n + 2) ((invL [rg,ra,rb,rc] (md4 k) 4).getD 2 default)),(45,PE (some 3) (FX (n + 2) ((invL [rg,ra,rb,rc] (md4 k) 4).getD 2 default))),(44,LS (some 3) ((invL [rg,ra,rb,rc] (md4 k) 4).map (FX (n + 2)))),(43,FX (n + 2) ((invL [rg,ra,rb,rc] (md4 k) 4).getD 1 default)),(42,PE (some 3) (FX (n + 2) ((invL [rg,ra,rb,rc] (md4 k) 4).getD 1 default))),(41,LS (some 3) ((invL [rg,ra,rb,rc] (md4 k) 4).map (FX (n + 2)))),(40,FX (n + 2) ((invL [rg,ra,rb,rc] (md4 k) 4).getD 0 default)),(39,PE (some 3) (FX (n + 2) ((invL [rg,ra,rb,rc] (md4 k) 4).getD 0 default))),(38,LS (some 3) ((invL [rg,ra,rb,rc] (md4 k) 4).map (FX (n + 2)))),(8,LS (some 3) ((invL [rg,ra,rb,rc] (md4 k) 4).map (FX (n + 2)))),(8,MT.ex (v)),(7,LS (some 3) (([rg,ra,rb,rc]).map (FX n))),(1,NT (md4 k)),(13,BT (decide ((chkF [rg,ra,rb,rc]) ≠ 0))),(6,MT.ex (errV 51 (chkF [rg,ra,rb,rc]))),(4,PB b4),(2,PB b2)] [⟨b4,37,some 12,PTS [(some 3,FX (n + 2) (invF [rg,ra,rb,rc] k 0)),(some 3,FX (n + 2) (invF [rg,ra,rb,rc] k 1)),(some 3,FX (n + 2) (invF [rg,ra,rb,rc] k 2)),(some 3,FX (n + 2) (invF [rg,ra,rb,rc] k 3))]⟩,⟨b2,37,some 12,PTS [(some 3,FX n rg),(some 3,FX n ra),(some 3,FX n rb),(some 3,FX n rc)]⟩] a _ _:=S
   refine wpList_nil (hK _ _ ?_);clear hK K
   replace S:=S.d15.d13.d12.d11.d10.d9.d8.d7.d6.d5.d4.d3.d2.d1
   exact wp_ret (S.retCellTmp (i:=0) rfl (S.e 6 rfl) rfl tS_37 (fun _ h=>h) ((S.e 0 rfl).trans (errV_z (by omega))))
end Go.Proofs.Ytdeihehaheelmaa
namespace Go.Proofs.Ytdeihehaheelmaa
set_option maxHeartbeats 1000000
set_option maxRecDepth 100000
open Go.RowKit (Below)
private theorem ap_56 : ∀ {u0 : Value} {u1 : Value} {u2 : Value} {u3 : Value} (h0 : ∃ z,u0 = Value.int .i64 z) (h1 : ∃ z,u1 = Value.int .i64 z) (h2 : ∃ z,u2 = Value.int .i64 z) (h3 : ∃ z,u3 = Value.int .i64 z),Try.prog.built 56 [(0,u0),(1,u1),(2,u2),(3,u3)] = some (flat [u0,u1,u2,u3]).toArray:=by
 intro u0 u1 u2 u3 h0 h1 h2 h3
 obtain ⟨z0,rfl⟩:=h0
 obtain ⟨z1,rfl⟩:=h1
 obtain ⟨z2,rfl⟩:=h2
 obtain ⟨z3,rfl⟩:=h3
 kernel_rfl
private theorem c_14 : callable Try.prog 14 = true:=by kernel_rfl
private theorem c_19 : callable Try.prog 19 = true:=by kernel_rfl
private theorem c_24 : callable Try.prog 24 = true:=by kernel_rfl
private theorem c_29 : callable Try.prog 29 = true:=by kernel_rfl
private theorem c_30 : callable Try.prog 30 = true:=by kernel_rfl
private theorem c_9 : callable Try.prog 9 = true:=by kernel_rfl
private theorem it_3 : intTy Try.prog 3 .i64 = true:=by kernel_rfl
private theorem it_5 : intTy Try.prog 5 .u8 = true:=by kernel_rfl
private theorem tS_3 : tyS Try.prog 3 (none) = true:=by kernel_rfl
private theorem tS_56 : tyS Try.prog 56 (some 4) = true:=by kernel_rfl
private theorem z_56 : (Try.prog.info? 56).bind (·.zero) = some (.agg #[.int .i64 0,.int .i64 0,.int .i64 0,.int .i64 0]):=by kernel_rfl
private theorem zs_56 : Shaped (some 4) (.agg #[.int .i64 0,.int .i64 0,.int .i64 0,.int .i64 0]):=⟨_,rfl,rfl,by simp [Value.oneCell']⟩
theorem lmap05_ok {x : Int} {v1 : Value} {W0 : World} {G0 : Gh} (hok : Gok W0 G0) (h1 : (IT x).t v1 G0)  : Calls Try.prog 30 #[v1] W0 (Ret W0 G0 (IT (if x > 0 then 4 else 5))):=by
 refine St.enter (N:=5) (L:=[(0,IT x)]) (args:=[v1]) Try.func30 rfl rfl rfl hok (enter1 h1) fun a S=>?_
 refine wp_reg fun K hK=>?_
 refine S.s (τ:=NT 0) (OpR.asn S.ok rfl (rfl : _ = nv .i64 0)) rfl fun a w G S=>?_
 refine wpList_nil (hK _ _ ?_);clear hK K
 refine wp_seq_k fun K hK=>?_
 refine wp_reg fun K hK=>?_
 refine S.s (OpR.mv S.ok rfl (S.g 1 rfl)) rfl fun a w G S=>?_
 refine S.s (OpR.igtr S.ok rfl (S.e 0 rfl) (rfl : _ = nv .i64 0) MT.self) rfl fun a w G S=>?_
 refine wpList_nil (hK _ _ ?_);clear hK K
 replace S:=S.d3.d1
 refine S.cond 0 rfl (fun hc1=>?_) (fun hc1=>?_)
 ·
  have hp2:=of_decide_eq_true hc1
  refine wp_reg fun K hK=>?_
  replace S:=S.d1
  refine S.s (τ:=NT 4) (OpR.asn S.ok rfl (rfl : _ = nv .i64 4)) rfl fun a w G S=>?_
  refine wpList_nil (hK _ _ ?_);clear hK K
  exact wp_ret (then_ret (S.retTmp rfl ((S.e 0 rfl).trans (iv_eq (by rw [if_pos ‹_›];rfl)))))
 ·
  have hp3:=of_decide_eq_false hc1
  refine wp_skip ?_
  refine hK _ _ ?_;clear hK K
  refine wp_reg fun K hK=>?_
  replace S:=S.d1
  refine S.s (τ:=NT 5) (OpR.asn S.ok rfl (rfl : _ = nv .i64 5)) rfl fun a w G S=>?_
  refine wpList_nil (hK _ _ ?_);clear hK K
  exact wp_ret (S.retTmp rfl ((S.e 0 rfl).trans (iv_eq (by rw [if_neg ‹_›];rfl))))
theorem lInverts_ok {rg ra rb rc : FR} {k : Nat} {v1 v2 : Value} {W0 : World} {G0 : Gh} (hok : Gok W0 G0) (h1 : (PTS [(some 3,RX rg),(some 3,RX ra),(some 3,RX rb),(some 3,RX rc)]).t v1 G0) (h2 : (MT.ex (nv .u8 (k))).t v2 G0)  : Calls Try.prog 8 #[v1,v2] W0 (Ret W0 G0 (BT true)):=by
 refine St.enter (N:=126) (L:=[(1,MT.ex (nv .u8 (k))),(0,PTS [(some 3,RX rg),(some 3,RX ra),(some 3,RX rb),(some 3,RX rc)])]) (args:=[v1,v2]) Try.func8 rfl rfl rfl hok (enter2 h1 h2) fun a S=>?_
 refine wp_reg fun K hK=>?_
 refine S.boxop (x:=.tmp 0) (τ:=PTS [(some 3,RX rg),(some 3,RX ra),(some 3,RX rb),(some 3,RX rc)]) (S.g 1 rfl) (sh (τ:=PTS [(some 3,RX rg),(some 3,RX ra),(some 3,RX rb),(some 3,RX rc)]) (S.g 1 rfl)) rfl rfl rfl rfl rfl fun b2 a w G S=>?_
 refine S.s (τ:=BT false) (OpR.asn S.ok rfl rfl) rfl fun a w G S=>?_
 refine wpList_nil (hK _ _ ?_);clear hK K
 replace S:=S.d3
 refine wp_seq_k fun K hK=>?_
 refine wp_reg fun K hK=>?_
 refine S.s (τ:=BT true) (OpR.call0 rfl c_9 (lawake_ok S.ok )) rfl fun a w G S=>?_
 refine S.s (τ:=BT false) (OpR.bnot S.ok rfl (S.e 0 rfl) rfl) rfl fun a w G S=>?_
 refine S.s (OpR.mv S.ok rfl (S.g 0 rfl)) rfl fun a w G S=>?_
 refine S.stepG 0 (OpR.ldBox S.ok rfl (S.e 4 rfl) (S.box 0 rfl) tS_37) rfl rfl rfl rfl rfl rfl fun a w G S=>?_
 refine S.stepG (τ:=BT (shortF [rg,ra,rb,rc])) 1 (OpR.call1 rfl c_14 (lshort_ok S.ok (S.g 0 rfl))) rfl rfl rfl rfl rfl rfl fun a w G S=>?_
 refine S.stepG 2 (OpR.bnot S.ok rfl (S.e 0 rfl) MT.self) rfl rfl rfl rfl rfl rfl fun a w G S=>?_
 refine S.s (τ:=BT (!(shortF [rg,ra,rb,rc]))) (OpR.pick S.ok rfl (S.e 3 rfl) (S.g 0 rfl)) rfl fun a w G S=>?_
 refine S.s (OpR.mv S.ok rfl (S.g 0 rfl)) rfl fun a w G S=>?_
 rcases Bool.eq_false_or_eq_true (!(shortF [rg,ra,rb,rc])) with hc1 | hc1
 ·
  replace S:=S.boolIs 0 rfl hc1
  refine S.skipG 0 rfl rfl rfl rfl rfl rfl fun a w G S=>?_
  refine S.skipG 1 rfl rfl rfl rfl rfl rfl fun a w G S=>?_
  refine S.skipG 2 rfl rfl rfl rfl rfl rfl fun a w G S=>?_
  refine S.s (τ:=BT true) (OpR.pick S.ok rfl (S.e 3 rfl) rfl) rfl fun a w G S=>?_
  refine wpList_nil (hK _ _ ?_);clear hK K
  replace S:=S.d12.d11.d10.d9.d8.d7.d6.d5.d4.d3.d2.d1
  refine wp_cond_true (S.e 0 rfl) ?_
  refine wp_reg fun K hK=>?_
  refine S.s (τ:=BT true) (OpR.call0 rfl c_9 (lawake_ok S.ok )) rfl fun a w G S=>?_
  replace S:=S.d2
  refine S.s (OpR.asn S.ok rfl (S.g 0 rfl)) rfl fun a w G S=>?_
  refine wpList_nil (hK _ _ ?_);clear hK K
  replace S:=S.d1
  exact wp_ret (then_ret (S.retTmp rfl (S.g 0 rfl)))
 ·
  have hs1:=not_false_of hc1
  replace S:=S.boolIs 0 rfl hc1
  replace S:=(S.castBox (τ':=PTS [(some 3,FX 64 rg),(some 3,FX 64 ra),(some 3,FX 64 rb),(some 3,FX 64 rc)]) 0 rfl fun _ h _=>quad_toFX h hs1).n0
  refine S.stepG 0 (OpR.ldBox S.ok rfl (S.e 10 rfl) (S.box 0 rfl) tS_37) rfl rfl rfl rfl rfl rfl fun a w G S=>?_
  refine S.stepG (τ:=MT.ex (errV 51 (chkF [rg,ra,rb,rc]))) 1 (OpR.call1 rfl c_17 (xCheck_ok S.ok (S.g 0 rfl) (by decide) (by decide))) rfl rfl rfl rfl rfl rfl fun a w G S=>?_
  refine S.stepG (τ:=BT (decide ((chkF [rg,ra,rb,rc]) ≠ 0))) 2 (OpR.isB errV_neq (OpR.errNeqNil S.ok rfl if_26 (S.e 0 rfl) (by first | exact .inl rfl | exact .inr ⟨_,_,rfl⟩ | exact errV_or _) rfl)) rfl rfl rfl rfl rfl rfl fun a w G S=>?_
  refine S.s (τ:=BT (decide ((chkF [rg,ra,rb,rc]) ≠ 0))) (OpR.pick S.ok rfl (S.e 3 rfl) (S.g 0 rfl)) rfl fun a w G S=>?_
  refine wpList_nil (hK _ _ ?_);clear hK K
  replace S:=S.d12.d11.d10.d9.d8.d7.d6.d5.d4.d3.d2.d1
  refine S.cond 0 rfl (fun hc4=>?_) (fun hc4=>?_)
  ·
   have hp5:=of_decide_eq_true hc4
   refine wp_reg fun K hK=>?_
   refine S.s (τ:=BT true) (OpR.call0 rfl c_9 (lawake_ok S.ok )) rfl fun a w G S=>?_
   replace S:=S.d2
   refine S.s (OpR.asn S.ok rfl (S.g 0 rfl)) rfl fun a w G S=>?_
   refine wpList_nil (hK _ _ ?_);clear hK K
   replace S:=S.d1
   exact wp_ret (then_ret (S.retTmp rfl (S.g 0 rfl)))
  ·
   have hp6:=of_decide_eq_false hc4
   have hck : chkF [rg,ra,rb,rc] = 0:=by omega
   have hck2 : chkF (invQ [rg,ra,rb,rc] ((k % 4 : Nat) : Int)) = 0:=inv_chk hck
   have hex : excF (invQ [rg,ra,rb,rc] ((k % 4 : Nat) : Int)) = excF [rg,ra,rb,rc]:=inv_exc hck
   have hcb:=cls_bd hck
   have hdb : 0 ≤ clsF (invQ [rg,ra,rb,rc] ((k % 4 : Nat) : Int)) ∧ clsF (invQ [rg,ra,rb,rc] ((k % 4 : Nat) : Int)) ≤ 5:=cls_bd hck2
   refine wp_skip ?_
   refine hK _ _ ?_;clear hK K
   refine wp_reg fun K hK=>?_
   refine S.s (OpR.mv S.ok rfl (S.g 3 rfl)) rfl fun a w G S=>?_
   refine S.s (OpR.nrem S.ok rfl (S.e 0 rfl) (rfl : _ = nv .u8 4) (by omega) MT.self) rfl fun a w G S=>?_
   refine S.s (OpR.nconv S.ok rfl (S.e 0 rfl) it_5 it_3 (wr_i64 (by omega)) MT.self) rfl fun a w G S=>?_
   refine S.s (OpR.asn S.ok rfl (S.g 0 rfl)) rfl fun a w G S=>?_
   refine wpList_nil (hK _ _ ?_);clear hK K
   replace S:=S.d7.d3.d2.d1
   refine wp_reg fun K hK=>?_
   refine S.s (OpR.ldBox S.ok rfl (S.e 3 rfl) (S.box 0 rfl) tS_37) rfl fun a w G S=>?_
   refine S.s (OpR.mv S.ok rfl (S.g 1 rfl)) rfl fun a w G S=>?_
   refine S.s (τ:=MT.tup2 (PTS [(some 3,FX (64 + 2) (invF [rg,ra,rb,rc] (((k % 4 : Nat) : Int)) 0)),(some 3,FX (64 + 2) (invF [rg,ra,rb,rc] (((k % 4 : Nat) : Int)) 1)),(some 3,FX (64 + 2) (invF [rg,ra,rb,rc] (((k % 4 : Nat) : Int)) 2)),(some 3,FX (64 + 2) (invF [rg,ra,rb,rc] (((k % 4 : Nat) : Int)) 3))]) (MT.ex (errV 51 (chkF [rg,ra,rb,rc])))) (OpR.call2 rfl c_29 (xInvert_ok S.ok (S.g 1 rfl) ((S.e 0 rfl).trans (iv_eq (by first | rfl | omega | (simp only [Nat.zero_add,Nat.add_zero];done) | (simp;done) | (push_cast;omega)))) (by decide) (by decide))) rfl fun a w G S=>?_
   refine S.s (OpR.mv S.ok rfl (S.g 0 rfl)) rfl fun a w G S=>?_
   refine S.s (OpR.ext2a S.ok rfl (S.g 0 rfl)) rfl fun a w G S=>?_
   refine S.s (OpR.ext2b S.ok rfl (S.g 1 rfl)) rfl fun a w G S=>?_
   refine S.alloc rfl rfl rfl z_37 zs_37 rfl rfl fun b6 a w G S=>?_
   refine S.store (τ:=PTS [(some 3,FX (64 + 2) (invF [rg,ra,rb,rc] (((k % 4 : Nat) : Int)) 0)),(some 3,FX (64 + 2) (invF [rg,ra,rb,rc] (((k % 4 : Nat) : Int)) 1)),(some 3,FX (64 + 2) (invF [rg,ra,rb,rc] (((k % 4 : Nat) : Int)) 2)),(some 3,FX (64 + 2) (invF [rg,ra,rb,rc] (((k % 4 : Nat) : Int)) 3))]) 0 rfl rfl rfl rfl (S.e 0 rfl) tS_37 (S.g 2 rfl) (sh (τ:=PTS [(some 3,FX (64 + 2) (invF [rg,ra,rb,rc] (((k % 4 : Nat) : Int)) 0)),(some 3,FX (64 + 2) (invF [rg,ra,rb,rc] (((k % 4 : Nat) : Int)) 1)),(some 3,FX (64 + 2) (invF [rg,ra,rb,rc] (((k % 4 : Nat) : Int)) 2)),(some 3,FX (64 + 2) (invF [rg,ra,rb,rc] (((k % 4 : Nat) : Int)) 3))]) (S.g 2 rfl)) fun w S=>?_
   replace S:=S.n0
   refine S.s (τ:=MT.ex (errV 51 (0))) (OpR.asn S.ok rfl ((S.e 1 rfl).trans (congrArg (errV 51) hck))) rfl fun a w G S=>?_
   refine wpList_nil (hK _ _ ?_);clear hK K
   replace S:=S.d7.d6.d5.d4.d3.d2
   refine wp_reg fun K hK=>?_
   refine S.s (OpR.ldBox S.ok rfl (S.e 5 rfl) (S.box 1 rfl) tS_37) rfl fun a w G S=>?_
   refine S.s (τ:=MT.tup2 (IT (excRes [rg,ra,rb,rc])) (MT.ex (errV 51 (chkF [rg,ra,rb,rc])))) (OpR.call1 rfl c_24 (xExcess_ok S.ok (S.g 0 rfl) (by decide) (by decide))) rfl fun a w G S=>?_
   refine S.s (OpR.mv S.ok rfl (S.g 0 rfl)) rfl fun a w G S=>?_
   refine S.s (OpR.ext2a S.ok rfl (S.g 0 rfl)) rfl fun a w G S=>?_
   refine S.s (OpR.ext2b S.ok rfl (S.g 1 rfl)) rfl fun a w G S=>?_
   refine S.s (τ:=IT (excF [rg,ra,rb,rc])) (OpR.asn S.ok rfl ((S.e 1 rfl).trans (iv_eq (excRes_ok hck)))) rfl fun a w G S=>?_
   refine S.s (τ:=MT.ex (errV 51 (0))) (OpR.asn S.ok rfl ((S.e 1 rfl).trans (congrArg (errV 51) hck))) rfl fun a w G S=>?_
   refine wpList_nil (hK _ _ ?_);clear hK K
   replace S:=S.d6.d5.d4.d3.d2
   refine wp_reg fun K hK=>?_
   refine S.s (OpR.ldBox S.ok rfl (S.e 3 rfl) (S.box 0 rfl) tS_37) rfl fun a w G S=>?_
   refine S.s (τ:=MT.tup2 (IT (excRes [(invF [rg,ra,rb,rc] (((k % 4 : Nat) : Int)) 0),(invF [rg,ra,rb,rc] (((k % 4 : Nat) : Int)) 1),(invF [rg,ra,rb,rc] (((k % 4 : Nat) : Int)) 2),(invF [rg,ra,rb,rc] (((k % 4 : Nat) : Int)) 3)])) (MT.ex (errV 51 (chkF [(invF [rg,ra,rb,rc] (((k % 4 : Nat) : Int)) 0),(invF [rg,ra,rb,rc] (((k % 4 : Nat) : Int)) 1),(invF [rg,ra,rb,rc] (((k % 4 : Nat) : Int)) 2),(invF [rg,ra,rb,rc] (((k % 4 : Nat) : Int)) 3)])))) (OpR.call1 rfl c_24 (xExcess_ok S.ok (S.g 0 rfl) (by decide) (by decide))) rfl fun a w G S=>?_
   refine S.s (OpR.mv S.ok rfl (S.g 0 rfl)) rfl fun a w G S=>?_
   refine S.s (OpR.ext2a S.ok rfl (S.g 0 rfl)) rfl fun a w G S=>?_
   refine S.s (OpR.ext2b S.ok rfl (S.g 1 rfl)) rfl fun a w G S=>?_
   refine S.s (τ:=IT (excF [rg,ra,rb,rc])) (OpR.asn S.ok rfl ((S.e 1 rfl).trans (iv_eq ((excRes_ok hck2).trans hex)))) rfl fun a w G S=>?_
   refine S.s (τ:=MT.ex (errV 51 (0))) (OpR.asn S.ok rfl ((S.e 1 rfl).trans (congrArg (errV 51) hck2))) rfl fun a w G S=>?_
   refine wpList_nil (hK _ _ ?_);clear hK K
   replace S:=S.d6.d5.d4.d3.d2
   refine wp_reg fun K hK=>?_
   refine S.s (OpR.ldBox S.ok rfl (S.e 9 rfl) (S.box 1 rfl) tS_37) rfl fun a w G S=>?_
   refine S.s (τ:=MT.tup2 (IT (clsF [rg,ra,rb,rc])) (MT.ex (errV 51 (chkF [rg,ra,rb,rc])))) (OpR.call1 rfl c_19 (xClass_ok S.ok (S.g 0 rfl) (by decide) (by decide))) rfl fun a w G S=>?_
   refine S.s (OpR.mv S.ok rfl (S.g 0 rfl)) rfl fun a w G S=>?_
   refine S.s (OpR.ext2a S.ok rfl (S.g 0 rfl)) rfl fun a w G S=>?_
   refine S.s (OpR.ext2b S.ok rfl (S.g 1 rfl)) rfl fun a w G S=>?_
   refine S.s (OpR.asn S.ok rfl (S.g 1 rfl)) rfl fun a w G S=>?_
   refine S.s (τ:=MT.ex (errV 51 (0))) (OpR.asn S.ok rfl ((S.e 1 rfl).trans (congrArg (errV 51) hck))) rfl fun a w G S=>?_
   refine wpList_nil (hK _ _ ?_);clear hK K
   replace S:=S.d6.d5.d4.d3.d2
   refine wp_reg fun K hK=>?_
   refine S.s (OpR.ldBox S.ok rfl (S.e 7 rfl) (S.box 0 rfl) tS_37) rfl fun a w G S=>?_
   refine S.s (τ:=MT.tup2 (IT (clsF [(invF [rg,ra,rb,rc] (((k % 4 : Nat) : Int)) 0),(invF [rg,ra,rb,rc] (((k % 4 : Nat) : Int)) 1),(invF [rg,ra,rb,rc] (((k % 4 : Nat) : Int)) 2),(invF [rg,ra,rb,rc] (((k % 4 : Nat) : Int)) 3)])) (MT.ex (errV 51 (chkF [(invF [rg,ra,rb,rc] (((k % 4 : Nat) : Int)) 0),(invF [rg,ra,rb,rc] (((k % 4 : Nat) : Int)) 1),(invF [rg,ra,rb,rc] (((k % 4 : Nat) : Int)) 2),(invF [rg,ra,rb,rc] (((k % 4 : Nat) : Int)) 3)])))) (OpR.call1 rfl c_19 (xClass_ok S.ok (S.g 0 rfl) (by decide) (by decide))) rfl fun a w G S=>?_
   refine S.s (OpR.mv S.ok rfl (S.g 0 rfl)) rfl fun a w G S=>?_
   refine S.s (OpR.ext2a S.ok rfl (S.g 0 rfl)) rfl fun a w G S=>?_
   refine S.s (OpR.ext2b S.ok rfl (S.g 1 rfl)) rfl fun a w G S=>?_
   refine S.s (τ:=IT (clsF (invQ [rg,ra,rb,rc] ((k % 4 : Nat) : Int)))) (OpR.asn S.ok rfl ((S.e 1 rfl).trans (iv_eq rfl))) rfl fun a w G S=>?_
   refine S.s (τ:=MT.ex (errV 51 (0))) (OpR.asn S.ok rfl ((S.e 1 rfl).trans (congrArg (errV 51) hck2))) rfl fun a w G S=>?_
   refine wpList_nil (hK _ _ ?_);clear hK K
   replace S:=S.d6.d5.d4.d3.d2
   refine wp_seq_k fun K hK=>?_
   refine wp_reg fun K hK=>?_
   refine S.s (OpR.mv S.ok rfl (S.g 8 rfl)) rfl fun a w G S=>?_
   refine S.s (τ:=BT false) (OpR.isB (errV_neq.trans (by rfl)) (OpR.errNeqNil S.ok rfl if_26 (S.e 0 rfl) (by first | exact .inl rfl | exact .inr ⟨_,_,rfl⟩ | exact errV_or _) rfl)) rfl fun a w G S=>?_
   refine S.s (OpR.mv S.ok rfl (S.g 0 rfl)) rfl fun a w G S=>?_
   refine S.stepG 0 (OpR.mv S.ok rfl (S.g 9 rfl)) rfl rfl rfl rfl rfl rfl fun a w G S=>?_
   refine S.stepG (τ:=BT false) 1 (OpR.isB (errV_neq.trans (by rfl)) (OpR.errNeqNil S.ok rfl if_26 (S.e 0 rfl) (by first | exact .inl rfl | exact .inr ⟨_,_,rfl⟩ | exact errV_or _) rfl)) rfl rfl rfl rfl rfl rfl fun a w G S=>?_
   refine S.s (τ:=BT false) (OpR.pick S.ok rfl (S.e 2 rfl) (S.g 0 rfl)) rfl fun a w G S=>?_
   refine S.s (OpR.mv S.ok rfl (S.g 0 rfl)) rfl fun a w G S=>?_
   refine S.stepG 0 (OpR.mv S.ok rfl (S.g 11 rfl)) rfl rfl rfl rfl rfl rfl fun a w G S=>?_
   refine S.stepG (τ:=BT false) 1 (OpR.isB (errV_neq.trans (by rfl)) (OpR.errNeqNil S.ok rfl if_26 (S.e 0 rfl) (by first | exact .inl rfl | exact .inr ⟨_,_,rfl⟩ | exact errV_or _) rfl)) rfl rfl rfl rfl rfl rfl fun a w G S=>?_
   refine S.s (τ:=BT false) (OpR.pick S.ok rfl (S.e 2 rfl) (S.g 0 rfl)) rfl fun a w G S=>?_
   refine S.s (OpR.mv S.ok rfl (S.g 0 rfl)) rfl fun a w G S=>?_
   refine S.stepG 0 (OpR.mv S.ok rfl (S.g 13 rfl)) rfl rfl rfl rfl rfl rfl fun a w G S=>?_
   refine S.stepG (τ:=BT false) 1 (OpR.isB (errV_neq.trans (by rfl)) (OpR.errNeqNil S.ok rfl if_26 (S.e 0 rfl) (by first | exact .inl rfl | exact .inr ⟨_,_,rfl⟩ | exact errV_or _) rfl)) rfl rfl rfl rfl rfl rfl fun a w G S=>?_
   refine S.s (τ:=BT false) (OpR.pick S.ok rfl (S.e 2 rfl) (S.g 0 rfl)) rfl fun a w G S=>?_
   refine S.s (OpR.mv S.ok rfl (S.g 0 rfl)) rfl fun a w G S=>?_
   refine S.stepG 0 (OpR.mv S.ok rfl (S.g 15 rfl)) rfl rfl rfl rfl rfl rfl fun a w G S=>?_
   refine S.stepG (τ:=BT false) 1 (OpR.isB (errV_neq.trans (by rfl)) (OpR.errNeqNil S.ok rfl if_26 (S.e 0 rfl) (by first | exact .inl rfl | exact .inr ⟨_,_,rfl⟩ | exact errV_or _) rfl)) rfl rfl rfl rfl rfl rfl fun a w G S=>?_
   refine S.s (τ:=BT false) (OpR.pick S.ok rfl (S.e 2 rfl) (S.g 0 rfl)) rfl fun a w G S=>?_
   refine S.s (OpR.mv S.ok rfl (S.g 0 rfl)) rfl fun a w G S=>?_
   refine S.stepG 0 (OpR.mv S.ok rfl (S.g 26 rfl)) rfl rfl rfl rfl rfl rfl fun a w G S=>?_
   refine S.stepG 1 (OpR.mv S.ok rfl (S.g 25 rfl)) rfl rfl rfl rfl rfl rfl fun a w G S=>?_
   refine S.stepG (τ:=BT false) 2 (OpR.zneq S.ok rfl (S.e 1 rfl) (S.e 0 rfl) (bv_eq (by simp))) rfl rfl rfl rfl rfl rfl fun a w G S=>?_
   refine S.s (τ:=BT false) (OpR.pick S.ok rfl (S.e 3 rfl) (S.g 0 rfl)) rfl fun a w G S=>?_
   refine S.s (OpR.mv S.ok rfl (S.g 0 rfl)) rfl fun a w G S=>?_
   refine S.stepG 0 (OpR.mv S.ok rfl (S.g 27 rfl)) rfl rfl rfl rfl rfl rfl fun a w G S=>?_
   refine S.stepG (τ:=BT false) 1 (OpR.ilss S.ok rfl (S.e 0 rfl) (rfl : _ = nv .i64 0) (bv_eq (decide_eq_false (by omega)))) rfl rfl rfl rfl rfl rfl fun a w G S=>?_
   refine S.s (τ:=BT false) (OpR.pick S.ok rfl (S.e 2 rfl) (S.g 0 rfl)) rfl fun a w G S=>?_
   refine S.s (OpR.mv S.ok rfl (S.g 0 rfl)) rfl fun a w G S=>?_
   refine S.stepG 0 (OpR.mv S.ok rfl (S.g 29 rfl)) rfl rfl rfl rfl rfl rfl fun a w G S=>?_
   refine S.stepG (τ:=BT false) 1 (OpR.ilss S.ok rfl (S.e 0 rfl) (rfl : _ = nv .i64 0) (bv_eq (decide_eq_false (by omega)))) rfl rfl rfl rfl rfl rfl fun a w G S=>?_
   refine S.s (τ:=BT false) (OpR.pick S.ok rfl (S.e 2 rfl) (S.g 0 rfl)) rfl fun a w G S=>?_
   refine S.s (OpR.mv S.ok rfl (S.g 0 rfl)) rfl fun a w G S=>?_
   refine S.stepG 0 (OpR.mv S.ok rfl (S.g 35 rfl)) rfl rfl rfl rfl rfl rfl fun a w G S=>?_
   refine S.stepG (τ:=BT false) 1 (OpR.igtr S.ok rfl (S.e 0 rfl) (rfl : _ = nv .i64 5) (bv_eq (decide_eq_false (by omega)))) rfl rfl rfl rfl rfl rfl fun a w G S=>?_
   refine S.s (τ:=BT false) (OpR.pick S.ok rfl (S.e 2 rfl) (S.g 0 rfl)) rfl fun a w G S=>?_
   refine S.s (OpR.mv S.ok rfl (S.g 0 rfl)) rfl fun a w G S=>?_
   refine S.stepG 0 (OpR.mv S.ok rfl (S.g 37 rfl)) rfl rfl rfl rfl rfl rfl fun a w G S=>?_
   refine S.stepG (τ:=BT false) 1 (OpR.igtr S.ok rfl (S.e 0 rfl) (rfl : _ = nv .i64 5) (bv_eq (decide_eq_false (by omega)))) rfl rfl rfl rfl rfl rfl fun a w G S=>?_
   refine S.s (τ:=BT false) (OpR.pick S.ok rfl (S.e 2 rfl) (S.g 0 rfl)) rfl fun a w G S=>?_
   refine wpList_nil (hK _ _ ?_);clear hK K
   replace S : St W0 G0 126 [(97,BT false),(14,IT (clsF (invQ [rg,ra,rb,rc] ((k % 4 : Nat) : Int)))),(12,IT (clsF [rg,ra,rb,rc])),(8,IT (excF [rg,ra,rb,rc])),(6,PB b6),(5,NT (k % 4)),(28,BT (decide ((chkF [rg,ra,rb,rc]) ≠ 0))),(4,BT false),(2,PB b2)] [⟨b6,37,some 12,PTS [(some 3,FX (64 + 2) (invF [rg,ra,rb,rc] (((k % 4 : Nat) : Int)) 0)),(some 3,FX (64 + 2) (invF [rg,ra,rb,rc] (((k % 4 : Nat) : Int)) 1)),(some 3,FX (64 + 2) (invF [rg,ra,rb,rc] (((k % 4 : Nat) : Int)) 2)),(some 3,FX (64 + 2) (invF [rg,ra,rb,rc] (((k % 4 : Nat) : Int)) 3))]⟩,⟨b2,37,some 12,PTS [(some 3,FX 64 rg),(some 3,FX 64 ra),(some 3,FX 64 rb),(some 3,FX 64 rc)]⟩] a _ _:=S.keep [0,40,42,46,48,49,50,51,52]
   refine wp_cond_false (S.e 0 rfl) ?_
   refine wp_skip ?_
   refine hK _ _ ?_;clear hK K
   refine wp_seq_k fun K hK=>?_
   refine wp_reg fun K hK=>?_
   refine S.s (OpR.mv S.ok rfl (S.g 3 rfl)) rfl fun a w G S=>?_
   refine S.s (OpR.igeq S.ok rfl (S.e 0 rfl) (rfl : _ = nv .i64 0) MT.self) rfl fun a w G S=>?_
   refine wpList_nil (hK _ _ ?_);clear hK K
   replace S:=S.d1
   refine S.cond 0 rfl (fun hc7=>?_) (fun hc7=>?_)
   ·
    have hp8:=of_decide_eq_true hc7
    have hcu:=cls_up hck hp8
    have hdu : clsF (invQ [rg,ra,rb,rc] ((k % 4 : Nat) : Int)) = if excF (invQ [rg,ra,rb,rc] ((k % 4 : Nat) : Int)) > 0 then 4 else 5:=cls_up hck2 (show excF (invQ [rg,ra,rb,rc] ((k % 4 : Nat) : Int)) ≥ 0 by omega)
    rw [hex] at hdu
    refine wp_reg fun K hK=>?_
    refine S.s (OpR.mv S.ok rfl (S.g 3 rfl)) rfl fun a w G S=>?_
    refine S.s (OpR.mv S.ok rfl (S.g 3 rfl)) rfl fun a w G S=>?_
    refine S.s (τ:=BT true) (OpR.zeql S.ok rfl (S.e 1 rfl) (S.e 0 rfl) (bv_eq (decide_eq_true (hcu.trans hdu.symm)))) rfl fun a w G S=>?_
    refine S.s (OpR.mv S.ok rfl (S.g 0 rfl)) rfl fun a w G S=>?_
    refine S.stepG 0 (OpR.mv S.ok rfl (S.g 7 rfl)) rfl rfl rfl rfl rfl rfl fun a w G S=>?_
    refine S.stepG 1 (OpR.mv S.ok rfl (S.g 9 rfl)) rfl rfl rfl rfl rfl rfl fun a w G S=>?_
    refine S.stepG (τ:=IT (if (excF [rg,ra,rb,rc]) > 0 then 4 else 5)) 2 (OpR.call1 rfl c_30 (lmap05_ok S.ok (S.g 0 rfl))) rfl rfl rfl rfl rfl rfl fun a w G S=>?_
    refine S.stepG (τ:=BT true) 3 (OpR.zeql S.ok rfl (S.e 2 rfl) (S.e 0 rfl) (bv_eq (decide_eq_true hcu))) rfl rfl rfl rfl rfl rfl fun a w G S=>?_
    refine S.s (τ:=BT true) (OpR.pick S.ok rfl (S.e 4 rfl) (S.g 0 rfl)) rfl fun a w G S=>?_
    replace S:=S.d17
    refine S.s (OpR.asn S.ok rfl (S.g 0 rfl)) rfl fun a w G S=>?_
    refine wpList_nil (hK _ _ ?_);clear hK K
    replace S:=S.d9.d8.d7.d6.d5.d4.d3.d2.d1
    exact wp_ret (then_ret (S.retTmp rfl (S.g 0 rfl)))
   ·
    have hp9:=of_decide_eq_false hc7
    have hE : excF [rg,ra,rb,rc] < 0:=by omega
    have hcd:=cls_dn hck hE
    have hdd : clsF (invQ [rg,ra,rb,rc] ((k % 4 : Nat) : Int)) = ((lnk (hd4 (invQ [rg,ra,rb,rc] ((k % 4 : Nat) : Int))) : Nat) : Int):=cls_dn hck2 (show excF (invQ [rg,ra,rb,rc] ((k % 4 : Nat) : Int)) < 0 by omega)
    have hl1:=lnk_lt (hd4 [rg,ra,rb,rc])
    have hl2:=lnk_lt (hd4 (invQ [rg,ra,rb,rc] ((k % 4 : Nat) : Int)))
    have hl3:=hd4_lt [rg,ra,rb,rc]
    have hl4:=hd4_lt (invQ [rg,ra,rb,rc] ((k % 4 : Nat) : Int))
    refine wp_skip ?_
    refine hK _ _ ?_;clear hK K
    refine wp_reg fun K hK=>?_
    refine S.s (τ:=ARN (none) (([1,0,2,3]).map NT)) (OpR.conv' (OpR.bldP (us:=[Value.int .i64 (1),Value.int .i64 (0),Value.int .i64 (2),Value.int .i64 (3)]) (fs:=(List.map NT [1,0,2,3]).map fun τ=>(none,τ)) S.ok rfl (by simp only [List.map_toArray,List.map_cons,List.map_nil];exact ap_56 (u0:=Value.int .i64 (1)) (u1:=Value.int .i64 (0)) (u2:=Value.int .i64 (2)) (u3:=Value.int .i64 (3)) ⟨_,(rfl : _ = nv .i64 1)⟩ ⟨_,(rfl : _ = nv .i64 0)⟩ ⟨_,(rfl : _ = nv .i64 2)⟩ ⟨_,(rfl : _ = nv .i64 3)⟩) rfl (pts_cons (sh (τ:=NT 1) (G:=fun _=>none) (rfl : _ = nv .i64 1)) (rfl : _ = nv .i64 1) (pts_cons (sh (τ:=NT 0) (G:=fun _=>none) (rfl : _ = nv .i64 0)) (rfl : _ = nv .i64 0) (pts_cons (sh (τ:=NT 2) (G:=fun _=>none) (rfl : _ = nv .i64 2)) (rfl : _ = nv .i64 2) (pts_cons (sh (τ:=NT 3) (G:=fun _=>none) (rfl : _ = nv .i64 3)) (rfl : _ = nv .i64 3) pts_nil))))) fun _ _ h=>PTS.arn h) rfl fun a w G S=>?_
    refine S.alloc rfl rfl rfl z_56 zs_56 rfl rfl fun b16 a w G S=>?_
    refine S.store (τ:=ARN (none) (([1,0,2,3]).map NT)) 0 rfl rfl rfl rfl (S.e 0 rfl) tS_56 (S.g 1 rfl) (sh (τ:=ARN (none) (([1,0,2,3]).map NT)) (S.g 1 rfl)) fun w S=>?_
    replace S:=S.n0
    replace S:=(S.castBox (τ':=ROWS (none) (([1,0,2,3]).map NT)) 0 rfl fun _ h _=>ARN.rows h).n0
    refine wpList_nil (hK _ _ ?_);clear hK K
    replace S:=S.d1
    refine wp_seq_k fun K hK=>?_
    refine wp_reg fun K hK=>?_
    refine S.s (OpR.mv S.ok rfl (S.g 4 rfl)) rfl fun a w G S=>?_
    refine S.s (τ:=BT false) (OpR.igtr S.ok rfl (S.e 0 rfl) (rfl : _ = nv .i64 3) (bv_eq (decide_eq_false (by omega)))) rfl fun a w G S=>?_
    refine S.s (OpR.mv S.ok rfl (S.g 0 rfl)) rfl fun a w G S=>?_
    refine S.stepG 0 (OpR.mv S.ok rfl (S.g 6 rfl)) rfl rfl rfl rfl rfl rfl fun a w G S=>?_
    refine S.stepG (τ:=BT false) 1 (OpR.igtr S.ok rfl (S.e 0 rfl) (rfl : _ = nv .i64 3) (bv_eq (decide_eq_false (by omega)))) rfl rfl rfl rfl rfl rfl fun a w G S=>?_
    refine S.s (τ:=BT false) (OpR.pick S.ok rfl (S.e 2 rfl) (S.g 0 rfl)) rfl fun a w G S=>?_
    refine wpList_nil (hK _ _ ?_);clear hK K
    replace S:=S.d5.d4.d3.d2.d1
    refine wp_cond_false (S.e 0 rfl) ?_
    refine wp_skip ?_
    refine hK _ _ ?_;clear hK K
    refine wp_seq_k fun K hK=>?_
    replace S:=S.d10
    refine S.drawn [⟨116,.g (IT (clsF (invQ [rg,ra,rb,rc] ((k % 4 : Nat) : Int)))),[]⟩,⟨117,.g (MT.ex (Value.pointer (some ⟨b16,(lnk (hd4 (invQ [rg,ra,rb,rc] ((k % 4 : Nat) : Int)))) * (none : Option Nat).getD 1,none⟩))),[0]⟩,⟨118,.g (NT (([1,0,2,3]).getD (lnk (hd4 (invQ [rg,ra,rb,rc] ((k % 4 : Nat) : Int)))) default)),[1]⟩,⟨119,.g (NT (k % 4)),[]⟩,⟨120,.g (NT (hd4 (invQ [rg,ra,rb,rc] ((k % 4 : Nat) : Int)) + k % 4)),[2,3]⟩,⟨121,.g (NT ((hd4 (invQ [rg,ra,rb,rc] ((k % 4 : Nat) : Int)) + k % 4) % 4)),[4]⟩,⟨122,.g (IT (clsF [rg,ra,rb,rc])),[]⟩,⟨123,.g (MT.ex (Value.pointer (some ⟨b16,(lnk (hd4 [rg,ra,rb,rc])) * (none : Option Nat).getD 1,none⟩))),[6]⟩,⟨124,.g (NT (([1,0,2,3]).getD (lnk (hd4 [rg,ra,rb,rc])) default)),[7]⟩,⟨125,.g (BT true),[5,8]⟩,⟨4,.g (BT true),[9]⟩] mixedOrders (by kernel_rfl)
     ⟨fun a w G S=>.of rfl (OpR.mv S.ok rfl (S.g 4 rfl)),
      fun a w G S=>.of rfl (OpR.ixAr (i:=lnk (hd4 (invQ [rg,ra,rb,rc] ((k % 4 : Nat) : Int)))) S.ok rfl Try.underlying56 tS_3 (S.e 2 rfl) (S.e 0 rfl) hdd (by first | omega | (simp only [List.length_set,List.length_take,List.length_drop,List.length_append,List.length_map,List.length_replicate];omega)) rfl),
      fun a w G S=>.of rfl (OpR.ldSM (k:=none) (T:=NT) (xs:=[1,0,2,3]) (i:=lnk (hd4 (invQ [rg,ra,rb,rc] ((k % 4 : Nat) : Int)))) S.ok rfl (S.e 0 rfl) (S.box 0 rfl) tS_3 (by first | omega | (simp only [List.length_set,List.length_take,List.length_drop,List.length_append,List.length_map,List.length_replicate];omega))),
      fun a w G S=>.of rfl (OpR.mv S.ok rfl (S.g 8 rfl)),
      fun a w G S=>.of rfl (OpR.nadd S.ok rfl (S.e 0 rfl) (S.e 1 rfl) (wr_i64 (by rw [lnk_lnk hl4];omega)) (nv_eq (congrArg (· + k % 4) (lnk_lnk hl4)))),
      fun a w G S=>.of rfl (OpR.nrem S.ok rfl (S.e 0 rfl) (rfl : _ = nv .i64 4) (by omega) MT.self),
      fun a w G S=>.of rfl (OpR.mv S.ok rfl (S.g 5 rfl)),
      fun a w G S=>.of rfl (OpR.ixAr (i:=lnk (hd4 [rg,ra,rb,rc])) S.ok rfl Try.underlying56 tS_3 (S.e 2 rfl) (S.e 0 rfl) hcd (by first | omega | (simp only [List.length_set,List.length_take,List.length_drop,List.length_append,List.length_map,List.length_replicate];omega)) rfl),
      fun a w G S=>.of rfl (OpR.ldSM (k:=none) (T:=NT) (xs:=[1,0,2,3]) (i:=lnk (hd4 [rg,ra,rb,rc])) S.ok rfl (S.e 0 rfl) (S.box 0 rfl) tS_3 (by first | omega | (simp only [List.length_set,List.length_take,List.length_drop,List.length_append,List.length_map,List.length_replicate];omega))),
      fun a w G S=>.of rfl (OpR.neql S.ok rfl (S.e 0 rfl) (S.e 1 rfl) (bv_eq (decide_eq_true ((inv_hd2 hck hE).trans (lnk_lnk hl3).symm)))),
      fun a w G S=>.of rfl (OpR.asn S.ok rfl (S.g 0 rfl)),trivial⟩ fun β a w G S=>?_
    replace S : St W0 G0 126 [(4,BT true),(125,BT true),(124,NT (([1,0,2,3]).getD (lnk (hd4 [rg,ra,rb,rc])) default)),(123,MT.ex (Value.pointer (some ⟨b16,(lnk (hd4 [rg,ra,rb,rc])) * (none : Option Nat).getD 1,none⟩))),(122,IT (clsF [rg,ra,rb,rc])),(121,NT ((hd4 (invQ [rg,ra,rb,rc] ((k % 4 : Nat) : Int)) + k % 4) % 4)),(120,NT (hd4 (invQ [rg,ra,rb,rc] ((k % 4 : Nat) : Int)) + k % 4)),(119,NT (k % 4)),(118,NT (([1,0,2,3]).getD (lnk (hd4 (invQ [rg,ra,rb,rc] ((k % 4 : Nat) : Int)))) default)),(117,MT.ex (Value.pointer (some ⟨b16,(lnk (hd4 (invQ [rg,ra,rb,rc] ((k % 4 : Nat) : Int)))) * (none : Option Nat).getD 1,none⟩))),(116,IT (clsF (invQ [rg,ra,rb,rc] ((k % 4 : Nat) : Int)))),(115,BT false),(16,PB b16),(99,BT (decide ((excF [rg,ra,rb,rc]) ≥ 0))),(97,BT false),(14,IT (clsF (invQ [rg,ra,rb,rc] ((k % 4 : Nat) : Int)))),(12,IT (clsF [rg,ra,rb,rc])),(8,IT (excF [rg,ra,rb,rc])),(6,PB b6),(5,NT (k % 4)),(28,BT (decide ((chkF [rg,ra,rb,rc]) ≠ 0))),(2,PB b2)] [⟨b16,56,some 4,ROWS (none) (([1,0,2,3]).map NT)⟩,⟨b6,37,some 12,PTS [(some 3,FX (64 + 2) (invF [rg,ra,rb,rc] (((k % 4 : Nat) : Int)) 0)),(some 3,FX (64 + 2) (invF [rg,ra,rb,rc] (((k % 4 : Nat) : Int)) 1)),(some 3,FX (64 + 2) (invF [rg,ra,rb,rc] (((k % 4 : Nat) : Int)) 2)),(some 3,FX (64 + 2) (invF [rg,ra,rb,rc] (((k % 4 : Nat) : Int)) 3))]⟩,⟨b2,37,some 12,PTS [(some 3,FX 64 rg),(some 3,FX 64 ra),(some 3,FX 64 rb),(some 3,FX 64 rc)]⟩] a _ _:=S
    refine wpList_nil (hK _ _ ?_);clear hK K
    replace S:=S.d10.d9.d8.d7.d6.d5.d4.d3.d2.d1
    exact wp_ret (S.retTmp rfl (S.g 0 rfl))
end Go.Proofs.Ytdeihehaheelmaa
namespace Go.Proofs.Ytdeihehaheelmaa
open Go.RowKit (Below)
def G0of (W : World) : Gh := fun b => W.heap[b]?
theorem G0of_ok (W : World) : Gok W (G0of W) := fun _ _ h => h
theorem Gc_G0 {W : World} {b i : Nat} : Gc (G0of W) b i = W.cell? ⟨b, i, none⟩ := by
  unfold Gc G0of World.cell?; cases W.heap[b]? with
  | none => rfl
  | some o => cases o <;> rfl
def RdA (P : Program) (W : World) (t : TypeId) (k : Option Nat) (A : MT → Prop) : Prop := ∀ (H : Type) (enc : TypeId × Value → H) (fuel : Nat) (cs : List Value) (x : DataW H × List MemPlace),
  DataW.trod enc P W 0 (fun _ => true) true fuel t cs = some x → (x.1.weights P t).all (· ≤ reachBytes) = true → ∃ (v : Value) (τ : MT), A τ ∧ v.cells.toList = cs ∧ Shaped k v ∧ τ.t v (G0of W)
section
variable {P : Program} {W : World} {t e : TypeId} {k : Option Nat} {A A' : MT → Prop}
theorem RdA.mono (h : RdA P W t k A) (hA : ∀ τ v, A τ → τ.t v (G0of W) → ∃ σ, A' σ ∧ σ.t v (G0of W)) : RdA P W t k A' := fun H enc fuel cs x hx hw => by
  obtain ⟨v, τ, h1, h2, h3, h4⟩ := h H enc fuel cs x hx hw
  obtain ⟨σ, h5, h6⟩ := hA τ v h1 h4
  exact ⟨v, σ, h5, h2, h3, h6⟩
theorem rd_bool (ht : P.underlying t = some .bool) : RdA P W t none (fun τ => ∃ b, τ = .ex (.bool b)) := fun H enc fuel cs x hx hw => by
  obtain ⟨b, rfl, rfl⟩ := DataW.trod_bool ht hx
  exact ⟨.bool b, _, ⟨b, rfl⟩, rfl, ⟨rfl, rfl⟩, rfl⟩
theorem rd_int {kk : IntKind} (ht : P.underlying t = some (.int kk)) : RdA P W t none (fun τ => ∃ z, (Lit.int kk z).wf = true ∧ τ = .ex (.int kk z)) := fun H enc fuel cs x hx hw => by
  obtain ⟨z, rfl, rfl, h⟩ := DataW.trod_int ht hx
  exact ⟨.int kk z, _, ⟨z, h, rfl⟩, rfl, ⟨rfl, rfl⟩, rfl⟩
theorem cells_get {a : Addr} {n : Nat} {L : List Value} (h : W.cells? 0 a n = some L) : L.length = n ∧ ∀ j, j < n → W.cell? (a.add j) = L[j]? := by
  unfold World.cells? at h
  rw [if_pos (Nat.zero_le _)] at h
  exact ⟨by simpa using mapM_some_length h, fun j hj => mapM_some_get h j j (by simp [hj])⟩
theorem weightsAll_mem {H : Type} {es : List (DataW H)} {d : DataW H} {i : Nat} (hi : es[i]? = some d) : ∀ n ∈ d.weights P e, n ∈ DataW.weightsAll P e es := by
  induction es generalizing i with
  | nil => simp at hi
  | cons x r ih =>
    intro n hn
    rw [DataW.weightsAll, List.mem_append]
    cases i with
    | zero => simp at hi; subst hi; exact .inl hn
    | succ j => exact .inr (ih (by simpa using hi) n hn)
theorem rd_slice (ht : P.underlying t = some (.slice e)) (hc : P.cellsOf e = k.getD 1) (hc0 : 0 < k.getD 1) (hb : 4 ≤ P.bytesOf e) (h : RdA P W e k A) : RdA P W t none (fun τ => ∃ τs, (∀ σ ∈ τs, A σ) ∧ τ = LS k τs) := fun H enc fuel cs x hx hw => by
  rcases DataW.trod_slice ht hx with ⟨rfl, rfl⟩ | ⟨a, len, cap, elems, rest, n, rfl, rfl, rfl, hb0, hlc, hcm, hel, hE, _, _⟩
  · exact ⟨.slice none 0 0, LS k [], ⟨[], by simp, rfl⟩, rfl, ⟨rfl, rfl⟩, LS.nil⟩
  · simp only [DataW.weights, ht, List.all_cons, List.all_append, Bool.and_eq_true, decide_eq_true_eq] at hw
    obtain ⟨hw1, hw2, _⟩ := hw
    have hlim : len ≤ LIM := by
      have h1 : len * 4 ≤ ((elems.map (·.1)).length + (rest.map (·.1)).length) * P.bytesOf e := Nat.mul_le_mul (by simp; omega) hb
      have h2 : reachBytes = 140737488351232 := rfl
      simp only [LIM]; omega
    have each : ∀ i, ∃ (v : Value) (τ : MT), i < len → W.cells? 0 (a.add (i * k.getD 1)) (k.getD 1) = some v.cells.toList ∧ A τ ∧ Shaped k v ∧ τ.t v (G0of W) := fun i => by
      by_cases hi : i < len
      · have h1 := hE i hi
        rw [List.getElem?_eq_getElem (by omega), Option.bind_eq_some_iff, hc] at h1
        obtain ⟨cs', h2, h3⟩ := h1
        obtain ⟨v, τ, h4, h5, h6, h7⟩ := h H enc n cs' _ h3 (List.all_eq_true.2 fun m hm => List.all_eq_true.1 hw2 m (weightsAll_mem (i := i) (by rw [List.getElem?_map, List.getElem?_eq_getElem (by omega)]; rfl) m hm))
        exact ⟨v, τ, fun _ => ⟨by rw [h5]; exact h2, h4, h6, h7⟩⟩
      · exact ⟨undef, .ex undef, fun h => absurd h hi⟩
    obtain ⟨f, g, hfg⟩ : ∃ (f : Nat → Value) (g : Nat → MT), ∀ i, i < len → W.cells? 0 (a.add (i * k.getD 1)) (k.getD 1) = some (f i).cells.toList ∧ A (g i) ∧ Shaped k (f i) ∧ (g i).t (f i) (G0of W) := ⟨fun i => (each i).choose, fun i => (each i).choose_spec.choose, fun i => (each i).choose_spec.choose_spec⟩
    refine ⟨.slice (some a) len cap, LS k ((List.range len).map g), ⟨_, fun σ hσ => ?_, rfl⟩, rfl, ⟨rfl, rfl⟩, LS.of_vals (us := (List.range len).map f) (A := some a) (c := cap) (by simp) (by simpa using hlc) (by simpa using hlim) ⟨by simp, fun i τ u hi hu => ?_⟩ fun i u hu => ?_⟩
    · obtain ⟨i, hi, rfl⟩ := List.mem_map.1 hσ
      exact (hfg i (by simpa using hi)).2.1
    · have hlt : i < len := by have := (List.getElem?_eq_some_iff.1 hi).1; simpa using this
      simp [List.getElem?_range hlt] at hi hu
      subst hi; subst hu
      exact (hfg i hlt).2.2
    · have hlt : i < len := by have := (List.getElem?_eq_some_iff.1 hu).1; simpa using this
      simp [List.getElem?_range hlt] at hu
      subst hu
      obtain ⟨h1, h2, h3, h4⟩ := hfg i hlt
      obtain ⟨h5, h6⟩ := cells_get h1
      obtain ⟨g5, g6⟩ := cells_get (hfg 0 (by omega)).1
      obtain ⟨b, off, spot⟩ := a
      have h7 := g6 0 hc0
      rw [List.getElem?_eq_getElem (by omega)] at h7
      have hs : spot = none := by simpa [Addr.add] using World.cell?_spot h7
      subst hs
      refine ⟨b, off, rfl, fun j x hj => ?_⟩
      have hjl : j < k.getD 1 := by have := (Array.getElem?_eq_some_iff.1 hj).1; rw [← h5, Array.length_toList]; exact this
      have h8 := h6 j hjl
      rw [Gc_G0]
      rw [addr_add, addr_add, Array.getElem?_toList, hj] at h8
      exact h8
theorem forall_map {α : Type} {T : α → MT} {τs : List MT} (h : ∀ σ ∈ τs, ∃ x, σ = T x) : ∃ xs : List α, τs = xs.map T := by
  induction τs with
  | nil => exact ⟨[], rfl⟩
  | cons a r ih =>
    obtain ⟨l, rfl⟩ := ih fun σ h' => h σ (List.mem_cons_of_mem _ h')
    obtain ⟨x, rfl⟩ := h a (List.mem_cons_self ..)
    exact ⟨x :: l, rfl⟩
theorem forall_map' {α : Type} {T : α → MT} {p : α → Prop} {τs : List MT} (h : ∀ σ ∈ τs, ∃ x, p x ∧ σ = T x) : ∃ xs : List α, τs = xs.map T ∧ ∀ x ∈ xs, p x := by
  induction τs with
  | nil => exact ⟨[], rfl, by simp⟩
  | cons a r ih =>
    obtain ⟨l, rfl, hl⟩ := ih fun σ h' => h σ (List.mem_cons_of_mem _ h')
    obtain ⟨x, hx, rfl⟩ := h a (List.mem_cons_self ..)
    exact ⟨x :: l, rfl, by simpa using ⟨hx, hl⟩⟩
theorem rd_words (ht : P.underlying t = some (.slice e)) (hu : P.underlying e = some (.int .u32)) (hc : P.cellsOf e = 1) (hb : 4 ≤ P.bytesOf e) : RdA P W t none (fun τ => ∃ l, τ = SL l) := by
  have h1 : RdA P W e none (fun τ => ∃ x : Nat, x < 4294967296 ∧ τ = .ex (u32 x)) := (rd_int hu).mono fun τ v ⟨z, hz, hτ⟩ hv => by
    subst hτ
    have hm : IntKind.u32.min = 0 := by decide
    have hM : IntKind.u32.max = 4294967295 := by decide
    simp [Lit.wf, hm, hM] at hz
    exact ⟨_, ⟨z.toNat, by omega, rfl⟩, by
      have : (z.toNat : Int) = z := by omega
      show v = .int .u32 (z.toNat : Int); rw [this]; exact hv⟩
  refine (rd_slice (k := none) ht hc (by decide) hb h1).mono fun τ v ⟨τs, hσ, hτ⟩ hv => ?_
  subst hτ
  obtain ⟨l, hl, hlt⟩ := forall_map' hσ
  subst hl
  obtain ⟨A, c, us, h2, h3, h4, h5, h6⟩ := LS.vals hv
  rw [List.length_map] at h2 h3 h4
  refine ⟨_, ⟨l, rfl⟩, A, c, h2, h3, h4, hlt, fun i x hi => ?_⟩
  have hil := (List.getElem?_eq_some_iff.1 hi).1
  have hul : i < us.length := by rw [h5.1, List.length_map]; exact hil
  have hui : us[i]? = some us[i] := by rw [List.getElem?_eq_getElem hul]
  have h7 := (h5.2 i (.ex (u32 x)) us[i] (by rw [List.getElem?_map, hi]; rfl) hui).2
  obtain ⟨b, off, e1, h8⟩ := h6 i us[i] hui
  refine ⟨b, off, e1, ?_⟩
  have h9 : us[i] = u32 x := h7
  rw [h9] at h8
  simpa using h8 0 (u32 x) rfl
def FldOk (P : Program) (W : World) : Nat → List Field → List (Option Nat × (MT → Prop)) → Prop
  | _, [], [] => True
  | off, f :: fs, a :: As => f.offset = off ∧ P.cellsOf f.type = a.1.getD 1 ∧ RdA P W f.type a.1 a.2 ∧ FldOk P W (off + a.1.getD 1) fs As
  | _, _, _ => False
def Mt : List (Option Nat × (MT → Prop)) → List (Option Nat × MT) → Prop
  | [], [] => True
  | a :: As, f :: F => f.1 = a.1 ∧ a.2 f.2 ∧ Mt As F
  | _, _ => False
def tot (As : List (Option Nat × (MT → Prop))) : Nat := (As.map fun a => a.1.getD 1).sum
theorem Mt.tot : ∀ {As : List (Option Nat × (MT → Prop))} {F : List (Option Nat × MT)}, Mt As F → (F.map fun f => f.1.getD 1).sum = Go.Proofs.Ytdeihehaheelmaa.tot As
  | [], [], _ => rfl
  | a :: As, f :: F, h => by
    have := Mt.tot h.2.2
    simp only [Go.Proofs.Ytdeihehaheelmaa.tot, List.map_cons, List.sum_cons, h.1] at this ⊢
    rw [this]
  | [], _ :: _, h => h.elim
  | _ :: _, [], h => h.elim
theorem rd_fields {H : Type} {enc : TypeId × Value → H} {n : Nat} {cs : List Value} : ∀ (fs : List Field) (As : List (Option Nat × (MT → Prop))) (xs : List (DataW H × List MemPlace)) (off : Nat), FldOk P W off fs As → xs.length = fs.length →
    (∀ (i : Nat) (f : Field), fs[i]? = some f → DataW.trod enc P W 0 (fun _ => true) true n f.type ((cs.drop f.offset).take (P.cellsOf f.type)) = xs[i]?) → (DataW.weightsEach P (fs.map (·.type)) (xs.map (·.1))).all (· ≤ reachBytes) = true → cs.length = off + tot As →
    ∃ us F, Mt As F ∧ flat us = cs.drop off ∧ us.length = F.length ∧ ∀ (i : Nat) (f : Option Nat × MT) (u : Value), F[i]? = some f → us[i]? = some u → Shaped f.1 u ∧ f.2.t u (G0of W)
  | [], [], xs, off, _, _, _, _, hl => ⟨[], [], trivial, by rw [List.drop_eq_nil_of_le (by rw [hl]; simp [tot])]; rfl, rfl, fun i f u h => by simp at h⟩
  | f :: fs, a :: As, [], off, _, hx, _, _, _ => by simp at hx
  | f :: fs, a :: As, x :: xs, off, hF, hx, hT, hw, hl => by
    obtain ⟨h1, h2, h3, h4⟩ := hF
    simp only [List.map_cons, DataW.weightsEach, List.all_append, Bool.and_eq_true] at hw
    obtain ⟨v, τ, h5, h6, h7, h8⟩ := h3 H enc n _ x (hT 0 f rfl) hw.1
    obtain ⟨us, F, g1, g2, g3, g4⟩ := rd_fields fs As xs (off + a.1.getD 1) h4 (by simpa using hx) (fun i g hg => by simpa using hT (i + 1) g (by simpa using hg)) hw.2 (by rw [hl]; simp [tot]; omega)
    refine ⟨v :: us, (a.1, τ) :: F, ⟨rfl, h5, g1⟩, ?_, by simp [g3], fun i f' u hf hu => ?_⟩
    · rw [flat_cons, h6, g2, h1, h2, ← List.drop_drop, List.take_append_drop]
    · cases i with
      | zero => simp at hf hu; subst hf; subst hu; exact ⟨h7, h8⟩
      | succ i => exact g4 i f' u (by simpa using hf) (by simpa using hu)
  | [], _ :: _, _, _, h, _, _, _, _ => h.elim
  | _ :: _, [], _, _, h, _, _, _, _ => h.elim
theorem rd_struct {fs : Array Field} {As : List (Option Nat × (MT → Prop))} {n : Nat} (ht : P.underlying t = some (.struct fs)) (hn : P.cellsOf t = n) (hnA : tot As = n) (hF : FldOk P W 0 fs.toList As) : RdA P W t (some n) (fun τ => ∃ F, Mt As F ∧ τ = PTS F) := fun H enc fuel cs x hx hw => by
  obtain ⟨xs, m, rfl, rfl, hl, hxl, hT⟩ := DataW.trod_struct ht hx
  simp only [DataW.weights, ht] at hw
  obtain ⟨us, F, h1, h2, h3, h4⟩ := rd_fields fs.toList As xs 0 hF (by simpa using hxl) (fun i f hf => hT i f (by simpa using hf)) hw (by omega)
  have hP : (PTS F).t (.agg (flat us).toArray) (G0of W) := ⟨us, rfl, h3, h4⟩
  refine ⟨.agg (flat us).toArray, PTS F, ⟨F, h1, rfl⟩, by rw [h2]; rfl, PTS.shaped (by unfold offs; rw [List.take_length, h1.tot, hnA]) hP, hP⟩
theorem shaped1 {u : Value} (h : Shaped none u) : u.cells = #[u] := h.1
theorem PTS.toQR {s : Bool} {p q : List Nat} {v : Value} {G : Gh} (h : (PTS [(none, .ex (.bool s)), (none, SL p), (none, SL q)]).t v G) : (QR s p q).t v G := by
  obtain ⟨us, rfl, hl, h⟩ := h
  match us, hl, h with
  | [u0, u1, u2], _, h =>
    obtain ⟨a0, b0⟩ := h 0 _ u0 rfl rfl
    obtain ⟨a1, b1⟩ := h 1 _ u1 rfl rfl
    obtain ⟨a2, b2⟩ := h 2 _ u2 rfl rfl
    refine ⟨u1, u2, ?_, b1, b2⟩
    have e0 : u0 = .bool s := b0
    simp only [flat, List.flatMap_cons, List.flatMap_nil, shaped1 a0, shaped1 a1, shaped1 a2]
    rw [e0]; rfl
theorem rd_frac {fs : Array Field} {f0 f1 f2 : Field} {tw : TypeId} (ht : P.underlying t = some (.struct fs)) (hf : fs.toList = [f0, f1, f2]) (hn : P.cellsOf t = 3) (h0 : f0.offset = 0 ∧ P.cellsOf f0.type = 1 ∧ P.underlying f0.type = some .bool) (h1 : f1.offset = 1 ∧ f1.type = tw) (h2 : f2.offset = 2 ∧ f2.type = tw)
    (hw : P.underlying tw = some (.slice e) ∧ P.cellsOf tw = 1) (he : P.underlying e = some (.int .u32) ∧ P.cellsOf e = 1 ∧ 4 ≤ P.bytesOf e) : RdA P W t (some 3) (fun τ => ∃ r : FR, τ = QR r.s r.p r.q) := by
  have hW : RdA P W tw none (fun τ => ∃ l, τ = SL l) := rd_words hw.1 he.1 he.2.1 he.2.2
  refine (rd_struct (As := [(none, fun τ => ∃ b, τ = .ex (.bool b)), (none, fun τ => ∃ l, τ = SL l), (none, fun τ => ∃ l, τ = SL l)]) ht hn rfl (by
    rw [hf]; exact ⟨h0.1, h0.2.1, rd_bool h0.2.2, h1.1, by rw [h1.2]; exact hw.2, by rw [h1.2]; exact hW, h2.1, by rw [h2.2]; exact hw.2, by rw [h2.2]; exact hW, trivial⟩)).mono fun τ v ⟨F, hM, hτ⟩ hv => ?_
  subst hτ
  match F, hM with
  | [a, b, c], ⟨a1, ⟨s, a2⟩, b1, ⟨p, b2⟩, c1, ⟨q, c2⟩, _⟩ =>
    obtain ⟨a0, a'⟩ := a; obtain ⟨b0, b'⟩ := b; obtain ⟨c0, c'⟩ := c
    simp only at a1 a2 b1 b2 c1 c2
    subst a1; subst a2; subst b1; subst b2; subst c1; subst c2
    exact ⟨_, ⟨⟨s, p, q⟩, rfl⟩, PTS.toQR hv⟩
theorem rd_list {α : Type} {T : α → MT} (ht : P.underlying t = some (.slice e)) (hc : P.cellsOf e = k.getD 1) (hc0 : 0 < k.getD 1) (hb : 4 ≤ P.bytesOf e) (h : RdA P W e k (fun τ => ∃ x, τ = T x)) : RdA P W t none (fun τ => ∃ xs : List α, τ = LS k (xs.map T)) :=
  (rd_slice ht hc hc0 hb h).mono fun τ v ⟨τs, hσ, hτ⟩ hv => by
    obtain ⟨xs, rfl⟩ := forall_map hσ
    subst hτ
    exact ⟨_, ⟨xs, rfl⟩, hv⟩
theorem rd_arg {H : Type} {enc : TypeId × Value → H} {v : Value} {d : DataW H} {ps : List MemPlace} (h : RdA P W t k A) (hd : DataW.Trod enc P W 0 (fun _ => true) true t v d ps) (hw : (d.weights P t).all (· ≤ reachBytes) = true)
    (hv : match k with | none => v.cells = #[v] | some _ => ∃ cs, v = .agg cs) : ∃ τ, A τ ∧ Shaped k v ∧ τ.t v (G0of W) := by
  obtain ⟨fuel, hf⟩ := hd
  obtain ⟨u, τ, h1, h2, h3, h4⟩ := h H enc fuel _ _ hf hw
  have : u = v := by
    cases k with
    | none =>
      have h5 : u.cells = #[u] := h3.1
      rw [h5, hv] at h2
      simpa using h2
    | some n =>
      obtain ⟨cs, rfl⟩ := hv
      obtain ⟨cs', rfl, _⟩ := h3
      have : cs'.toList = cs.toList := h2
      rw [Array.toList_inj.1 this]
  subst this
  exact ⟨τ, h1, h3, h4⟩
end
end Go.Proofs.Ytdeihehaheelmaa
namespace Go.Proofs.Ytdeihehaheelmaa.grashofInvertsDone
open Go.ChangeShapes Go.WideShapes Go.ChangeAt Go.RowKit
theorem own : ownKnob Try.prog.godebug = none := by kernel_rfl
theorem laidOut : laidOutB Try.prog = true := by kernel_rfl
theorem u8_nat {z : Int} (h : (Lit.int .u8 z).wf = true) : z = ((z.toNat : Nat) : Int) := by
  have : (0 : Int) ≤ z := of_decide_eq_true (Bool.and_eq_true_iff.1 h).1
  omega
theorem rd35 (W : World) : RdA Try.prog W 35 (some 3) (fun τ => ∃ r : FR, τ = RX r) :=
  rd_frac (tw := 33) (e := 88) Try.underlying35 rfl (by kernel_rfl) ⟨rfl, by kernel_rfl, Try.underlying4⟩ ⟨rfl, rfl⟩ ⟨rfl, rfl⟩ ⟨Try.underlying33, by kernel_rfl⟩ ⟨Try.underlying88, by kernel_rfl, of_decide_eq_true (by kernel_rfl)⟩
theorem rd37 (W : World) : RdA Try.prog W 37 (some 12) (fun τ => ∃ x : (FR) × (FR) × (FR) × (FR), τ = PTS [(some 3, RX (x.1)), (some 3, RX (x.2.1)), (some 3, RX (x.2.2.1)), (some 3, RX (x.2.2.2))]) :=
  (rd_struct (As := [(some 3, fun τ => ∃ x : FR, τ = RX x), (some 3, fun τ => ∃ x : FR, τ = RX x), (some 3, fun τ => ∃ x : FR, τ = RX x), (some 3, fun τ => ∃ x : FR, τ = RX x)]) Try.underlying37 (by kernel_rfl) rfl ⟨rfl, by kernel_rfl, rd35 W, rfl, by kernel_rfl, rd35 W, rfl, by kernel_rfl, rd35 W, rfl, by kernel_rfl, rd35 W, trivial⟩).mono fun τ v ⟨F, hM, hτ⟩ hv => by
    subst hτ
    match F, hM with
    | [(m0k, m0t), (m1k, m1t), (m2k, m2t), (m3k, m3t)], ⟨m0e, ⟨m0x, m0h⟩, m1e, ⟨m1x, m1h⟩, m2e, ⟨m2x, m2h⟩, m3e, ⟨m3x, m3h⟩, _⟩ =>
      simp only at m0e m0h
      subst m0e; subst m0h
      simp only at m1e m1h
      subst m1e; subst m1h
      simp only at m2e m2h
      subst m2e; subst m2h
      simp only at m3e m3h
      subst m3e; subst m3h
      exact ⟨_, ⟨(m0x, m1x, m2x, m3x), rfl⟩, hv⟩
set_option maxRecDepth 100000 in
theorem lifted (os : Os) (started : os.Started) (H : Type) (enc : TypeId × Value → H) :
    ReturnsInHanded {} Try.checked os 8 .any (Rows.grashofInvertsSpec.pre6 enc Try.prog Try.f8 Rows.grashofInvertsRow.domain false) (Rows.grashofInvertsSpec.post enc Try.prog Try.f8 false true false false) := by
  refine returnsInHanded_of_change_sized (C := Try.checked) own started (by kernel_rfl) Try.func8
    (ChangeSpec.witness6 (enc := enc) (C := Try.checked) false ⟨#[], #[.agg #[.bool false, .slice none 0 0, .slice none 0 0, .bool false, .slice none 0 0, .slice none 0 0, .bool false, .slice none 0 0, .slice none 0 0, .bool false, .slice none 0 0, .slice none 0 0], .int .u8 0], []⟩ 8 (by kernel_rfl) (by kernel_rfl) (by kernel_rfl) (by kernel_rfl)) ?_
  intro W base args ds gs before hval0 hW hcnd hsz _
  have hval : ∀ (j : Nat) t v, Try.f8.params[j]? = some t → args[j]? = some v → Value.okWide Try.prog W .any base t v := hval0
  have hW' := hW
  obtain ⟨p, q, hA0, hV, rfl, hfz, hnd⟩ := hW
  have hA : DataW.TrodAll enc Try.prog W 0 (fun _ => true) true Try.f8.params.toList args.toList ds p := hA0
  have hsz : (DataW.weightsEach Try.prog (Try.f8.params.toList ++ _) (ds ++ gs)).all (· ≤ reachBytes) = true := hsz
  rw [Try.params8] at hA hval hsz
  obtain ⟨v0, vs0, d0, ds0, p0, q0, hargs, rfl, rfl, h0, r0⟩ := trodAll_cons hA
  obtain ⟨v1, vs1, d1, ds1, p1, q1, rfl, rfl, rfl, h1, r1⟩ := trodAll_cons r0
  obtain ⟨rfl, rfl, rfl⟩ := trodAll_nil r1
  obtain rfl : args = #[v0, v1] := by cases args; simp_all
  obtain ⟨rfl, rfl⟩ := trodVars_none hV
  obtain ⟨cs0, rfl, hcs0⟩ := okWide_struct Try.underlying37 (hval 0 37 v0 rfl rfl)
  have k0 := h0
  have lt0 : ∀ x ∈ p0, x.block < W.heap.size := by obtain ⟨m, hm⟩ := k0; exact DataW.trod_lt m _ _ _ hm
  have z0 : (d0.weights Try.prog 37).all (· ≤ reachBytes) = true := List.all_eq_true.2 fun x hx => List.all_eq_true.1 hsz x (DataW.weights_mem_each (j := 0) rfl rfl x hx)
  obtain ⟨τ0, ⟨x0, rfl⟩, _, H0⟩ := rd_arg (rd37 W) k0 z0 ⟨_, rfl⟩
  obtain ⟨a1, rfl, rfl, rfl, w1⟩ := open_int Try.underlying5 (hval 1 5 v1 rfl rfl) h1
  clear hA0 hval0
  refine (lInverts_ok (G0of_ok W) H0 (iv_eq (u8_nat w1))).mono fun e W' hr => ?_
  obtain ⟨v, G', rfl, hv, hn⟩ := hr
  have hv : v = .bool true := hv
  subst hv
  have bel : RowKit.Below W.heap.size W W' := hn.below
  exact ⟨_, rfl, _, _, _, [], _, [], hW', trodAll_mk1 (shut_bool Try.underlying4 _), (trodAll_cons_mk (Below.trod laidOut (by kernel_rfl) (of_decide_eq_true (by kernel_rfl)) k0 bel lt0) (trodAll_cons_mk (shut_int Try.underlying5 w1) trodAll_mk0)), rfl, bel.frame _, fun h => by cases h⟩
theorem over : Rows.grashofInvertsRow.holds Try.pinned (OpenSpec.ofChange Rows.grashofInvertsSpec) :=
  OpenClaim.holds_of_wide 8 Try.f8 rfl rfl rfl rfl rfl rfl rfl ⟨rfl, rfl, rfl, rfl, rfl⟩ rfl rfl rfl rfl rfl (by kernel_rfl) Try.func8 (by kernel_rfl)
    (of_decide_eq_true (by kernel_rfl)) (by unfold Func.isWrapper; first | (rw [if_pos (by decide +kernel)]; kernel_rfl) | (rw [if_neg (by decide +kernel)]; exact ⟨rfl, rfl⟩))
    (fun os started H enc _ => lifted os started H enc)
theorem proved : Rows.GrashofInvertsSaid := over
end Go.Proofs.Ytdeihehaheelmaa.grashofInvertsDone
