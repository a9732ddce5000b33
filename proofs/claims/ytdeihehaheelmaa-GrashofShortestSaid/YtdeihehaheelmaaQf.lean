/- GrashofShortest returns true for every input, and every argument reads afterwards as it did. Conditions: none. -/
import Derived.ChangeArms
import Derived.SizedLaws
import Derived.WideShapes
import Derived.Test.YtdeihehaheelmaaRows
import Derived.WalkKit
import Derived.ProofKit
import Derived.OpenShut
import Derived.ShutString
import Derived.ChangeOld
import Derived.Below
import Derived.Test.YtdeihehaheelmaaQe
set_option linter.unusedVariables false
set_option linter.unusedSimpArgs false
namespace Go.Proofs.Ytdeihehaheelmaa
def Cau (f : Nat → Rat) : Prop := ∀ e : Rat, 0 < e → ∃ N, ∀ i j, N ≤ i → N ≤ j → f i - f j < e
def Ceq (f g : Nat → Rat) : Prop := ∀ e : Rat, 0 < e → ∃ N, ∀ i, N ≤ i → f i - g i < e ∧ g i - f i < e
def Cnn (f : Nat → Rat) : Prop := ∀ e : Rat, 0 < e → ∃ N, ∀ i, N ≤ i → -e < f i
theorem half_pos {e : Rat} (h : 0 < e) : 0 < e / 2 := by grind
theorem rmul_pos {a b : Rat} (ha : 0 < a) (hb : 0 < b) : 0 < a * b := Rat.mul_pos ha hb
theorem rdiv_pos {a b : Rat} (ha : 0 < a) (hb : 0 < b) : 0 < a / b := by
  rw [Rat.div_def]; exact Rat.mul_pos ha (Rat.inv_pos.2 hb)
theorem rmul_div {a b : Rat} (hb : 0 < b) : a / b * b = a := by grind
theorem rmul_le {a b c d : Rat} (h1 : 0 ≤ a) (h2 : a ≤ b) (h3 : 0 ≤ c) (h4 : c ≤ d) : a * c ≤ b * d := by
  have e1 : 0 ≤ (b - a) * c := Rat.mul_nonneg (by grind) h3
  have e2 : 0 ≤ b * (d - c) := Rat.mul_nonneg (by grind) (by grind)
  grind
theorem Ceq.refl (f : Nat → Rat) : Ceq f f := fun e he => ⟨0, fun i _ => by constructor <;> grind⟩
theorem Ceq.symm {f g : Nat → Rat} (h : Ceq f g) : Ceq g f := fun e he => by
  obtain ⟨N, hN⟩ := h e he; exact ⟨N, fun i hi => ⟨(hN i hi).2, (hN i hi).1⟩⟩
theorem Ceq.trans {f g k : Nat → Rat} (h : Ceq f g) (h' : Ceq g k) : Ceq f k := fun e he => by
  obtain ⟨N, hN⟩ := h (e / 2) (half_pos he); obtain ⟨M, hM⟩ := h' (e / 2) (half_pos he)
  refine ⟨max N M, fun i hi => ?_⟩
  have h1 := hN i (by omega); have h2 := hM i (by omega)
  constructor <;> grind
theorem Cau.const (q : Rat) : Cau fun _ => q := fun e he => ⟨0, fun i j _ _ => by grind⟩
theorem Cau.add {f g : Nat → Rat} (h : Cau f) (h' : Cau g) : Cau fun n => f n + g n := fun e he => by
  obtain ⟨N, hN⟩ := h (e / 2) (half_pos he); obtain ⟨M, hM⟩ := h' (e / 2) (half_pos he)
  refine ⟨max N M, fun i j hi hj => ?_⟩
  have h1 := hN i j (by omega) (by omega); have h2 := hM i j (by omega) (by omega)
  grind
theorem Cau.neg {f : Nat → Rat} (h : Cau f) : Cau fun n => -f n := fun e he => by
  obtain ⟨N, hN⟩ := h e he
  exact ⟨N, fun i j hi hj => by have := hN j i hj hi; grind⟩
theorem Cau.bound {f : Nat → Rat} (h : Cau f) : ∃ B : Rat, 0 < B ∧ ∀ i, -B < f i ∧ f i < B := by
  obtain ⟨N, hN⟩ := h 1 (by grind)
  have hfin : ∀ n, ∃ B : Rat, 0 < B ∧ ∀ i, i ≤ n → -B < f i ∧ f i < B := by
    intro n
    induction n with
    | zero =>
      rcases Rat.le_total (a := 0) (b := (f 0)) with h0 | h0
      · exact ⟨f 0 + 1, by grind, fun i hi => by obtain rfl : i = 0 := by omega
                                                 constructor <;> grind⟩
      · exact ⟨1 - f 0, by grind, fun i hi => by obtain rfl : i = 0 := by omega
                                                 constructor <;> grind⟩
    | succ n ih =>
      obtain ⟨B, hB, hb⟩ := ih
      rcases Rat.le_total (a := 0) (b := (f (n + 1))) with h0 | h0
      · refine ⟨B + f (n + 1) + 1, by grind, fun i hi => ?_⟩
        rcases Nat.lt_or_ge n i with h1 | h1
        · obtain rfl : i = n + 1 := by omega
          constructor <;> grind
        · have := hb i h1; constructor <;> grind
      · refine ⟨B - f (n + 1) + 1, by grind, fun i hi => ?_⟩
        rcases Nat.lt_or_ge n i with h1 | h1
        · obtain rfl : i = n + 1 := by omega
          constructor <;> grind
        · have := hb i h1; constructor <;> grind
  obtain ⟨B, hB, hb⟩ := hfin N
  refine ⟨B + 1, by grind, fun i => ?_⟩
  rcases Nat.lt_or_ge N i with h1 | h1
  · have a := hN i N (by omega) (Nat.le_refl _); have b := hN N i (Nat.le_refl _) (by omega); have c := hb N (Nat.le_refl _)
    constructor <;> grind
  · have := hb i h1; constructor <;> grind
theorem small_mul {a b e B : Rat} (hB : 0 < B) (h1 : -B < b ∧ b < B) (h2 : -(e / B) < a ∧ a < e / B) : -e < a * b ∧ a * b < e := by
  have hd := rmul_div (a := e) hB
  generalize e / B = d at *
  have hd0 : 0 < d := by grind
  rcases Rat.le_total (a := 0) (b := a) with ha | ha <;> rcases Rat.le_total (a := 0) (b := b) with hb | hb
  · have p := Rat.mul_nonneg ha hb
    have q : 0 ≤ (d - a) * b := Rat.mul_nonneg (by grind) hb
    have r : 0 < d * (B - b) := Rat.mul_pos hd0 (by grind)
    constructor <;> grind
  · have p : 0 ≤ a * -b := Rat.mul_nonneg ha (by grind)
    have q : 0 ≤ (d - a) * -b := Rat.mul_nonneg (by grind) (by grind)
    have r : 0 < d * (B + b) := Rat.mul_pos hd0 (by grind)
    constructor <;> grind
  · have p : 0 ≤ -a * b := Rat.mul_nonneg (by grind) hb
    have q : 0 ≤ (d + a) * b := Rat.mul_nonneg (by grind) hb
    have r : 0 < d * (B - b) := Rat.mul_pos hd0 (by grind)
    constructor <;> grind
  · have p : 0 ≤ -a * -b := Rat.mul_nonneg (by grind) (by grind)
    have q : 0 ≤ (d + a) * -b := Rat.mul_nonneg (by grind) (by grind)
    have r : 0 < d * (B + b) := Rat.mul_pos hd0 (by grind)
    constructor <;> grind
theorem Cau.mul {f g : Nat → Rat} (h : Cau f) (h' : Cau g) : Cau fun n => f n * g n := fun e he => by
  obtain ⟨B, hB, hb⟩ := h.bound; obtain ⟨C, hC, hc⟩ := h'.bound
  have he1 := rdiv_pos (half_pos he) hC
  have he2 := rdiv_pos (half_pos he) hB
  obtain ⟨N, hN⟩ := h _ he1
  obtain ⟨M, hM⟩ := h' _ he2
  refine ⟨max N M, fun i j hi hj => ?_⟩
  have a1 := hN i j (by omega) (by omega); have a2 := hN j i (by omega) (by omega)
  have b1 := hM i j (by omega) (by omega); have b2 := hM j i (by omega) (by omega)
  have p := small_mul (a := f i - f j) (b := g i) hC (hc i) ⟨by grind, a1⟩
  have q := small_mul (a := g i - g j) (b := f j) hB (hb j) ⟨by grind, b1⟩
  grind
theorem Ceq.add {f g f' g' : Nat → Rat} (h : Ceq f f') (h' : Ceq g g') : Ceq (fun n => f n + g n) fun n => f' n + g' n := fun e he => by
  obtain ⟨N, hN⟩ := h (e / 2) (half_pos he); obtain ⟨M, hM⟩ := h' (e / 2) (half_pos he)
  refine ⟨max N M, fun i hi => ?_⟩
  have h1 := hN i (by omega); have h2 := hM i (by omega)
  constructor <;> grind
theorem Ceq.neg {f g : Nat → Rat} (h : Ceq f g) : Ceq (fun n => -f n) fun n => -g n := fun e he => by
  obtain ⟨N, hN⟩ := h e he
  exact ⟨N, fun i hi => by have := hN i hi; constructor <;> grind⟩
theorem Ceq.mul {f g f' g' : Nat → Rat} (cg : Cau g) (cf' : Cau f') (h : Ceq f f') (h' : Ceq g g') : Ceq (fun n => f n * g n) fun n => f' n * g' n := fun e he => by
  obtain ⟨B, hB, hb⟩ := cf'.bound; obtain ⟨C, hC, hc⟩ := cg.bound
  obtain ⟨N, hN⟩ := h _ (rdiv_pos (half_pos he) hC)
  obtain ⟨M, hM⟩ := h' _ (rdiv_pos (half_pos he) hB)
  refine ⟨max N M, fun i hi => ?_⟩
  have a := hN i (by omega); have b := hM i (by omega)
  have p := small_mul (a := f i - f' i) (b := g i) hC (hc i) ⟨by grind, a.1⟩
  have q := small_mul (a := g i - g' i) (b := f' i) hB (hb i) ⟨by grind, b.1⟩
  constructor <;> grind
theorem Cnn.ceq {f g : Nat → Rat} (h : Cnn f) (h' : Ceq f g) : Cnn g := fun e he => by
  obtain ⟨N, hN⟩ := h (e / 2) (half_pos he); obtain ⟨M, hM⟩ := h' (e / 2) (half_pos he)
  refine ⟨max N M, fun i hi => ?_⟩
  have h1 := hN i (by omega); have h2 := hM i (by omega)
  grind
theorem Cnn.add {f g : Nat → Rat} (h : Cnn f) (h' : Cnn g) : Cnn fun n => f n + g n := fun e he => by
  obtain ⟨N, hN⟩ := h (e / 2) (half_pos he); obtain ⟨M, hM⟩ := h' (e / 2) (half_pos he)
  refine ⟨max N M, fun i hi => ?_⟩
  have h1 := hN i (by omega); have h2 := hM i (by omega)
  grind
theorem Cnn.mul {f g : Nat → Rat} (cf : Cau f) (cg : Cau g) (h : Cnn f) (h' : Cnn g) : Cnn fun n => f n * g n := fun e he => by
  obtain ⟨B, hB, hb⟩ := cf.bound; obtain ⟨C, hC, hc⟩ := cg.bound
  obtain ⟨N, hN⟩ := h _ (rdiv_pos (half_pos he) hC)
  obtain ⟨M, hM⟩ := h' _ (rdiv_pos (half_pos he) hB)
  refine ⟨max N M, fun i hi => ?_⟩
  have a := hN i (by omega); have b := hM i (by omega)
  rcases Rat.le_total (a := 0) (b := (f i)) with ha | ha <;> rcases Rat.le_total (a := 0) (b := (g i)) with hb' | hb'
  · have := Rat.mul_nonneg ha hb'; grind
  · have := (small_mul (e := e / 2) (a := g i) (b := f i) hB (hb i) ⟨by grind, by have := rdiv_pos (half_pos he) hB; grind⟩).1; grind
  · have := (small_mul (e := e / 2) (a := f i) (b := g i) hC (hc i) ⟨by grind, by have := rdiv_pos (half_pos he) hC; grind⟩).1; grind
  · have : 0 ≤ -f i * -g i := Rat.mul_nonneg (by grind) (by grind)
    grind
theorem Cau.away {f : Nat → Rat} (h : Cau f) (h0 : ¬ Cnn f) : ∃ e : Rat, 0 < e ∧ ∃ N, ∀ i, N ≤ i → f i < -e := by
  unfold Cnn at h0
  have h1 : ∃ e : Rat, 0 < e ∧ ∀ N, ∃ i, N ≤ i ∧ f i ≤ -e := by
    refine Classical.byContradiction fun hn => h0 fun e he => Classical.byContradiction fun hN => hn ⟨e, he, fun N => Classical.byContradiction fun hi => hN ⟨N, fun i hNi => ?_⟩⟩
    exact Rat.not_le.1 fun hle => hi ⟨i, hNi, hle⟩
  obtain ⟨e, he, hi⟩ := h1
  obtain ⟨N, hN⟩ := h (e / 2) (half_pos he)
  obtain ⟨k, hk, hfk⟩ := hi N
  exact ⟨e / 2, half_pos he, N, fun i hi => by have := hN i k hi hk; grind⟩
theorem Cnn.total {f : Nat → Rat} (h : Cau f) : Cnn f ∨ Cnn fun n => -f n := by
  by_cases h0 : Cnn f
  · exact .inl h0
  · obtain ⟨e, he, N, hN⟩ := h.away h0
    exact .inr fun d hd => ⟨N, fun i hi => by have := hN i hi; grind⟩
theorem Cnn.anti {f : Nat → Rat} (h : Cnn f) (h' : Cnn fun n => -f n) : Ceq f fun _ => 0 := fun e he => by
  obtain ⟨N, hN⟩ := h e he; obtain ⟨M, hM⟩ := h' e he
  refine ⟨max N M, fun i hi => ?_⟩
  have h1 := hN i (by omega); have h2 := hM i (by omega)
  constructor <;> grind
theorem Cau.inv {f : Nat → Rat} (h : Cau f) {e : Rat} (he : 0 < e) {N : Nat} (hN : ∀ i, N ≤ i → e < f i ∨ f i < -e) : Cau fun n => (f n)⁻¹ := fun d hd => by
  obtain ⟨M, hM⟩ := h (d * (e * e)) (rmul_pos hd (rmul_pos he he))
  refine ⟨max N M, fun i j hi hj => ?_⟩
  have a := hN i (by omega); have b := hN j (by omega); have c := hM i j (by omega) (by omega); have c' := hM j i (by omega) (by omega)
  have hi0 : f i ≠ 0 := by rintro hz; rw [hz] at a; grind
  have hj0 : f j ≠ 0 := by rintro hz; rw [hz] at b; grind
  have hsq : ∀ x : Rat, e < x ∨ x < -e → ∀ y : Rat, e < y ∨ y < -e → e * e ≤ x * y ∨ x * y ≤ -(e * e) := fun x hx y hy => by
    rcases hx with hx | hx <;> rcases hy with hy | hy
    · exact .inl (rmul_le (by grind) (by grind) (by grind) (by grind))
    · have := rmul_le (a := e) (b := x) (c := e) (d := -y) (by grind) (by grind) (by grind) (by grind); exact .inr (by grind)
    · have := rmul_le (a := e) (b := -x) (c := e) (d := y) (by grind) (by grind) (by grind) (by grind); exact .inr (by grind)
    · have := rmul_le (a := e) (b := -x) (c := e) (d := -y) (by grind) (by grind) (by grind) (by grind); exact .inl (by grind)
  have hp := hsq _ a _ b
  have heq : (f i)⁻¹ - (f j)⁻¹ = (f j - f i) / (f i * f j) := by grind
  rw [heq]
  have hne : f i * f j ≠ 0 := by grind
  replace c : -(f j - f i) < d * (e * e) := by grind
  have hee := rmul_pos he he
  generalize f i * f j = m at *
  generalize f j - f i = t at *
  generalize e * e = E at *
  have hde : d * E ≤ d * m ∨ d * E ≤ -(d * m) := by
    rcases hp with hp | hp
    · have := Rat.mul_nonneg (a := d) (b := m - E) (by grind) (by grind); exact .inl (by grind)
    · have := Rat.mul_nonneg (a := d) (b := -m - E) (by grind) (by grind); exact .inr (by grind)
  rcases hp with hp | hp
  · have hm : 0 < m := by grind
    have hd' : d * E ≤ d * m := by have := Rat.mul_nonneg (a := d) (b := m - E) (by grind) (by grind); grind
    refine Rat.not_le.1 fun hle => ?_
    have e2 : t / m * m = t := rmul_div hm
    have := Rat.mul_nonneg (a := t / m - d) (b := m) (by grind) (by grind)
    generalize t / m = q at *
    grind
  · have hm : 0 < -m := by grind
    have hd' : d * E ≤ d * -m := by have := Rat.mul_nonneg (a := d) (b := -m - E) (by grind) (by grind); grind
    refine Rat.not_le.1 fun hle => ?_
    have e2 : t / m * m = t := by grind
    have := Rat.mul_nonneg (a := t / m - d) (b := -m) (by grind) (by grind)
    generalize t / m = q at *
    grind
def CS : Type := { f : Nat → Rat // Cau f }
instance csSetoid : Setoid CS := ⟨fun f g => Ceq f.1 g.1, fun f => Ceq.refl f.1, fun h => h.symm, fun h k => h.trans k⟩
def RR : Type := Quotient csSetoid
def RR.mk (f : Nat → Rat) (h : Cau f) : RR := Quotient.mk csSetoid ⟨f, h⟩
theorem RR.rep (x : RR) : ∃ f hf, x = RR.mk f hf := Quotient.ind (motive := fun x => ∃ f hf, x = RR.mk f hf) (fun a => ⟨a.1, a.2, rfl⟩) x
theorem RR.ind {p : RR → Prop} (h : ∀ f hf, p (RR.mk f hf)) (x : RR) : p x := Quotient.ind (fun a => h a.1 a.2) x
theorem RR.ext {f g : Nat → Rat} {hf : Cau f} {hg : Cau g} (h : ∀ n, f n = g n) : RR.mk f hf = RR.mk g hg := by
  have : f = g := funext h
  subst this; rfl
theorem RR.sound {f g : Nat → Rat} {hf : Cau f} {hg : Cau g} (h : Ceq f g) : RR.mk f hf = RR.mk g hg := Quotient.sound h
theorem RR.exact {f g : Nat → Rat} {hf : Cau f} {hg : Cau g} (h : RR.mk f hf = RR.mk g hg) : Ceq f g := Quotient.exact h
def RR.of (q : Rat) : RR := RR.mk (fun _ => q) (Cau.const q)
def RR.add (x y : RR) : RR := Quotient.lift₂ (fun f g : CS => Quotient.mk csSetoid ⟨fun n => f.1 n + g.1 n, f.2.add g.2⟩) (fun _ _ _ _ h k => Quotient.sound (Ceq.add h k)) x y
def RR.neg (x : RR) : RR := Quotient.lift (fun f : CS => Quotient.mk csSetoid ⟨fun n => -f.1 n, f.2.neg⟩) (fun _ _ h => Quotient.sound (Ceq.neg h)) x
def RR.mul (x y : RR) : RR := Quotient.lift₂ (fun f g : CS => Quotient.mk csSetoid ⟨fun n => f.1 n * g.1 n, f.2.mul g.2⟩) (fun _ g f' _ h k => Quotient.sound (Ceq.mul g.2 f'.2 h k)) x y
instance : Add RR := ⟨RR.add⟩
instance : Neg RR := ⟨RR.neg⟩
instance : Mul RR := ⟨RR.mul⟩
instance : Sub RR := ⟨fun x y => x + -y⟩
instance (n : Nat) : OfNat RR n := ⟨RR.of (n : Rat)⟩
def RR.nn (x : RR) : Prop := Quotient.lift (fun f : CS => Cnn f.1) (fun _ _ h => propext ⟨fun k => k.ceq h, fun k => k.ceq h.symm⟩) x
instance : LE RR := ⟨fun x y => RR.nn (y - x)⟩
instance : LT RR := ⟨fun x y => ¬ y ≤ x⟩
theorem RR.mk_add {f g hf hg} : RR.mk f hf + RR.mk g hg = RR.mk (fun n => f n + g n) (hf.add hg) := rfl
theorem RR.mk_mul {f g hf hg} : RR.mk f hf * RR.mk g hg = RR.mk (fun n => f n * g n) (hf.mul hg) := rfl
theorem RR.mk_neg {f hf} : -RR.mk f hf = RR.mk (fun n => -f n) hf.neg := rfl
theorem RR.mk_sub {f g hf hg} : RR.mk f hf - RR.mk g hg = RR.mk (fun n => f n + -g n) (hf.add hg.neg) := rfl
theorem RR.mk_nat {k : Nat} : (OfNat.ofNat k : RR) = RR.mk (fun _ => (k : Rat)) (Cau.const _) := rfl
theorem RR.mk_of {q : Rat} : RR.of q = RR.mk (fun _ => q) (Cau.const q) := rfl
theorem RR.add_comm (x y : RR) : x + y = y + x := by
  obtain ⟨f, hf, rfl⟩ := RR.rep x; obtain ⟨g, hg, rfl⟩ := RR.rep y
  exact RR.ext fun n => by grind
theorem RR.add_assoc (x y z : RR) : x + y + z = x + (y + z) := by
  obtain ⟨f, hf, rfl⟩ := RR.rep x; obtain ⟨g, hg, rfl⟩ := RR.rep y; obtain ⟨k, hk, rfl⟩ := RR.rep z
  exact RR.ext fun n => by grind
theorem RR.mul_comm (x y : RR) : x * y = y * x := by
  obtain ⟨f, hf, rfl⟩ := RR.rep x; obtain ⟨g, hg, rfl⟩ := RR.rep y
  exact RR.ext fun n => by grind
theorem RR.mul_assoc (x y z : RR) : x * y * z = x * (y * z) := by
  obtain ⟨f, hf, rfl⟩ := RR.rep x; obtain ⟨g, hg, rfl⟩ := RR.rep y; obtain ⟨k, hk, rfl⟩ := RR.rep z
  exact RR.ext fun n => by grind
theorem RR.mul_add (x y z : RR) : x * (y + z) = x * y + x * z := by
  obtain ⟨f, hf, rfl⟩ := RR.rep x; obtain ⟨g, hg, rfl⟩ := RR.rep y; obtain ⟨k, hk, rfl⟩ := RR.rep z
  exact RR.ext fun n => by grind
theorem RR.add_mul (x y z : RR) : (x + y) * z = x * z + y * z := by
  obtain ⟨f, hf, rfl⟩ := RR.rep x; obtain ⟨g, hg, rfl⟩ := RR.rep y; obtain ⟨k, hk, rfl⟩ := RR.rep z
  exact RR.ext fun n => by grind
theorem RR.add_zero (x : RR) : x + 0 = x := by
  obtain ⟨f, hf, rfl⟩ := RR.rep x
  exact RR.ext fun n => by grind
theorem RR.zero_add (x : RR) : 0 + x = x := by
  obtain ⟨f, hf, rfl⟩ := RR.rep x
  exact RR.ext fun n => by grind
theorem RR.mul_one (x : RR) : x * 1 = x := by
  obtain ⟨f, hf, rfl⟩ := RR.rep x
  exact RR.ext fun n => by grind
theorem RR.one_mul (x : RR) : 1 * x = x := by
  obtain ⟨f, hf, rfl⟩ := RR.rep x
  exact RR.ext fun n => by grind
theorem RR.mul_zero (x : RR) : x * 0 = 0 := by
  obtain ⟨f, hf, rfl⟩ := RR.rep x
  exact RR.ext fun n => by grind
theorem RR.zero_mul (x : RR) : 0 * x = 0 := by
  obtain ⟨f, hf, rfl⟩ := RR.rep x
  exact RR.ext fun n => by grind
theorem RR.add_neg (x : RR) : x + -x = 0 := by
  obtain ⟨f, hf, rfl⟩ := RR.rep x
  exact RR.ext fun n => by grind
theorem RR.sub_self (x : RR) : x - x = 0 := by
  obtain ⟨f, hf, rfl⟩ := RR.rep x
  exact RR.ext fun n => by grind
theorem RR.sub_zero (x : RR) : x - 0 = x := by
  obtain ⟨f, hf, rfl⟩ := RR.rep x
  exact RR.ext fun n => by grind
theorem RR.zero_sub (x : RR) : 0 - x = -x := by
  obtain ⟨f, hf, rfl⟩ := RR.rep x
  exact RR.ext fun n => by grind
theorem RR.neg_neg (x : RR) : - -x = x := by
  obtain ⟨f, hf, rfl⟩ := RR.rep x
  exact RR.ext fun n => by grind
theorem RR.neg_mul (x y : RR) : -x * y = -(x * y) := by
  obtain ⟨f, hf, rfl⟩ := RR.rep x; obtain ⟨g, hg, rfl⟩ := RR.rep y
  exact RR.ext fun n => by grind
theorem RR.mul_neg (x y : RR) : x * -y = -(x * y) := by
  obtain ⟨f, hf, rfl⟩ := RR.rep x; obtain ⟨g, hg, rfl⟩ := RR.rep y
  exact RR.ext fun n => by grind
theorem RR.neg_add (x y : RR) : -(x + y) = -x + -y := by
  obtain ⟨f, hf, rfl⟩ := RR.rep x; obtain ⟨g, hg, rfl⟩ := RR.rep y
  exact RR.ext fun n => by grind
theorem RR.sub_eq (x y : RR) : x - y = x + -y := by
  obtain ⟨f, hf, rfl⟩ := RR.rep x; obtain ⟨g, hg, rfl⟩ := RR.rep y
  exact RR.ext fun n => by grind
theorem RR.neg_sub (x y : RR) : -(x - y) = y - x := by
  obtain ⟨f, hf, rfl⟩ := RR.rep x; obtain ⟨g, hg, rfl⟩ := RR.rep y
  exact RR.ext fun n => by grind
theorem RR.sub_add (x y : RR) : x - y + y = x := by
  obtain ⟨f, hf, rfl⟩ := RR.rep x; obtain ⟨g, hg, rfl⟩ := RR.rep y
  exact RR.ext fun n => by grind
theorem RR.add_sub (x y : RR) : x + y - y = x := by
  obtain ⟨f, hf, rfl⟩ := RR.rep x; obtain ⟨g, hg, rfl⟩ := RR.rep y
  exact RR.ext fun n => by grind
theorem RR.mul_neg_neg (x y : RR) : -x * -y = x * y := by
  obtain ⟨f, hf, rfl⟩ := RR.rep x; obtain ⟨g, hg, rfl⟩ := RR.rep y
  exact RR.ext fun n => by grind
theorem RR.sub_sub_self (x y : RR) : y - (y - x) = x := by
  obtain ⟨f, hf, rfl⟩ := RR.rep x; obtain ⟨g, hg, rfl⟩ := RR.rep y
  exact RR.ext fun n => by grind
theorem RR.sub_trans (x y z : RR) : (y - x) + (z - y) = z - x := by
  obtain ⟨f, hf, rfl⟩ := RR.rep x; obtain ⟨g, hg, rfl⟩ := RR.rep y; obtain ⟨k, hk, rfl⟩ := RR.rep z
  exact RR.ext fun n => by grind
theorem RR.neg_zero : -(0 : RR) = 0 := RR.ext fun n => by grind
theorem RR.le_def {x y : RR} : x ≤ y ↔ RR.nn (y - x) := Iff.rfl
theorem RR.lt_def {x y : RR} : x < y ↔ ¬ y ≤ x := Iff.rfl
theorem RR.nn_iff {x : RR} : RR.nn x ↔ 0 ≤ x := by rw [RR.le_def, RR.sub_zero]
theorem RR.nn_add {x y : RR} : RR.nn x → RR.nn y → RR.nn (x + y) := by
  obtain ⟨f, hf, rfl⟩ := RR.rep x; obtain ⟨g, hg, rfl⟩ := RR.rep y; exact fun h k => Cnn.add h k
theorem RR.nn_mul {x y : RR} : RR.nn x → RR.nn y → RR.nn (x * y) := by
  obtain ⟨f, hf, rfl⟩ := RR.rep x; obtain ⟨g, hg, rfl⟩ := RR.rep y; exact fun h k => Cnn.mul hf hg h k
theorem RR.nn_total (x : RR) : RR.nn x ∨ RR.nn (-x) := by
  obtain ⟨f, hf, rfl⟩ := RR.rep x; exact Cnn.total hf
theorem RR.nn_anti {x : RR} : RR.nn x → RR.nn (-x) → x = 0 := by
  obtain ⟨f, hf, rfl⟩ := RR.rep x; exact fun h k => RR.sound (Cnn.anti h k)
theorem RR.nn_of {q : Rat} : RR.nn (RR.of q) ↔ 0 ≤ q := by
  constructor
  · intro h
    refine Rat.not_lt.1 fun hlt => ?_
    obtain ⟨N, hN⟩ := (show Cnn (fun _ => q) from h) (-q) (by grind)
    have := hN N (Nat.le_refl _); grind
  · intro h
    show Cnn (fun _ => q)
    exact fun e he => ⟨0, fun i _ => by grind⟩
theorem RR.le_refl (x : RR) : x ≤ x := by rw [RR.le_def, RR.sub_self]; exact RR.nn_of.2 (by decide)
theorem RR.le_trans {x y z : RR} (h : x ≤ y) (k : y ≤ z) : x ≤ z := by
  rw [RR.le_def, ← RR.sub_trans x y z]; exact RR.nn_add h k
theorem RR.le_antisymm {x y : RR} (h : x ≤ y) (k : y ≤ x) : x = y := by
  have := RR.nn_anti (x := y - x) h (by rw [RR.neg_sub]; exact k)
  rw [← RR.sub_add y x, this, RR.zero_add]
theorem RR.le_total (x y : RR) : x ≤ y ∨ y ≤ x := by
  rcases RR.nn_total (y - x) with h | h
  · exact .inl h
  · rw [RR.neg_sub] at h; exact .inr h
theorem RR.not_le {x y : RR} : ¬ x ≤ y ↔ y < x := Iff.rfl
theorem RR.not_lt {x y : RR} : ¬ x < y ↔ y ≤ x := Classical.not_not
theorem RR.le_of_lt {x y : RR} (h : x < y) : x ≤ y := (RR.le_total x y).elim id fun k => absurd k h
theorem RR.lt_irrefl (x : RR) : ¬ x < x := fun h => h (RR.le_refl x)
theorem RR.lt_of_lt_of_le {x y z : RR} (h : x < y) (k : y ≤ z) : x < z := fun j => h (RR.le_trans k j)
theorem RR.lt_of_le_of_lt {x y z : RR} (h : x ≤ y) (k : y < z) : x < z := fun j => k (RR.le_trans j h)
theorem RR.lt_trans {x y z : RR} (h : x < y) (k : y < z) : x < z := RR.lt_of_lt_of_le h (RR.le_of_lt k)
theorem RR.ne_of_lt {x y : RR} (h : x < y) : x ≠ y := fun e => RR.lt_irrefl y (e ▸ h)
theorem RR.lt_of_ne {x y : RR} (h : x ≤ y) (k : x ≠ y) : x < y := fun j => k (RR.le_antisymm h j)
theorem RR.lt_tri (x y : RR) : x < y ∨ x = y ∨ y < x := by
  by_cases h : x = y
  · exact .inr (.inl h)
  · rcases RR.le_total x y with k | k
    · exact .inl (RR.lt_of_ne k h)
    · exact .inr (.inr (RR.lt_of_ne k (Ne.symm h)))
theorem RR.le_iff_sub {x y : RR} : x ≤ y ↔ 0 ≤ y - x := by rw [RR.le_def, RR.nn_iff]
theorem RR.lt_iff_sub {x y : RR} : x < y ↔ 0 < y - x := by
  rw [RR.lt_def, RR.lt_def, RR.le_def, RR.le_def, RR.zero_sub, RR.neg_sub]
theorem RR.add_nn {x y : RR} (h : 0 ≤ x) (k : 0 ≤ y) : 0 ≤ x + y := RR.nn_iff.1 (RR.nn_add (RR.nn_iff.2 h) (RR.nn_iff.2 k))
theorem RR.mul_nn {x y : RR} (h : 0 ≤ x) (k : 0 ≤ y) : 0 ≤ x * y := RR.nn_iff.1 (RR.nn_mul (RR.nn_iff.2 h) (RR.nn_iff.2 k))
theorem RR.add_pos {x y : RR} (h : 0 < x) (k : 0 ≤ y) : 0 < x + y := by
  refine RR.lt_of_ne (RR.add_nn (RR.le_of_lt h) k) fun e => ?_
  refine h ?_
  have : y = -x := by rw [← RR.zero_add (-x), e, RR.add_comm x y, ← RR.sub_eq, RR.add_sub]
  rw [RR.le_def, RR.zero_sub, ← this]; exact RR.nn_iff.2 k
theorem RR.neg_nn {x : RR} : 0 ≤ -x ↔ x ≤ 0 := by rw [RR.le_def, RR.le_def, RR.sub_zero, RR.zero_sub]
theorem RR.neg_pos {x : RR} : 0 < -x ↔ x < 0 := by rw [RR.lt_def, RR.lt_def, ← RR.neg_nn, RR.neg_neg]
theorem RR.sq_nn (x : RR) : 0 ≤ x * x := by
  rcases RR.le_total 0 x with h | h
  · exact RR.mul_nn h h
  · rw [← RR.mul_neg_neg]; exact RR.mul_nn (RR.neg_nn.2 h) (RR.neg_nn.2 h)
theorem RR.of_add (p q : Rat) : RR.of (p + q) = RR.of p + RR.of q := rfl
theorem RR.of_mul (p q : Rat) : RR.of (p * q) = RR.of p * RR.of q := rfl
theorem RR.of_neg (p : Rat) : RR.of (-p) = -RR.of p := rfl
theorem RR.of_sub (p q : Rat) : RR.of (p - q) = RR.of p - RR.of q := by rw [Rat.sub_eq_add_neg]; rfl
theorem RR.of_nat (n : Nat) : RR.of (n : Rat) = (OfNat.ofNat n : RR) := rfl
theorem RR.of_zero : RR.of 0 = 0 := rfl
theorem RR.of_one : RR.of 1 = 1 := rfl
theorem RR.of_le {p q : Rat} : RR.of p ≤ RR.of q ↔ p ≤ q := by
  rw [RR.le_def, ← RR.of_sub, RR.nn_of]; constructor <;> intro h <;> grind
theorem RR.of_lt {p q : Rat} : RR.of p < RR.of q ↔ p < q := by rw [RR.lt_def, RR.of_le, Rat.not_le]
theorem RR.of_inj {p q : Rat} : RR.of p = RR.of q ↔ p = q :=
  ⟨fun h => Rat.le_antisymm (RR.of_le.1 (h ▸ RR.le_refl _)) (RR.of_le.1 (h ▸ RR.le_refl _)), fun h => h ▸ rfl⟩
theorem RR.one_pos : (0 : RR) < 1 := RR.of_lt (p := 0) (q := 1) |>.2 (by decide)
theorem RR.zero_ne_one : (0 : RR) ≠ 1 := RR.ne_of_lt RR.one_pos
theorem RR.has_inv_neg {x : RR} : ¬ RR.nn x → ∃ y, x * y = 1 := by
  obtain ⟨f, hf, rfl⟩ := RR.rep x
  intro h
  obtain ⟨e, he, N, hN⟩ := Cau.away hf h
  refine ⟨RR.mk _ (hf.inv he fun i hi => .inr (hN i hi)), RR.sound fun d hd => ⟨N, fun i hi => ?_⟩⟩
  have h1 : f i ≠ 0 := fun hz => by have := hN i hi; rw [hz] at this; grind
  have h2 : f i * (f i)⁻¹ = 1 := by grind
  have h3 : ((1 : Nat) : Rat) = 1 := rfl
  simp only [h2, h3]
  constructor <;> grind
theorem RR.has_inv {x : RR} (h : x ≠ 0) : ∃ y, x * y = 1 := by
  by_cases h1 : RR.nn x
  · by_cases h2 : RR.nn (-x)
    · exact absurd (RR.nn_anti h1 h2) h
    · obtain ⟨y, hy⟩ := RR.has_inv_neg h2
      exact ⟨-y, by rw [RR.mul_neg, ← RR.neg_mul, hy]⟩
  · exact RR.has_inv_neg h1
theorem RR.mul_pos {x y : RR} (h : 0 < x) (k : 0 < y) : 0 < x * y := by
  refine RR.lt_of_ne (RR.mul_nn (RR.le_of_lt h) (RR.le_of_lt k)) fun e => ?_
  obtain ⟨z, hz⟩ := RR.has_inv (Ne.symm (RR.ne_of_lt h))
  have : y = 0 := by rw [← RR.one_mul y, ← hz, RR.mul_comm x z, RR.mul_assoc, ← e, RR.mul_zero]
  exact RR.ne_of_lt k this.symm
theorem RR.mul_eq_zero {x y : RR} : x * y = 0 ↔ x = 0 ∨ y = 0 := by
  constructor
  · intro h
    by_cases hx : x = 0
    · exact .inl hx
    · obtain ⟨z, hz⟩ := RR.has_inv hx
      exact .inr (by rw [← RR.one_mul y, ← hz, RR.mul_comm x z, RR.mul_assoc, h, RR.mul_zero])
  · rintro (h | h)
    · rw [h, RR.zero_mul]
    · rw [h, RR.mul_zero]
open Classical in
noncomputable def RR.inv (x : RR) : RR := if h : x = 0 then 0 else (RR.has_inv h).choose
theorem RR.mul_inv {x : RR} (h : x ≠ 0) : x * x.inv = 1 := by
  unfold RR.inv; rw [dif_neg h]; exact (RR.has_inv h).choose_spec
theorem rat_arch (q : Rat) : ∃ n : Nat, q < n := by
  refine ⟨(q.floor + 1).toNat, ?_⟩
  have h := Rat.lt_floor_add_one q
  have h2 : q.floor + 1 ≤ (((q.floor + 1).toNat : Nat) : Int) := Int.self_le_toNat _
  have h3 : ((q.floor + 1 : Int) : Rat) ≤ ((((q.floor + 1).toNat : Nat) : Int) : Rat) := Rat.intCast_le_intCast.2 h2
  have h4 : ((((q.floor + 1).toNat : Nat) : Int) : Rat) = (((q.floor + 1).toNat : Nat) : Rat) := rfl
  grind
theorem nat_step {p : Nat → Prop} (h0 : p 0) {m : Nat} (hm : ¬ p m) : ∃ k, p k ∧ ¬ p (k + 1) := by
  induction m with
  | zero => exact absurd h0 hm
  | succ m ih =>
    by_cases h : p m
    · exact ⟨m, h, hm⟩
    · exact ih h
theorem sq_lt {a b : Rat} (ha : 0 ≤ a) (h : a * a < b * b) (hb : 0 ≤ b) : a < b := by
  refine Rat.not_le.1 fun hle => ?_
  have := rmul_le hb hle hb hle; grind
theorem root_near (q : Rat) (hq : 0 ≤ q) (n : Nat) : ∃ y : Rat, 0 ≤ y ∧ y * y ≤ q ∧ q < (y + 1 / ((n : Rat) + 1)) * (y + 1 / ((n : Rat) + 1)) := by
  have hn : (0 : Rat) < (n : Rat) + 1 := by have : (0 : Rat) ≤ (n : Rat) := Rat.natCast_nonneg; grind
  generalize (n : Rat) + 1 = m at *
  clear n
  obtain ⟨M, hM⟩ := rat_arch (q * (m * m) + 1)
  have hmm := rmul_pos hn hn
  obtain ⟨k, h1, h2⟩ := nat_step (p := fun k => (k : Rat) * k ≤ q * (m * m)) (by show ((0 : Nat) : Rat) * ((0 : Nat) : Rat) ≤ _; have := Rat.mul_nonneg hq (Rat.le_of_lt hmm); have e : ((0 : Nat) : Rat) = 0 := rfl; rw [e]; grind) (m := M) (by
    intro h
    have h : (M : Rat) * M ≤ q * (m * m) := h
    have hM1 : (1 : Rat) < M := by have := Rat.mul_nonneg hq (Rat.le_of_lt hmm); grind
    have := rmul_le (a := 1) (b := M) (c := (M : Rat)) (d := M) (by decide) (Rat.le_of_lt hM1) (by grind) (by grind)
    grind)
  have h2_1 := h2
  have h2 : ¬ ((k + 1 : Nat) : Rat) * ((k + 1 : Nat) : Rat) ≤ q * (m * m) := h2
  have ek : ((k + 1 : Nat) : Rat) = (k : Rat) + 1 := by push_cast; rfl
  rw [ek] at h2
  have hk : (0 : Rat) ≤ (k : Rat) := Rat.natCast_nonneg
  generalize (k : Rat) = K at *
  clear ek hM
  refine ⟨K / m, ?_, ?_, ?_⟩
  · rw [Rat.div_def]; exact Rat.mul_nonneg hk (Rat.le_of_lt (Rat.inv_pos.2 hn))
  · refine Rat.not_lt.1 fun h => ?_
    have := rmul_pos (show 0 < K / m * (K / m) - q by grind) hmm
    have e1 : K / m * m = K := rmul_div hn
    generalize K / m = r at *
    have e3 : r * m * (r * m) = K * K := by rw [e1]
    clear h2_1 h2
    grind
  · refine Rat.not_le.1 fun h => ?_
    have := Rat.mul_nonneg (show 0 ≤ q - (K / m + 1 / m) * (K / m + 1 / m) by grind) (Rat.le_of_lt hmm)
    have e1 : K / m * m = K := rmul_div hn
    have e2 : 1 / m * m = 1 := rmul_div hn
    generalize K / m = r at *
    generalize 1 / m = s at *
    have e3 : (r + s) * m * ((r + s) * m) = (K + 1) * (K + 1) := by rw [show (r + s) * m = K + 1 by grind]
    clear h2_1 h1
    grind
theorem inv_small {e : Rat} (he : 0 < e) : ∃ N : Nat, ∀ n : Nat, N ≤ n → 0 < 1 / ((n : Rat) + 1) ∧ 1 / ((n : Rat) + 1) < e := by
  obtain ⟨N, hN⟩ := rat_arch (1 / e)
  refine ⟨N, fun n hn => ?_⟩
  have h0 : (N : Rat) ≤ (n : Rat) := Rat.natCast_le_natCast.2 hn
  have h1 := rdiv_pos (a := 1) (by decide) he
  have h2 : 1 / e * e = 1 := rmul_div he
  have h3 : (0 : Rat) < (n : Rat) + 1 := by grind
  refine ⟨rdiv_pos (by decide) h3, ?_⟩
  have h4 : 1 / ((n : Rat) + 1) * ((n : Rat) + 1) = 1 := rmul_div h3
  have h5 := rdiv_pos (a := 1) (by decide) h3
  generalize 1 / ((n : Rat) + 1) = u at *
  generalize 1 / e = v at *
  refine Rat.not_le.1 fun hle => ?_
  have := rmul_pos (show 0 < (n : Rat) + 1 - v by grind) he
  have := Rat.mul_nonneg (show 0 ≤ u - e by grind) (Rat.le_of_lt h3)
  grind
theorem max0_cau {f : Nat → Rat} (h : Cau f) : Cau fun n => if 0 ≤ f n then f n else 0 := fun e he => by
  obtain ⟨N, hN⟩ := h e he
  refine ⟨N, fun i j hi hj => ?_⟩
  have := hN i j hi hj
  simp only
  split <;> split <;> grind
theorem max0_eq {f : Nat → Rat} (h : Cnn f) : Ceq (fun n => if 0 ≤ f n then f n else 0) f := fun e he => by
  obtain ⟨N, hN⟩ := h e he
  refine ⟨N, fun i hi => ?_⟩
  have := hN i hi
  simp only
  split <;> constructor <;> grind
theorem RR.has_root {x : RR} : RR.nn x → ∃ y, RR.nn y ∧ y * y = x := by
  obtain ⟨f, hf, rfl⟩ := RR.rep x
  intro h
  have h : Cnn f := h
  have hg := max0_cau hf
  have he := max0_eq h
  have hg0 : ∀ n, 0 ≤ (fun n => if 0 ≤ f n then f n else 0) n := fun n => by simp only; split <;> grind
  generalize (fun n => if 0 ≤ f n then f n else 0) = g at *
  have hy : ∀ n, ∃ y : Rat, 0 ≤ y ∧ y * y ≤ g n ∧ g n < (y + 1 / ((n : Rat) + 1)) * (y + 1 / ((n : Rat) + 1)) := fun n => root_near (g n) (hg0 n) n
  obtain ⟨y, hy⟩ : ∃ y : Nat → Rat, ∀ n, 0 ≤ y n ∧ y n * y n ≤ g n ∧ g n < (y n + 1 / ((n : Rat) + 1)) * (y n + 1 / ((n : Rat) + 1)) := ⟨fun n => (hy n).choose, fun n => (hy n).choose_spec⟩
  have hc : Cau y := fun e he => by
    have hE := rmul_pos (half_pos he) (half_pos he)
    obtain ⟨N, hN⟩ := hg _ hE
    obtain ⟨M, hM⟩ := inv_small (half_pos he)
    refine ⟨max N M, fun i j hi hj => ?_⟩
    have a := hN i j (by omega) (by omega)
    obtain ⟨u0, u1⟩ := hM j (by omega)
    obtain ⟨p1, p2, p3⟩ := hy i
    obtain ⟨q1, q2, q3⟩ := hy j
    generalize 1 / ((j : Rat) + 1) = u at *
    generalize y i = Y at *
    generalize y j = Z at *
    generalize g i = A at *
    generalize g j = B at *
    refine Rat.not_le.1 fun hle => ?_
    have r1 := rmul_le (a := Z + e) (b := Y) (c := Z + e) (d := Y) (by grind) (by grind) (by grind) (by grind)
    have r2 := rmul_le (a := Z + u) (b := Z + e / 2) (c := Z + u) (d := Z + e / 2) (by grind) (by grind) (by grind) (by grind)
    have r3 := Rat.mul_nonneg q1 (Rat.le_of_lt he)
    have r4 := rmul_pos he he
    grind
  obtain ⟨B, hB, hb⟩ := hc.bound
  refine ⟨RR.mk y hc, fun e he => ⟨0, fun i _ => by have := (hy i).1; grind⟩, RR.sound (Ceq.trans ?_ he)⟩
  intro e he'
  have hd := rdiv_pos he' (show 0 < 2 * B + 1 by grind)
  obtain ⟨M, hM⟩ := inv_small hd
  obtain ⟨M2, hM2⟩ := inv_small (show (0 : Rat) < 1 by decide)
  refine ⟨max M M2, fun i hi => ?_⟩
  obtain ⟨u0, u1⟩ := hM i (by omega)
  obtain ⟨_, u2⟩ := hM2 i (by omega)
  obtain ⟨q1, q2, q3⟩ := hy i
  have hbi := hb i
  have e1 : e / (2 * B + 1) * (2 * B + 1) = e := rmul_div (by grind)
  generalize e / (2 * B + 1) = d at *
  generalize 1 / ((i : Rat) + 1) = u at *
  simp only
  generalize y i = Y at *
  generalize g i = A at *
  have r1 := Rat.mul_nonneg (show 0 ≤ B - Y by grind) (Rat.le_of_lt u0)
  have r2 := Rat.mul_nonneg (show 0 ≤ 1 - u by grind) (Rat.le_of_lt u0)
  have r3 := rmul_pos (show 0 < d - u by grind) (show 0 < 2 * B + 1 by grind)
  constructor <;> grind
open Classical in
noncomputable def RR.sq (x : RR) : RR := if h : 0 ≤ x then (RR.has_root (RR.nn_iff.2 h)).choose else 0
theorem RR.sq_nonneg (x : RR) : 0 ≤ x.sq := by
  unfold RR.sq; split
  · rename_i h; exact RR.nn_iff.1 (RR.has_root (RR.nn_iff.2 h)).choose_spec.1
  · exact RR.le_refl 0
theorem RR.sq_sq {x : RR} (h : 0 ≤ x) : x.sq * x.sq = x := by
  unfold RR.sq; rw [dif_pos h]; exact (RR.has_root (RR.nn_iff.2 h)).choose_spec.2
theorem RR.arch (x : RR) : ∃ q : Rat, x ≤ RR.of q := by
  obtain ⟨f, hf, rfl⟩ := RR.rep x
  obtain ⟨B, hB, hb⟩ := hf.bound
  exact ⟨B, fun e he => ⟨0, fun i _ => by have := hb i; grind⟩⟩
end Go.Proofs.Ytdeihehaheelmaa
namespace Go.Proofs.Ytdeihehaheelmaa
open Classical in
noncomputable def sgR (x : RR) : Int := if x < 0 then -1 else if 0 < x then 1 else 0
theorem RR.lt_asymm {x y : RR} (h : x < y) : ¬ y < x := fun k => RR.lt_irrefl x (RR.lt_trans h k)
theorem sgR_cases (x : RR) : (x < 0 ∧ sgR x = -1) ∨ (x = 0 ∧ sgR x = 0) ∨ (0 < x ∧ sgR x = 1) := by
  rcases RR.lt_tri x 0 with h | h | h
  · exact .inl ⟨h, by unfold sgR; rw [if_pos h]⟩
  · subst h; exact .inr (.inl ⟨rfl, by unfold sgR; rw [if_neg (RR.lt_irrefl 0), if_neg (RR.lt_irrefl 0)]⟩)
  · exact .inr (.inr ⟨h, by unfold sgR; rw [if_neg (RR.lt_asymm h), if_pos h]⟩)
theorem sgR_pos {x : RR} (h : 0 < x) : sgR x = 1 := by
  unfold sgR; rw [if_neg (RR.lt_asymm h), if_pos h]
theorem sgR_neg {x : RR} (h : x < 0) : sgR x = -1 := by unfold sgR; rw [if_pos h]
theorem sgR_zero : sgR 0 = 0 := by unfold sgR; rw [if_neg (RR.lt_irrefl 0), if_neg (RR.lt_irrefl 0)]
theorem sgR_negate (x : RR) : sgR (-x) = -sgR x := by
  rcases sgR_cases x with ⟨h, e⟩ | ⟨h, e⟩ | ⟨h, e⟩
  · rw [e, sgR_pos (RR.neg_pos.2 h)]; rfl
  · subst h; rw [RR.neg_zero, sgR_zero]; rfl
  · rw [e, sgR_neg]; rw [← RR.neg_pos, RR.neg_neg]; exact h
theorem sgR_mul (x y : RR) : sgR (x * y) = sgR x * sgR y := by
  have pp : ∀ {x y : RR}, 0 < x → 0 < y → sgR (x * y) = sgR x * sgR y := fun h k => by rw [sgR_pos h, sgR_pos k, sgR_pos (RR.mul_pos h k)]; rfl
  have np : ∀ {x y : RR}, x < 0 → 0 < y → sgR (x * y) = sgR x * sgR y := fun {x y} h k => by
    have := pp (RR.neg_pos.2 h) k
    rw [RR.neg_mul, sgR_negate, sgR_negate] at this
    rw [Int.neg_mul] at this; omega
  rcases RR.lt_tri x 0 with h | h | h
  · rcases RR.lt_tri y 0 with k | k | k
    · have := np h (RR.neg_pos.2 k)
      rw [RR.mul_neg, sgR_negate, sgR_negate, Int.mul_neg] at this; omega
    · subst k; rw [RR.mul_zero, sgR_zero, Int.mul_zero]
    · exact np h k
  · subst h; rw [RR.zero_mul, sgR_zero, Int.zero_mul]
  · rcases RR.lt_tri y 0 with k | k | k
    · rw [RR.mul_comm, Int.mul_comm]; exact np k h
    · subst k; rw [RR.mul_zero, sgR_zero, Int.mul_zero]
    · exact pp h k
theorem sgR_of (q : Rat) : sgR (RR.of q) = q.num.sign := by
  rcases sgn_cases q.num with ⟨h, e⟩ | ⟨h, e⟩ | ⟨h, e⟩
  all_goals first
    | (rw [e]; exact sgR_pos (RR.of_lt (p := 0) |>.2 (rat_pos_iff.2 (by omega))))
    | (rw [e]; have : q = 0 := (@Rat.num_eq_zero q).1 (by omega)
       subst this; exact sgR_zero)
    | (rw [e]; refine sgR_neg (RR.of_lt (q := 0) |>.2 ?_)
       have h1 := @Rat.num_nonneg q
       rcases Classical.em (0 ≤ q) with h2 | h2
       · have := h1.2 h2; omega
       · exact Rat.not_le.1 h2)
theorem sgR_cmp (p q : Rat) : sgR (RR.of p - RR.of q) = cmpQ p q := by
  rw [← RR.of_sub]
  unfold cmpQ
  split
  · exact sgR_neg (RR.of_lt (q := 0) |>.2 (by grind))
  · split
    · exact sgR_pos (RR.of_lt (p := 0) |>.2 (by grind))
    · have : p - q = 0 := by grind
      rw [this]; exact sgR_zero
theorem RR.sub_def (x y : RR) : x - y = x + -y := rfl
theorem sgR_mono {x y : RR} (h : x ≤ y) : sgR x ≤ sgR y := by
  rcases sgR_cases x with ⟨h1, e⟩ | ⟨h1, e⟩ | ⟨h1, e⟩
  · rcases sgR_cases y with ⟨_, e2⟩ | ⟨_, e2⟩ | ⟨_, e2⟩ <;> rw [e, e2] <;> decide
  · rcases sgR_cases y with ⟨h2, e2⟩ | ⟨_, e2⟩ | ⟨_, e2⟩
    · subst h1; exact absurd h h2
    · rw [e, e2]; decide
    · rw [e, e2]; decide
  · rcases sgR_cases y with ⟨h2, e2⟩ | ⟨h2, e2⟩ | ⟨_, e2⟩
    · exact absurd (RR.le_trans (RR.le_of_lt h1) h) h2
    · subst h2; exact absurd h h1
    · rw [e, e2]; decide
theorem sgR_add {u v : RR} : sgR (u + v) = if sgR u = 0 ∨ sgR u = sgR v then sgR v else if sgR v = 0 then sgR u else sgR u * sgR (u * u - v * v) := by
  have hf : u * u - v * v = (u + v) * (u - v) := by
    obtain ⟨f, hf, rfl⟩ := RR.rep u; obtain ⟨g, hg, rfl⟩ := RR.rep v
    exact RR.ext fun n => by grind
  have hm := sgR_mul (u + v) (u - v)
  rw [← hf] at hm
  rcases sgR_cases u with ⟨h, e⟩ | ⟨h, e⟩ | ⟨h, e⟩
  · rcases sgR_cases v with ⟨k, e2⟩ | ⟨k, e2⟩ | ⟨k, e2⟩
    · rw [e, e2, if_pos (.inr rfl)]
      refine sgR_neg ?_
      have h1 := RR.add_pos (RR.neg_pos.2 h) (RR.le_of_lt (RR.neg_pos.2 k))
      rw [← RR.neg_add] at h1
      exact RR.neg_pos.1 h1
    · subst k; rw [RR.add_zero, e, sgR_zero, if_neg (by decide), if_pos rfl]
    · rw [e, e2, if_neg (by decide), if_neg (by decide)]
      have h1 : sgR (u - v) = -1 := by
        refine sgR_neg ?_
        have h1 := RR.add_pos (RR.neg_pos.2 h) (RR.le_of_lt k)
        rw [← RR.neg_pos, RR.neg_sub, RR.sub_def, RR.add_comm]; exact h1
      rw [h1] at hm; omega
  · subst h; rw [RR.zero_add, sgR_zero, if_pos (.inl rfl)]
  · rcases sgR_cases v with ⟨k, e2⟩ | ⟨k, e2⟩ | ⟨k, e2⟩
    · rw [e, e2, if_neg (by decide), if_neg (by decide)]
      have h1 : sgR (u - v) = 1 := by
        refine sgR_pos ?_
        exact RR.add_pos h (RR.le_of_lt (RR.neg_pos.2 k))
      rw [h1] at hm; omega
    · subst k; rw [RR.add_zero, e, sgR_zero, if_neg (by decide), if_pos rfl]
    · rw [e, e2, if_pos (.inr rfl)]; exact sgR_pos (RR.add_pos h (RR.le_of_lt k))
theorem sgR_sq {w t : RR} (hw : 0 ≤ w) (ht : 0 ≤ t) : sgR (w - t) = sgR (w * w - t * t) := by
  have hf : w * w - t * t = (w - t) * (w + t) := by
    obtain ⟨f, hf, rfl⟩ := RR.rep w; obtain ⟨g, hg, rfl⟩ := RR.rep t
    exact RR.ext fun n => by grind
  rw [hf, sgR_mul]
  rcases sgR_cases (w + t) with ⟨h, e⟩ | ⟨h, e⟩ | ⟨h, e⟩
  · exact absurd (RR.add_nn hw ht) h
  · have hw0 : w = 0 := by
      refine RR.le_antisymm ?_ hw
      refine RR.not_lt.1 fun k => ?_
      have := RR.add_pos k ht
      rw [h] at this; exact RR.lt_irrefl 0 this
    have ht0 : t = 0 := by rw [hw0, RR.zero_add] at h; exact h
    rw [hw0, ht0, RR.sub_self, sgR_zero, Int.zero_mul]
  · rw [e, Int.mul_one]
noncomputable def rt (q : Rat) : RR := (RR.of q).sq
theorem rt_nn (q : Rat) : 0 ≤ rt q := RR.sq_nonneg _
theorem rt_sq {q : Rat} (h : 0 ≤ q) : rt q * rt q = RR.of q := RR.sq_sq (RR.of_le (p := 0) |>.2 h)
theorem sgR_rt {q : Rat} (h : 0 ≤ q) : sgR (rt q) = q.num.sign := by
  have h1 := sgR_mul (rt q) (rt q)
  rw [rt_sq h, sgR_of] at h1
  rcases sgR_cases (rt q) with ⟨k, e⟩ | ⟨k, e⟩ | ⟨k, e⟩
  · exact absurd (rt_nn q) k
  · rw [e] at h1 ⊢; omega
  · rw [e] at h1 ⊢; omega
theorem mixed_sg {x y d : Rat} (hd : 0 ≤ d) : mixedF x y d = sgR (RR.of x + RR.of y * rt d) := by
  rw [sgR_add, sgR_mul, sgR_of, sgR_of, sgR_rt hd]
  have hq : RR.of x * RR.of x - RR.of y * rt d * (RR.of y * rt d) = RR.of (x * x) - RR.of (y * y * d) := by
    rw [RR.of_mul, RR.of_mul, RR.of_mul, ← rt_sq hd]
    generalize RR.of x = a; generalize RR.of y = b; generalize rt d = c
    obtain ⟨f, hf, rfl⟩ := RR.rep a; obtain ⟨g, hg, rfl⟩ := RR.rep b; obtain ⟨k, hk, rfl⟩ := RR.rep c
    exact RR.ext fun n => by grind
  rw [hq, sgR_cmp]
  rfl
theorem roots_sg {x d f : Rat} (hd : 0 ≤ d) (hf : 0 ≤ f) : rootsF x d f = sgR (RR.of x + RR.of 2 * rt d - RR.of 2 * rt f) := by
  unfold rootsF
  rw [mixed_sg hd, mixed_sg hd]
  have ht : 0 ≤ RR.of 2 * rt f := RR.mul_nn (RR.of_le (p := 0) |>.2 (by decide)) (rt_nn f)
  split
  · rename_i h
    symm
    refine sgR_neg ?_
    have hw : RR.of x + RR.of 2 * rt d < 0 := by
      rcases sgR_cases (RR.of x + RR.of 2 * rt d) with ⟨k, e⟩ | ⟨k, e⟩ | ⟨k, e⟩
      · exact k
      · omega
      · omega
    have h2 := RR.add_pos (RR.neg_pos.2 hw) ht
    rw [← RR.neg_pos, RR.neg_sub, RR.sub_def, RR.add_comm]; exact h2
  · rename_i h
    have hw : 0 ≤ RR.of x + RR.of 2 * rt d := by
      rcases sgR_cases (RR.of x + RR.of 2 * rt d) with ⟨k, e⟩ | ⟨k, e⟩ | ⟨k, e⟩
      · omega
      · rw [k]; exact RR.le_refl 0
      · exact RR.le_of_lt k
    rw [sgR_sq hw ht]
    congr 1
    have e : RR.of (x * x + 4 * d - 4 * f) = RR.of x * RR.of x + RR.of 4 * (rt d * rt d) - RR.of 4 * (rt f * rt f) := by
      rw [rt_sq hd, rt_sq hf, RR.of_sub, RR.of_add, RR.of_mul, RR.of_mul, RR.of_mul]
    rw [e, RR.of_mul]
    generalize RR.of x = a; generalize rt d = b; generalize rt f = c
    obtain ⟨f, hf, rfl⟩ := RR.rep a; obtain ⟨g, hg, rfl⟩ := RR.rep b; obtain ⟨k, hk, rfl⟩ := RR.rep c
    exact RR.ext fun n => by grind
theorem rt_eq {a b : RR} (ha : 0 ≤ a) (hb : 0 ≤ b) (h : a * a = b * b) : a = b := by
  have h1 := sgR_sq ha hb
  rw [h, RR.sub_self, sgR_zero] at h1
  rcases sgR_cases (a - b) with ⟨k, e⟩ | ⟨k, e⟩ | ⟨k, e⟩
  · omega
  · rw [← RR.sub_add a b, k, RR.zero_add]
  · omega
theorem rt_mul {a b : Rat} (ha : 0 ≤ a) (hb : 0 ≤ b) : rt (a * b) = rt a * rt b := by
  refine rt_eq (rt_nn _) (RR.mul_nn (rt_nn a) (rt_nn b)) ?_
  rw [rt_sq (Rat.mul_nonneg ha hb), RR.of_mul, ← rt_sq ha, ← rt_sq hb]
  generalize rt a = x; generalize rt b = y
  obtain ⟨f, hf, rfl⟩ := RR.rep x; obtain ⟨g, hg, rfl⟩ := RR.rep y
  exact RR.ext fun n => by grind
theorem rt_le {a b : Rat} (ha : 0 ≤ a) (hab : a ≤ b) : rt a ≤ rt b := by
  have h1 := sgR_sq (rt_nn a) (rt_nn b)
  rw [rt_sq ha, rt_sq (by grind), sgR_cmp] at h1
  rcases sgR_cases (rt a - rt b) with ⟨k, e⟩ | ⟨k, e⟩ | ⟨k, e⟩
  · refine RR.le_of_lt (RR.lt_iff_sub.2 ?_)
    rw [← RR.neg_sub]; exact RR.neg_pos.2 k
  · rw [← RR.sub_add (rt a) (rt b), k, RR.zero_add]; exact RR.le_refl _
  · rw [e] at h1; unfold cmpQ at h1
    split at h1
    · omega
    · split at h1
      · grind
      · omega
theorem rt_zero : rt 0 = 0 := rt_eq (rt_nn 0) (RR.le_refl 0) (by rw [rt_sq (by decide), RR.mul_zero]; rfl)
theorem roots_four {a b c d : Rat} (ha : 0 ≤ a) (hb : 0 ≤ b) (hc : 0 ≤ c) (hd : 0 ≤ d) : rootsF (a + b - (c + d)) (a * b) (c * d) = sgR ((rt a + rt b) - (rt c + rt d)) := by
  rw [roots_sg (Rat.mul_nonneg ha hb) (Rat.mul_nonneg hc hd), rt_mul ha hb, rt_mul hc hd, sgR_sq (RR.add_nn (rt_nn a) (rt_nn b)) (RR.add_nn (rt_nn c) (rt_nn d))]
  congr 1
  rw [RR.of_sub, RR.of_add, RR.of_add, ← rt_sq ha, ← rt_sq hb, ← rt_sq hc, ← rt_sq hd]
  generalize rt a = x; generalize rt b = y; generalize rt c = z; generalize rt d = u
  obtain ⟨f, hf, rfl⟩ := RR.rep x; obtain ⟨g, hg, rfl⟩ := RR.rep y; obtain ⟨k, hk, rfl⟩ := RR.rep z; obtain ⟨l, hl, rfl⟩ := RR.rep u
  exact RR.ext fun n => by grind
theorem pairF_nn {l : List Rat} (h : ∀ q ∈ l, 0 ≤ q) (i : Nat) : 0 ≤ (pairF l).getD i default := by
  rw [List.getD_eq_getElem?_getD]
  cases hi : (pairF l)[i]? with
  | none => exact (by decide : (0 : Rat) ≤ 0)
  | some z =>
    have hm := List.mem_of_getElem? hi
    unfold pairF at hm
    rcases List.mem_append.1 hm with h1 | h1
    · exact h z (List.mem_of_mem_take h1)
    · have := List.mem_of_mem_drop h1
      simp at this; subst this; exact (by decide : (0 : Rat) ≤ 0)
noncomputable def rs (l : List Rat) : RR := rt ((pairF l).getD 0 default) + rt ((pairF l).getD 1 default)
theorem compareF_sg {l m : List Rat} (hl : ∀ q ∈ l, 0 ≤ q) (hm : ∀ q ∈ m, 0 ≤ q) : compareF l m = sgR (rs l - rs m) := by
  unfold compareF rs
  exact roots_four (pairF_nn hl 0) (pairF_nn hl 1) (pairF_nn hm 0) (pairF_nn hm 1)
theorem compareF_neg {l m : List Rat} (hl : ∀ q ∈ l, 0 ≤ q) (hm : ∀ q ∈ m, 0 ≤ q) : compareF l m = -compareF m l := by
  rw [compareF_sg hl hm, compareF_sg hm hl, ← RR.neg_sub, sgR_negate]
theorem RR.add_le_add_right {x y : RR} (h : x ≤ y) (z : RR) : x + z ≤ y + z := by
  rw [RR.le_iff_sub] at h ⊢
  have : y + z - (x + z) = y - x := by
    obtain ⟨f, hf, rfl⟩ := RR.rep x; obtain ⟨g, hg, rfl⟩ := RR.rep y; obtain ⟨k, hk, rfl⟩ := RR.rep z
    exact RR.ext fun n => by grind
  rw [this]; exact h
theorem rs_cons {a : Rat} {r : List Rat} (hr : r.length ≤ 1) : rs (a :: r) = rt a + rt (r.getD 0 0) := by
  match r, hr with
  | [], _ => rfl
  | [b], _ => rfl
theorem compareF_mono {a x : Rat} {r m : List Rat} (ha : 0 ≤ a) (hx : 0 ≤ x) (hr : ∀ q ∈ r, 0 ≤ q) (hl : r.length ≤ 1) (hm : ∀ q ∈ m, 0 ≤ q) : compareF ((a + x) :: r) m ≥ compareF (a :: r) m := by
  have h1 : ∀ y : Rat, 0 ≤ y → ∀ q ∈ y :: r, 0 ≤ q := fun y hy q hq => by
    rcases List.mem_cons.1 hq with h | h
    · subst h; exact hy
    · exact hr q h
  rw [compareF_sg (h1 _ (by grind)) hm, compareF_sg (h1 _ ha) hm, rs_cons hl, rs_cons hl]
  refine sgR_mono ?_
  exact RR.add_le_add_right (RR.add_le_add_right (rt_le ha (by grind)) _) _
theorem compareF_more {a x : Rat} {r : List Rat} (ha : 0 ≤ a) (hx : 0 ≤ x) (hr : ∀ q ∈ r, 0 ≤ q) (hl : r.length ≤ 1) : compareF ((a + x) :: r) (a :: r) = x.num.sign := by
  have h1 : ∀ y : Rat, 0 ≤ y → ∀ q ∈ y :: r, 0 ≤ q := fun y hy q hq => by
    rcases List.mem_cons.1 hq with h | h
    · subst h; exact hy
    · exact hr q h
  rw [compareF_sg (h1 _ (by grind)) (h1 _ ha), rs_cons hl, rs_cons hl]
  have e : rt (a + x) + rt (r.getD 0 0) - (rt a + rt (r.getD 0 0)) = rt (a + x) - rt a := by
    generalize rt (a + x) = x; generalize rt a = y; generalize rt (r.getD 0 0) = z
    obtain ⟨f, hf, rfl⟩ := RR.rep x; obtain ⟨g, hg, rfl⟩ := RR.rep y; obtain ⟨k, hk, rfl⟩ := RR.rep z
    exact RR.ext fun n => by grind
  rw [e, sgR_sq (rt_nn _) (rt_nn _), rt_sq (by grind), rt_sq ha, ← RR.of_sub, show a + x - a = x by grind, sgR_of]
end Go.Proofs.Ytdeihehaheelmaa
namespace Go.Proofs.Ytdeihehaheelmaa
def moreF (s : List FR) (x : FR) : List FR := [FR.of ((s.getD 0 default).val + x.val)] ++ s.drop 1
theorem cmpCode_iff {l m : List FR} : cmpCode l m = 0 ↔ l.length ≤ 2 ∧ m.length ≤ 2 ∧ l.all goodR = true ∧ m.all goodR = true := by
  unfold cmpCode
  by_cases h : 2 < l.length ∨ 2 < m.length
  · rw [if_pos h]; constructor
    · intro h; omega
    · intro h2; omega
  · rw [if_neg h]
    cases h1 : l.all goodR <;> cases h2 : m.all goodR <;> simp <;> omega
theorem cmpCode_swap {l m : List FR} : cmpCode l m = 0 ↔ cmpCode m l = 0 := by rw [cmpCode_iff, cmpCode_iff]; constructor <;> rintro ⟨a, b, c, d⟩ <;> exact ⟨b, a, d, c⟩
theorem cmpRes_bad {l m : List FR} (h : cmpCode l m ≠ 0) : cmpRes l m = 0 := by unfold cmpRes; rw [if_neg h]
theorem goodR_val {r : FR} (h : goodR r = true) : 0 ≤ r.val := by unfold goodR at h; simp at h; exact h.2
theorem good_more {s : List FR} {x : FR} (hs : s.all goodR = true) (h0 : 0 < s.length) (hx : goodR x = true) : (moreF s x).all goodR = true := by
  match s, h0, hs with
  | a :: r, _, hs =>
    simp only [List.all_cons, Bool.and_eq_true] at hs
    show ([FR.of (a.val + x.val)] ++ r).all goodR = true
    simp only [List.cons_append, List.nil_append, List.all_cons, Bool.and_eq_true]
    refine ⟨?_, hs.2⟩
    rw [goodR_of4]
    have h1 := goodR_val hs.1; have h2 := goodR_val hx
    exact decide_eq_true (by grind)
theorem len_more {s : List FR} {x : FR} (h0 : 0 < s.length) : (moreF s x).length = s.length := by unfold moreF; simp; omega
theorem ord_c1 {s t : List FR} {x : FR} (h : cmpCode s t = 0) (h0 : 0 < s.length) (hx : goodR x = true) : cmpCode (moreF s x) t = 0 := by
  rw [cmpCode_iff] at h ⊢; rw [len_more h0]; exact ⟨h.1, h.2.1, good_more h.2.2.1 h0 hx, h.2.2.2⟩
theorem ord_c2 {s t : List FR} {x : FR} (h : cmpCode s t = 0) (h0 : 0 < s.length) (hx : goodR x = true) : cmpCode (moreF s x) s = 0 := by
  rw [cmpCode_iff] at h ⊢; rw [len_more h0]; exact ⟨h.1, h.1, good_more h.2.2.1 h0 hx, h.2.2.1⟩
theorem vals_nn {l : List FR} (h : l.all goodR = true) : ∀ q ∈ l.map FR.val, 0 ≤ q := fun q hq => by
  obtain ⟨r, hr, rfl⟩ := List.mem_map.1 hq
  exact goodR_val (List.all_eq_true.1 h r hr)
theorem ord_neg {s t : List FR} (h : cmpCode s t = 0) : cmpRes s t = -cmpRes t s := by
  have h2 := cmpCode_swap.1 h
  unfold cmpRes; rw [if_pos h, if_pos h2]
  rw [cmpCode_iff] at h
  exact compareF_neg (vals_nn h.2.2.1) (vals_nn h.2.2.2)
theorem cmpRes_bd (s t : List FR) : -1 ≤ cmpRes s t ∧ cmpRes s t ≤ 1 := by
  unfold cmpRes; split
  · rename_i h
    rw [cmpCode_iff] at h
    rw [compareF_sg (vals_nn h.2.2.1) (vals_nn h.2.2.2)]
    rcases sgR_cases (rs (s.map FR.val) - rs (t.map FR.val)) with ⟨_, e⟩ | ⟨_, e⟩ | ⟨_, e⟩ <;> rw [e] <;> decide
  · decide
theorem map_more {s : List FR} {x : FR} : (moreF s x).map FR.val = ((s.getD 0 default).val + x.val) :: (s.map FR.val).drop 1 := by
  unfold moreF; simp [FR.of_val, List.map_drop]
theorem getD_zero {s : List FR} (h0 : 0 < s.length) : (s.map FR.val) = (s.getD 0 default).val :: (s.map FR.val).drop 1 := by
  match s, h0 with
  | a :: r, _ => rfl
theorem ord_ge {s t : List FR} {x : FR} (h : cmpCode s t = 0) (h0 : 0 < s.length) (hx : goodR x = true) : cmpRes (moreF s x) t ≥ cmpRes s t := by
  have h2 := ord_c1 h h0 hx
  unfold cmpRes; rw [if_pos h, if_pos h2, map_more]
  rw [cmpCode_iff] at h
  have hn := vals_nn h.2.2.1
  rw [getD_zero h0] at hn ⊢
  have hl : ((s.map FR.val).drop 1).length ≤ 1 := by simp; omega
  exact compareF_mono (hn _ (List.mem_cons_self ..)) (goodR_val hx) (fun q hq => hn q (List.mem_cons_of_mem _ hq)) hl (vals_nn h.2.2.2)
theorem ord_sg {s t : List FR} {x : FR} (h : cmpCode s t = 0) (h0 : 0 < s.length) (hx : goodR x = true) : cmpRes (moreF s x) s = x.val.num.sign := by
  have h2 := ord_c2 h h0 hx
  unfold cmpRes; rw [if_pos h2, map_more]
  rw [cmpCode_iff] at h
  have hn := vals_nn h.2.2.1
  have e := getD_zero h0
  rw [e] at hn
  have hl : ((s.map FR.val).drop 1).length ≤ 1 := by simp; omega
  rw [e]
  exact compareF_more (hn _ (List.mem_cons_self ..)) (goodR_val hx) (fun q hq => hn q (List.mem_cons_of_mem _ hq)) hl
end Go.Proofs.Ytdeihehaheelmaa
namespace Go.Proofs.Ytdeihehaheelmaa
open Go.RowKit (Below)
section
variable {P : Program} {o : Oper} {a : Act} {w : World} {G : Gh} {τ : MT}
theorem OpR.ixAr {x y : Operand} {t e : TypeId} {b n i : Nat} {m : Int} {k : IntKind} {s : Option Nat} (hok : Gok w G) (ho : o.op = .indexAddr t x y) (ht : P.underlying t = some (.array n e)) (hs : tyS P e s = true)
    (hx : a.eval x = .pointer (some ⟨b, 0, none⟩)) (hy : a.eval y = .int k m) (hm : m = (i : Int)) (hi : i < n) (h : τ.t (.pointer (some ⟨b, i * s.getD 1, none⟩)) G) : OpR P o a w G τ := by
  subst hm
  refine .run hok (v := .pointer (some ⟨b, i * s.getD 1, none⟩)) ?_ h
  simp [execOp, ho, Instr.indexAt, Instr.sureAddr, hx, hy, asIntOf, run_underlying ht, tyS_size hs, addr_add, hi]
theorem OpR.slAr {x : Operand} {t e : TypeId} {b n : Nat} {s : Option Nat} (hok : Gok w G) (ho : o.op = .slice t x none none none) (ht : P.underlying t = some (.array n e)) (hs : tyS P e s = true)
    (hx : a.eval x = .pointer (some ⟨b, 0, none⟩)) (hn : (decide (0 < n)) = true) (h : τ.t (.slice (some ⟨b, 0, none⟩) n n) G) : OpR P o a w G τ := by
  have hn := of_decide_eq_true hn
  refine .run hok (v := .slice (some ⟨b, 0, none⟩) n n) ?_ h
  simp [execOp, ho, Instr.sliceAt, Instr.sureAddr, Instr.sliceBounds, Instr.sliceBound, hx, run_underlying ht, tyS_size hs, addr_add]
end
def ARN (k : Option Nat) (τs : List MT) : MT := ⟨fun v G => ∃ us, v = .agg (flat us).toArray ∧ Els k τs us G, fun hle ⟨us, h1, h2⟩ => ⟨us, h1, h2.mono hle⟩⟩
section
variable {k : Option Nat} {τs : List MT} {v : Value} {G : Gh}
theorem ARN.shaped (h : (ARN k τs).t v G) : Shaped (some (τs.length * k.getD 1)) v := by
  obtain ⟨us, rfl, hE⟩ := h
  exact ⟨_, rfl, by show (flat us).length = _; rw [flat_len hE.sizes, hE.1], flat_one hE.shaped⟩
instance : Shp (ARN k τs) (some (τs.length * k.getD 1)) := ⟨fun {_ _} h => ARN.shaped h⟩
theorem ARN.rows (h : (ARN k τs).t v G) : (ROWS k τs).t v G := by
  obtain ⟨us, rfl, hE⟩ := h
  exact ⟨us, [], by rw [List.append_nil], hE⟩
theorem ROWS.arn {n : Nat} (h : (ROWS k τs).t v G) (hs : Shaped (some n) v) (hn : τs.length * k.getD 1 = n) : (ARN k τs).t v G := by
  obtain ⟨us, r, rfl, hE⟩ := h
  obtain ⟨cs, e1, hsz, _⟩ := hs
  injection e1 with e1
  have : (flat us ++ r).length = n := by rw [← hsz, ← e1]; simp
  rw [List.length_append, flat_len hE.sizes, hE.1, hn] at this
  have hr : r = [] := List.length_eq_zero_iff.1 (by omega)
  subst hr
  exact ⟨us, by rw [List.append_nil], hE⟩
theorem PTS.arn (h : (PTS (τs.map fun τ => (k, τ))).t v G) : (ARN k τs).t v G := by
  obtain ⟨us, rfl, hl, hE⟩ := h
  refine ⟨us, rfl, by simpa using hl, fun i τ u h1 h2 => hE i (k, τ) u (by rw [List.getElem?_map, h1]; rfl) h2⟩
theorem ARN.eqM {α : Type} {T : α → MT} {xs ys : List α} (h : (ARN k (xs.map T)).t v G) (e : xs = ys) : (ARN k (ys.map T)).t v G := e ▸ h
theorem ARN.convM {α β : Type} {T : α → MT} {U : β → MT} {f : α → β} {xs : List α} {ys : List β} (h : (ARN k (xs.map T)).t v G) (e : ys = xs.map f) (hc : ∀ x, x ∈ xs → ∀ v G, (T x).t v G → (U (f x)).t v G) : (ARN k (ys.map U)).t v G := by
  subst e
  obtain ⟨us, rfl, hE⟩ := h
  refine ⟨us, rfl, by rw [hE.1]; simp, fun i τ u h1 h2 => ?_⟩
  rw [List.map_map, List.getElem?_map] at h1
  cases hx : xs[i]? with
  | none => rw [hx] at h1; cases h1
  | some x =>
    rw [hx] at h1; cases h1
    have := hE.2 i (T x) u (by rw [List.getElem?_map, hx]; rfl) h2
    exact ⟨this.1, hc x (List.mem_of_getElem? hx) u G this.2⟩
theorem OpR.ldArr {P : Program} {o : Oper} {a : Act} {w W0 : World} {x : Operand} {t ty : TypeId} {b n : Nat} (hok : Gok w G) (ho : o.op = .load t x) (hx : a.eval x = .pointer (some ⟨b, 0, none⟩)) (hb : BX.ok ⟨b, ty, some n, ROWS k τs⟩ W0 w G) (hT : tyS P t (some n) = true) (hn : τs.length * k.getD 1 = n) : OpR P o a w G (ARN k τs) := by
  obtain ⟨_, _, v, hv, hs, ht⟩ := hb
  exact .run hok (by simp [execOp, ho, hx, Instr.loadAt, Instr.sureAddr, load_whole hT hv hs]) (ROWS.arn ht hs hn)
theorem zero_rows {α : Type} {T : α → MT} {z : Value} {z0 : α} {n : Nat} {cs : Array Value} (hz : Shaped k z) (h : ∀ G, (T z0).t z G) (hcs : cs = (flat (List.replicate n z)).toArray) {v : Value} (hv : v = .agg cs) : (ROWS k ((List.replicate n z0).map T)).t v G := by
  subst hv; subst hcs
  refine ⟨List.replicate n z, [], by rw [List.append_nil], ?_⟩
  rw [List.map_replicate]
  exact Els.replicate n hz (h G)
end
end Go.Proofs.Ytdeihehaheelmaa
namespace Go.Proofs.Ytdeihehaheelmaa
open Go.RowKit (Below)
def surdF (x y d : Rat) : Int :=
  if x.num.sign = 0 ∨ y.num.sign * d.num.sign = 0 ∨ x.num.sign = y.num.sign * d.num.sign then (if x.num.sign = 0 then y.num.sign * d.num.sign else x.num.sign) else x.num.sign * cmpQ (x * x) (y * y * d)
def surdsF (x y d z e : Rat) : Int :=
  if surdF x y d = 0 ∨ z.num.sign * e.num.sign = 0 ∨ surdF x y d = z.num.sign * e.num.sign then (if surdF x y d = 0 then z.num.sign * e.num.sign else surdF x y d) else surdF x y d * surdF (x * x + y * y * d - z * z * e) (2 * (x * y)) d
def sumsF (p q r s : Rat) : Int := surdsF (p + q - (r + s)) 2 (p * q) (-2) (r * s)
theorem surd_mixed {x y d : Rat} : surdF x y d = mixedF x y d := by
  unfold surdF mixedF
  generalize x.num.sign = s; generalize y.num.sign * d.num.sign = t; generalize cmpQ (x * x) (y * y * d) = c
  by_cases h1 : s = 0
  · rw [if_pos (.inl h1), if_pos h1, if_pos (.inl h1)]
  · by_cases h2 : s = t
    · rw [if_pos (.inr (.inr h2)), if_neg h1, if_pos (.inr h2), h2]
    · by_cases h3 : t = 0
      · rw [if_pos (.inr (.inl h3)), if_neg h1, if_neg (by omega), if_pos h3]
      · rw [if_neg (by omega), if_neg (by omega), if_neg h3]
theorem surd_sg {x y d : Rat} (hd : 0 ≤ d) : surdF x y d = sgR (RR.of x + RR.of y * rt d) := by rw [surd_mixed]; exact mixed_sg hd
theorem surds_sg {x y d z e : Rat} (hd : 0 ≤ d) (he : 0 ≤ e) : surdsF x y d z e = sgR (RR.of x + RR.of y * rt d + RR.of z * rt e) := by
  unfold surdsF
  rw [surd_sg hd, surd_sg hd, sgR_add (u := RR.of x + RR.of y * rt d)]
  rw [sgR_mul (RR.of z), sgR_of z, sgR_rt he]
  have hq : (RR.of x + RR.of y * rt d) * (RR.of x + RR.of y * rt d) - RR.of z * rt e * (RR.of z * rt e) = RR.of (x * x + y * y * d - z * z * e) + RR.of (2 * (x * y)) * rt d := by
    have e1 : RR.of (x * x + y * y * d - z * z * e) = RR.of x * RR.of x + RR.of y * RR.of y * (rt d * rt d) - RR.of z * RR.of z * (rt e * rt e) := by
      rw [rt_sq hd, rt_sq he, RR.of_sub, RR.of_add, RR.of_mul, RR.of_mul, RR.of_mul, RR.of_mul, RR.of_mul]
    rw [e1, RR.of_mul, RR.of_mul]
    generalize RR.of x = a; generalize RR.of y = b; generalize rt d = c; generalize RR.of z = f; generalize rt e = g
    obtain ⟨a, ha, rfl⟩ := RR.rep a; obtain ⟨b, hb, rfl⟩ := RR.rep b; obtain ⟨c, hc, rfl⟩ := RR.rep c; obtain ⟨f, hf, rfl⟩ := RR.rep f; obtain ⟨g, hg, rfl⟩ := RR.rep g
    exact RR.ext fun n => by grind
  rw [hq]
  generalize sgR (RR.of x + RR.of y * rt d) = s; generalize z.num.sign * e.num.sign = t; generalize sgR (RR.of (x * x + y * y * d - z * z * e) + RR.of (2 * (x * y)) * rt d) = c
  by_cases h1 : s = 0
  · rw [if_pos (.inl h1), if_pos h1, if_pos (.inl h1)]
  · by_cases h2 : s = t
    · rw [if_pos (.inr (.inr h2)), if_neg h1, if_pos (.inr h2), h2]
    · by_cases h3 : t = 0
      · rw [if_pos (.inr (.inl h3)), if_neg h1, if_neg (by omega), if_pos h3]
      · rw [if_neg (by omega), if_neg (by omega), if_neg h3]
theorem sums_four {p q r s : Rat} (hp : 0 ≤ p) (hq : 0 ≤ q) (hr : 0 ≤ r) (hs : 0 ≤ s) : sumsF p q r s = sgR ((rt p + rt q) - (rt r + rt s)) := by
  unfold sumsF
  rw [← roots_four hp hq hr hs, roots_sg (Rat.mul_nonneg hp hq) (Rat.mul_nonneg hr hs), surds_sg (Rat.mul_nonneg hp hq) (Rat.mul_nonneg hr hs)]
  congr 1
  rw [show RR.of (-2) = -RR.of 2 from rfl, RR.neg_mul, RR.sub_def]
theorem surd_bd (x y d : Rat) : -1 ≤ surdF x y d ∧ surdF x y d ≤ 1 := by
  have h0 := sgn_cases x.num; have h1 := sgn_cases y.num; have h2 := sgn_cases d.num
  have h3 := cmpQ_cases (x * x) (y * y * d)
  unfold surdF
  rcases h0 with ⟨_, e0⟩ | ⟨_, e0⟩ | ⟨_, e0⟩ <;> rcases h1 with ⟨_, e1⟩ | ⟨_, e1⟩ | ⟨_, e1⟩ <;> rcases h2 with ⟨_, e2⟩ | ⟨_, e2⟩ | ⟨_, e2⟩ <;> rcases h3 with e3 | e3 | e3 <;> rw [e0, e1, e2, e3] <;> decide
theorem surd_mul_bd (x y d x' y' d' : Rat) : -9223372036854775808 ≤ surdF x y d * surdF x' y' d' ∧ surdF x y d * surdF x' y' d' ≤ 9223372036854775807 := by
  have h1 := surd_bd x y d; have h2 := surd_bd x' y' d'
  generalize surdF x y d = u at *; generalize surdF x' y' d' = v at *
  have : (u = -1 ∨ u = 0 ∨ u = 1) := by omega
  rcases this with h | h | h <;> subst h <;> omega
def pad2 (l : List FR) : List FR := l ++ List.replicate (2 - l.length) default
def stF (l m : List FR) (k j : Nat) : List FR := if k = 0 then pad2 (l.take j) ++ pad2 [] else if k = 1 then pad2 l ++ pad2 (m.take j) else pad2 l ++ pad2 m
theorem len2 {l : List FR} (h : l.length ≤ 2) : l = [] ∨ (∃ a, l = [a]) ∨ ∃ a b, l = [a, b] := by
  match l, h with
  | [], _ => exact .inl rfl
  | [a], _ => exact .inr (.inl ⟨a, rfl⟩)
  | [a, b], _ => exact .inr (.inr ⟨a, b, rfl⟩)
theorem st_step {l m : List FR} {k j : Nat} (hl : l.length ≤ 2) (hm : m.length ≤ 2) (hk : k < 2) (hj : j < ([l, m].getD k default).length) : (stF l m k j).set (2 * k + j) (([l, m].getD k default).getD j default) = stF l m k (j + 1) := by
  match k, hk with
  | 0, _ =>
    rcases len2 hl with rfl | ⟨a, rfl⟩ | ⟨a, b, rfl⟩
    · exact absurd hj (Nat.not_lt_zero _)
    · match j, hj with
      | 0, _ => rfl
    · match j, hj with
      | 0, _ => rfl
      | 1, _ => rfl
  | 1, _ =>
    have hj' : j < m.length := hj
    rcases len2 hl with rfl | ⟨a, rfl⟩ | ⟨a, b, rfl⟩ <;> rcases len2 hm with rfl | ⟨c, rfl⟩ | ⟨c, d, rfl⟩ <;> rcases (by omega : j = 0 ∨ j = 1) with rfl | rfl <;> first | rfl | exact absurd hj' (by simp)
theorem st_next {l m : List FR} {k j : Nat} (hk : k < 2) (hj : ¬ j < ([l, m].getD k default).length) : stF l m k j = stF l m (k + 1) 0 := by
  match k, hk with
  | 0, _ =>
    have hj : ¬ j < l.length := hj
    show pad2 (l.take j) ++ pad2 [] = pad2 l ++ pad2 (m.take 0)
    rw [List.take_of_length_le (by omega)]; rfl
  | 1, _ =>
    have hj : ¬ j < m.length := hj
    show pad2 l ++ pad2 (m.take j) = pad2 l ++ pad2 m
    rw [List.take_of_length_le (by omega)]
theorem pad2_len {l : List FR} (h : l.length ≤ 2) : (pad2 l).length = 2 := by unfold pad2; simp; omega
theorem st_len {l m : List FR} {k j : Nat} (hl : l.length ≤ 2) (hm : m.length ≤ 2) : (stF l m k j).length = 4 := by
  have h1 := pad2_len hl; have h2 := pad2_len hm; have h3 := pad2_len (l := []) (by simp)
  have h4 := pad2_len (l := l.take j) (by simp; omega); have h5 := pad2_len (l := m.take j) (by simp; omega)
  unfold stF; split
  · simp [h3, h4]
  · split <;> simp [h1, h2, h5]
def refRes (l m : List FR) : Int := if cmpCode l m = 0 then sumsF ((pairF (l.map FR.val)).getD 0 default) ((pairF (l.map FR.val)).getD 1 default) ((pairF (m.map FR.val)).getD 0 default) ((pairF (m.map FR.val)).getD 1 default) else 0
theorem val_default : (default : FR).val = 0 := by
  show qval false [] [] = 0; simp [qval]
theorem st_end {l m : List FR} {k : Nat} (hl : l.length ≤ 2) (hm : m.length ≤ 2) (hk : ¬ k < 2) (h : cmpCode l m = 0) : sumsF ((stF l m k 0).getD 0 default).val ((stF l m k 0).getD 1 default).val ((stF l m k 0).getD 2 default).val ((stF l m k 0).getD 3 default).val = refRes l m := by
  unfold refRes; rw [if_pos h]
  have e : stF l m k 0 = pad2 l ++ pad2 m := by unfold stF; rw [if_neg (by omega), if_neg (by omega)]
  rw [e]
  have v0 := val_default
  rcases len2 hl with rfl | ⟨a, rfl⟩ | ⟨a, b, rfl⟩ <;> rcases len2 hm with rfl | ⟨c, rfl⟩ | ⟨c, d, rfl⟩ <;> simp [pad2, pairF, List.replicate, v0]
theorem ref_eq (l m : List FR) : cmpRes l m = refRes l m := by
  unfold cmpRes refRes
  by_cases h : cmpCode l m = 0
  · rw [if_pos h, if_pos h]
    rw [cmpCode_iff] at h
    have h1 := vals_nn h.2.2.1; have h2 := vals_nn h.2.2.2
    rw [compareF_sg h1 h2, sums_four (pairF_nn h1 0) (pairF_nn h1 1) (pairF_nn h2 0) (pairF_nn h2 1)]
    rfl
  · rw [if_neg h, if_neg h]
theorem refRes_bad {l m : List FR} (h : cmpCode l m ≠ 0) : refRes l m = 0 := by unfold refRes; rw [if_neg h]
end Go.Proofs.Ytdeihehaheelmaa
namespace Go.Proofs.Ytdeihehaheelmaa
open Go.RowKit (Below)
theorem quad_toFX {a b c d : FR} {v : Value} {G : Gh} (h : (PTS [(some 3, RX a), (some 3, RX b), (some 3, RX c), (some 3, RX d)]).t v G) (hs : shortF [a, b, c, d] = true) : (PTS [(some 3, FX 64 a), (some 3, FX 64 b), (some 3, FX 64 c), (some 3, FX 64 d)]).t v G := by
  unfold shortF at hs; simp at hs
  obtain ⟨us, e, hl, hE⟩ := h
  refine ⟨us, e, hl, fun i f u hf hu => ?_⟩
  match i, hf with
  | 0, hf => cases hf; have := hE 0 _ u rfl hu; exact ⟨this.1, RX.toFX this.2 hs.1⟩
  | 1, hf => cases hf; have := hE 1 _ u rfl hu; exact ⟨this.1, RX.toFX this.2 hs.2.1⟩
  | 2, hf => cases hf; have := hE 2 _ u rfl hu; exact ⟨this.1, RX.toFX this.2 hs.2.2.1⟩
  | 3, hf => cases hf; have := hE 3 _ u rfl hu; exact ⟨this.1, RX.toFX this.2 hs.2.2.2⟩
def scF (l : List FR) (c : Rat) : List FR := l.map fun r => FR.of (r.val * c)
theorem rt_c {c : Rat} (hc : 0 ≤ c) : rt (c * c) = RR.of c := rt_eq (rt_nn _) (RR.of_le (p := 0) |>.2 hc) (by rw [rt_sq (Rat.mul_nonneg hc hc), RR.of_mul])
theorem rt_cc {c d : Rat} (hc : 0 ≤ c) (hd : 0 ≤ d) : rt (d * (c * c)) = RR.of c * rt d := by rw [rt_mul hd (Rat.mul_nonneg hc hc), rt_c hc, RR.mul_comm]
theorem sgR_k {k : Rat} (hk : 0 < k) (x : RR) : sgR (RR.of k * x) = sgR x := by rw [sgR_mul, sgR_pos (RR.of_lt (p := 0) |>.2 hk), Int.one_mul]
theorem mixed_sc1 {x y d c : Rat} (hc : 0 < c) (hd : 0 ≤ d) : mixedF (x * c) y (d * (c * c)) = mixedF x y d := by
  have h0 : 0 ≤ c := by grind
  rw [mixed_sg hd, mixed_sg (Rat.mul_nonneg hd (Rat.mul_nonneg h0 h0)), rt_cc h0 hd, ← sgR_k hc (RR.of x + RR.of y * rt d), RR.of_mul]
  congr 1
  generalize RR.of x = a; generalize RR.of y = b; generalize rt d = e; generalize RR.of c = f
  obtain ⟨a, ha, rfl⟩ := RR.rep a; obtain ⟨b, hb, rfl⟩ := RR.rep b; obtain ⟨e, he, rfl⟩ := RR.rep e; obtain ⟨f, hf, rfl⟩ := RR.rep f
  exact RR.ext fun n => by grind
theorem mixed_sc2 {x y d c : Rat} (hc : 0 < c) (hd : 0 ≤ d) : mixedF (x * (c * c)) (y * c) (d * (c * c)) = mixedF x y d := by
  have h0 : 0 ≤ c := by grind
  rw [mixed_sg hd, mixed_sg (Rat.mul_nonneg hd (Rat.mul_nonneg h0 h0)), rt_cc h0 hd, ← sgR_k (Rat.mul_pos hc hc) (RR.of x + RR.of y * rt d)]
  simp only [RR.of_mul]
  congr 1
  generalize RR.of x = a; generalize RR.of y = b; generalize rt d = e; generalize RR.of c = f
  obtain ⟨a, ha, rfl⟩ := RR.rep a; obtain ⟨b, hb, rfl⟩ := RR.rep b; obtain ⟨e, he, rfl⟩ := RR.rep e; obtain ⟨f, hf, rfl⟩ := RR.rep f
  exact RR.ext fun n => by grind
theorem closes_sc {p q r s c : Rat} (hc : 0 < c) (hq : 0 ≤ q) (hr : 0 ≤ r) : closesF (p * c) (q * c) (r * c) (s * c) = closesF p q r s := by
  have hd := Rat.mul_nonneg hq hr
  unfold closesF
  have e1 : q * c + r * c - (p * c + s * c) = (q + r - (p + s)) * c := by grind
  have e2 : q * c * (r * c) = q * r * (c * c) := by grind
  have e3 : p * c * (s * c) = p * s * (c * c) := by grind
  rw [e1, e2, e3]
  have e4 : (q + r - (p + s)) * c * ((q + r - (p + s)) * c) + 4 * (q * r * (c * c)) - 4 * (p * s * (c * c)) = ((q + r - (p + s)) * (q + r - (p + s)) + 4 * (q * r) - 4 * (p * s)) * (c * c) := by grind
  have e5 : 4 * ((q + r - (p + s)) * c) = 4 * (q + r - (p + s)) * c := by grind
  rw [e4, e5, mixed_sc1 hc hd, mixed_sc2 hc hd]
theorem compare_sc {p q r s c : Rat} (hc : 0 < c) (hp : 0 ≤ p) (hq : 0 ≤ q) (hr : 0 ≤ r) (hs : 0 ≤ s) : compareF [p * c, q * c] [r * c, s * c] = compareF [p, q] [r, s] := by
  have h0 : 0 ≤ c := by grind
  show rootsF (p * c + q * c - (r * c + s * c)) (p * c * (q * c)) (r * c * (s * c)) = rootsF (p + q - (r + s)) (p * q) (r * s)
  rw [roots_four hp hq hr hs, roots_four (Rat.mul_nonneg hp h0) (Rat.mul_nonneg hq h0) (Rat.mul_nonneg hr h0) (Rat.mul_nonneg hs h0), rt_mul hp h0, rt_mul hq h0, rt_mul hr h0, rt_mul hs h0]
  have e : rt p * rt c + rt q * rt c - (rt r * rt c + rt s * rt c) = rt c * (rt p + rt q - (rt r + rt s)) := by
    generalize rt p = a; generalize rt q = b; generalize rt r = d; generalize rt s = e; generalize rt c = f
    obtain ⟨a, ha, rfl⟩ := RR.rep a; obtain ⟨b, hb, rfl⟩ := RR.rep b; obtain ⟨d, hd, rfl⟩ := RR.rep d; obtain ⟨e, he, rfl⟩ := RR.rep e; obtain ⟨f, hf, rfl⟩ := RR.rep f
    exact RR.ext fun n => by grind
  rw [e, sgR_mul, sgR_rt h0]
  have : c.num.sign = 1 := by
    have := rat_pos_iff.1 hc
    have := sgn_cases c.num; omega
  rw [this, Int.one_mul]
theorem rmul_lt_iff {a b c : Rat} (hc : 0 < c) : a * c < b * c ↔ a < b := by
  constructor
  · intro h
    refine Classical.byContradiction fun h2 => ?_
    have h3 : b ≤ a := by grind
    have := Rat.mul_le_mul_of_nonneg_right h3 (show 0 ≤ c by grind)
    grind
  · intro h; exact Rat.mul_lt_mul_of_pos_right h hc
theorem cmp_sc {a b c : Rat} (hc : 0 < c) : cmpQ (a * c) (b * c) = cmpQ a b := by unfold cmpQ; simp only [rmul_lt_iff hc]
theorem max_sc {a b c : Rat} (hc : 0 < c) : maxQ (a * c) (b * c) = maxQ a b * c := by
  unfold maxQ
  have h1 := @rmul_lt_iff a b c hc
  by_cases h : b ≤ a
  · rw [if_pos h, if_pos (by grind)]
  · rw [if_neg h, if_neg (by grind)]
theorem min_sc {a b c : Rat} (hc : 0 < c) : minQ (a * c) (b * c) = minQ a b * c := by
  unfold minQ
  have h1 := @rmul_lt_iff b a c hc
  by_cases h : a ≤ b
  · rw [if_pos h, if_pos (by grind)]
  · rw [if_neg h, if_neg (by grind)]
theorem getD_sc {xs : List Rat} {c : Rat} {j : Nat} : (xs.map (· * c)).getD j default = xs.getD j default * c := by
  rw [List.getD_eq_getElem?_getD, List.getD_eq_getElem?_getD, List.getElem?_map]
  cases xs[j]? with
  | none => show (0 : Rat) = 0 * c; grind
  | some z => rfl
theorem ins_sc {xs : List Rat} {c : Rat} (hc : 0 < c) (k : Nat) (o : List Nat) : insF (xs.map (· * c)) k o = insF xs k o := by
  induction k generalizing o with
  | zero => rfl
  | succ k ih => unfold insF; rw [getD_sc, getD_sc, cmp_sc hc, ih]
theorem ord_sc {xs : List Rat} {c : Rat} (hc : 0 < c) (i n : Nat) (o : List Nat) : ordF (xs.map (· * c)) i o n = ordF xs i o n := by
  induction n generalizing i o with
  | zero => rfl
  | succ n ih => unfold ordF; rw [ins_sc hc, ih]
theorem order_sc {xs : List Rat} {c : Rat} (hc : 0 < c) : orderF (xs.map (· * c)) = orderF xs := ord_sc hc _ _ _
theorem vals_sc {l : List FR} {c : Rat} : (scF l c).map FR.val = (l.map FR.val).map (· * c) := by
  unfold scF; rw [List.map_map, List.map_map]; exact List.map_congr_left fun r _ => FR.of_val _
theorem val_sc {l : List FR} {c : Rat} (j : Nat) : ((scF l c).getD j default).val = (l.getD j default).val * c := by
  unfold scF
  rw [List.getD_eq_getElem?_getD, List.getD_eq_getElem?_getD, List.getElem?_map]
  cases l[j]? with
  | none => show (default : FR).val = (default : FR).val * c; rw [val_default]; grind
  | some z => exact FR.of_val _
theorem lk_sc {l : List FR} {c : Rat} (hc : 0 < c) (j : Nat) : lk (scF l c) j = lk l j * c := by
  unfold lk; rw [vals_sc, order_sc hc, val_sc]
theorem posR_val {r : FR} (h : posR r = true) : 0 < r.val := by unfold posR at h; simp at h; exact h.2
theorem vals_pos {l : List FR} (h : l.all posR = true) (j : Nat) : 0 ≤ (l.getD j default).val := by
  rw [List.getD_eq_getElem?_getD]
  cases hj : l[j]? with
  | none => show 0 ≤ (default : FR).val; rw [val_default]; exact Rat.le_refl
  | some z => have := posR_val (List.all_eq_true.1 h z (List.mem_of_getElem? hj)); show 0 ≤ z.val; grind
theorem lk_nn {l : List FR} (h : l.all posR = true) (j : Nat) : 0 ≤ lk l j := vals_pos h _
theorem chk_pos {l : List FR} (h : chkF l = 0) : l.all posR = true := by
  unfold chkF at h
  cases hp : l.all posR with
  | true => rfl
  | false => rw [hp, if_neg (by decide)] at h; exact absurd h (by decide)
theorem pos_sc {l : List FR} {c : Rat} (hc : 0 < c) (h : l.all posR = true) : (scF l c).all posR = true := by
  unfold scF
  rw [List.all_map, List.all_eq_true]
  intro r hr
  show posR (FR.of (r.val * c)) = true
  rw [posR_of4]
  exact decide_eq_true (Rat.mul_pos (posR_val (List.all_eq_true.1 h r hr)) hc)
theorem chk_sc {l : List FR} {c : Rat} (hc : 0 < c) (h : chkF l = 0) : chkF (scF l c) = 0 := by
  have hp := chk_pos h
  unfold chkF at h ⊢
  rw [pos_sc hc hp]
  rw [hp] at h
  simp only [lk_sc hc]
  rw [closes_sc hc (lk_nn hp 0) (lk_nn hp 1)]
  exact h
theorem exc_sc {l : List FR} {c : Rat} (hc : 0 < c) (h : l.all posR = true) : excF (scF l c) = excF l := by
  unfold excF
  simp only [lk_sc hc]
  exact compare_sc hc (lk_nn h 0) (lk_nn h 3) (lk_nn h 1) (lk_nn h 2)
theorem cls_sc {l : List FR} {c : Rat} (hc : 0 < c) (h : chkF l = 0) : clsF (scF l c) = clsF l := by
  unfold clsF
  rw [chk_sc hc h, h, exc_sc hc (chk_pos h), vals_sc, order_sc hc]
theorem max_nn {a b : Rat} (ha : 0 ≤ a) (hb : 0 ≤ b) : 0 ≤ maxQ a b := by unfold maxQ; split <;> assumption
theorem min_nn {a b : Rat} (ha : 0 ≤ a) (hb : 0 ≤ b) : 0 ≤ minQ a b := by unfold minQ; split <;> assumption
theorem rot_sc {l : List FR} {c : Rat} (hc : 0 < c) (h : chkF l = 0) (k : Int) : rotF (scF l c) k = rotF l k ∧ rotCode (scF l c) k = rotCode l k := by
  have hp := chk_pos h
  have e : rotCode (scF l c) k = rotCode l k := by unfold rotCode; rw [chk_sc hc h, h]
  refine ⟨?_, e⟩
  unfold rotF; rw [e]
  congr 1
  unfold rotL
  simp only [val_sc, max_sc hc, min_sc hc]
  rw [compare_sc hc (vals_pos hp _) (vals_pos hp _) (vals_pos hp _) (vals_pos hp _), compare_sc hc (max_nn (vals_pos hp _) (vals_pos hp _)) (min_nn (vals_pos hp _) (vals_pos hp _)) (min_nn (vals_pos hp _) (vals_pos hp _)) (max_nn (vals_pos hp _) (vals_pos hp _))]
theorem sgn_pos_of {q : Rat} (h : ¬ q.num.sign ≤ 0) : 0 < q := by rw [rat_pos_iff]; have := sgn_cases q.num; omega
theorem rot_in {l : List FR} {i : Nat} (h : chkF l = 0) (hi : i < 4) : rotCode l ((i : Nat) : Int) = 0 := rotC_ok (by omega) (by omega)
end Go.Proofs.Ytdeihehaheelmaa
namespace Go.Proofs.Ytdeihehaheelmaa
open Go.RowKit (Below)
def befR (xs : List Rat) (p q : Nat) : Prop := if p < q then xs.getD p default ≤ xs.getD q default else xs.getD p default < xs.getD q default
theorem cmpQ_lt0 {x y : Rat} : cmpQ x y < 0 ↔ x < y := by unfold cmpQ; split <;> (try split) <;> simp_all
section
variable {xs : List Rat} {p q i j k m : Nat}
theorem bef_t (hpq : q < p) (h : cmpQ (xs.getD p default) (xs.getD q default) < 0) : befR xs p q := by unfold befR; rw [if_neg (by omega)]; exact cmpQ_lt0.1 h
theorem bef_f (hpq : q < p) (h : ¬ cmpQ (xs.getD p default) (xs.getD q default) < 0) : befR xs q p := by unfold befR; rw [if_pos hpq]; rw [cmpQ_lt0] at h; exact Rat.not_lt.1 h
theorem ins1 : insF xs 1 [i, j, k, m] = if cmpQ (xs.getD j default) (xs.getD i default) < 0 then [j, i, k, m] else [i, j, k, m] := rfl
theorem ins2 : insF xs 2 [i, j, k, m] = if cmpQ (xs.getD k default) (xs.getD j default) < 0 then insF xs 1 [i, k, j, m] else [i, j, k, m] := rfl
theorem ins3 : insF xs 3 [i, j, k, m] = if cmpQ (xs.getD m default) (xs.getD k default) < 0 then insF xs 2 [i, j, m, k] else [i, j, k, m] := rfl
theorem ins1_spec (hj : i < j) : (insF xs 1 [i, j, k, m] = [j, i, k, m] ∧ befR xs j i) ∨ (insF xs 1 [i, j, k, m] = [i, j, k, m] ∧ befR xs i j) := by
  rw [ins1]; split
  · exact .inl ⟨rfl, bef_t hj ‹_›⟩
  · exact .inr ⟨rfl, bef_f hj ‹_›⟩
theorem ins2_spec (hi : i < k) (hj : j < k) (h : befR xs i j) : (insF xs 2 [i, j, k, m] = [k, i, j, m] ∧ befR xs k i ∧ befR xs i j) ∨ (insF xs 2 [i, j, k, m] = [i, k, j, m] ∧ befR xs i k ∧ befR xs k j) ∨ (insF xs 2 [i, j, k, m] = [i, j, k, m] ∧ befR xs i j ∧ befR xs j k) := by
  rw [ins2]; split
  · rename_i h1
    rcases ins1_spec (xs := xs) (k := j) (m := m) hi with ⟨e, b⟩ | ⟨e, b⟩
    · exact .inl ⟨e, b, h⟩
    · exact .inr (.inl ⟨e, b, bef_t hj h1⟩)
  · exact .inr (.inr ⟨rfl, h, bef_f hj ‹_›⟩)
theorem ins3_spec (hi : i < m) (hj : j < m) (hk : k < m) (h1 : befR xs i j) (h2 : befR xs j k) : (insF xs 3 [i, j, k, m] = [m, i, j, k] ∧ befR xs m i ∧ befR xs i j ∧ befR xs j k) ∨ (insF xs 3 [i, j, k, m] = [i, m, j, k] ∧ befR xs i m ∧ befR xs m j ∧ befR xs j k) ∨
    (insF xs 3 [i, j, k, m] = [i, j, m, k] ∧ befR xs i j ∧ befR xs j m ∧ befR xs m k) ∨ (insF xs 3 [i, j, k, m] = [i, j, k, m] ∧ befR xs i j ∧ befR xs j k ∧ befR xs k m) := by
  rw [ins3]; split
  · rename_i h
    rcases ins2_spec (xs := xs) (m := k) hi hj h1 with ⟨e, b1, b2⟩ | ⟨e, b1, b2⟩ | ⟨e, b1, b2⟩
    · exact .inl ⟨e, b1, b2, h2⟩
    · exact .inr (.inl ⟨e, b1, b2, h2⟩)
    · exact .inr (.inr (.inl ⟨e, b1, b2, bef_t hk h⟩))
  · exact .inr (.inr (.inr ⟨rfl, h1, h2, bef_f hk ‹_›⟩))
end
def ordO (xs : List Rat) (o : List Nat) : Prop := ∃ i j k m, o = [i, j, k, m] ∧ [i, j, k, m].Perm [0, 1, 2, 3] ∧ befR xs i j ∧ befR xs j k ∧ befR xs k m
theorem order_ok (xs : List Rat) : ordO xs (orderF xs) := by
  have e : orderF xs = insF xs 3 (insF xs 2 (insF xs 1 [0, 1, 2, 3])) := rfl
  rw [e]
  rcases ins1_spec (xs := xs) (i := 0) (j := 1) (k := 2) (m := 3) (by decide) with ⟨e1, b1⟩ | ⟨e1, b1⟩ <;> rw [e1]
  · rcases ins2_spec (xs := xs) (i := 1) (j := 0) (k := 2) (m := 3) (by decide) (by decide) b1 with ⟨e2, c1, c2⟩ | ⟨e2, c1, c2⟩ | ⟨e2, c1, c2⟩ <;> rw [e2]
    all_goals rcases ins3_spec (xs := xs) (m := 3) (by decide) (by decide) (by decide) c1 c2 with ⟨e3, d1, d2, d3⟩ | ⟨e3, d1, d2, d3⟩ | ⟨e3, d1, d2, d3⟩ | ⟨e3, d1, d2, d3⟩ <;> exact ⟨_, _, _, _, e3, by decide, d1, d2, d3⟩
  · rcases ins2_spec (xs := xs) (i := 0) (j := 1) (k := 2) (m := 3) (by decide) (by decide) b1 with ⟨e2, c1, c2⟩ | ⟨e2, c1, c2⟩ | ⟨e2, c1, c2⟩ <;> rw [e2]
    all_goals rcases ins3_spec (xs := xs) (m := 3) (by decide) (by decide) (by decide) c1 c2 with ⟨e3, d1, d2, d3⟩ | ⟨e3, d1, d2, d3⟩ | ⟨e3, d1, d2, d3⟩ | ⟨e3, d1, d2, d3⟩ <;> exact ⟨_, _, _, _, e3, by decide, d1, d2, d3⟩
theorem bef_le {xs : List Rat} {p q : Nat} (h : befR xs p q) : xs.getD p default ≤ xs.getD q default := by
  unfold befR at h; split at h
  · exact h
  · grind
theorem bef_trans {xs : List Rat} {p q r : Nat} (h : befR xs p q) (k : befR xs q r) : befR xs p r := by
  unfold befR at *
  split at h <;> split at k <;> split <;> first | grind | omega
theorem bef_asymm {xs : List Rat} {p q : Nat} (h : befR xs p q) (k : befR xs q p) : False := by
  unfold befR at *
  split at h <;> split at k <;> first | grind | omega
theorem ordO_uniq {xs : List Rat} {o o' : List Nat} (h : ordO xs o) (h' : ordO xs o') : o = o' := by
  obtain ⟨i, j, k, m, rfl, hp, b1, b2, b3⟩ := h
  obtain ⟨i', j', k', m', rfl, hp', c1, c2, c3⟩ := h'
  have hperm := hp.trans hp'.symm
  have hs : ∀ {i j k m : Nat}, befR xs i j → befR xs j k → befR xs k m → [i, j, k, m].Pairwise (befR xs) := fun b1 b2 b3 => by
    simp only [List.pairwise_cons, List.mem_cons, List.not_mem_nil, or_false, forall_eq_or_imp, forall_eq, List.Pairwise.nil, and_true]
    exact ⟨⟨b1, bef_trans b1 b2, bef_trans (bef_trans b1 b2) b3⟩, ⟨b2, bef_trans b2 b3⟩, b3, by simp⟩
  exact hperm.eq_of_pairwise (le := befR xs) (fun a b _ _ h k => (bef_asymm h k).elim) (hs b1 b2 b3) (hs c1 c2 c3)
end Go.Proofs.Ytdeihehaheelmaa
namespace Go.Proofs.Ytdeihehaheelmaa
open Go.RowKit (Below)
theorem RR.add_le_add {a b c d : RR} (h : a ≤ b) (k : c ≤ d) : a + c ≤ b + d := by
  refine RR.le_trans (RR.add_le_add_right h c) ?_
  rw [RR.add_comm b c, RR.add_comm b d]; exact RR.add_le_add_right k b
theorem sgR_le {x y : RR} : sgR (x - y) ≤ 0 ↔ x ≤ y := by
  rcases sgR_cases (x - y) with ⟨h, e⟩ | ⟨h, e⟩ | ⟨h, e⟩ <;> rw [e]
  · refine ⟨fun _ => RR.le_of_lt (RR.lt_iff_sub.2 ?_), fun _ => by decide⟩
    rw [← RR.neg_sub]; exact RR.neg_pos.2 h
  · refine ⟨fun _ => ?_, fun _ => by decide⟩
    rw [← RR.sub_add x y, h, RR.zero_add]; exact RR.le_refl _
  · refine ⟨fun h2 => absurd h2 (by decide), fun h2 => ?_⟩
    have h3 : y < x := RR.lt_iff_sub.2 h
    exact absurd h2 h3
theorem sgR_ge {x y : RR} : sgR (x - y) ≥ 0 ↔ y ≤ x := by
  rw [← RR.neg_sub, sgR_negate]
  have := @sgR_le y x
  constructor
  · intro h; exact this.1 (by omega)
  · intro h; have := this.2 h; omega
section
variable {a b c d s p q m : Rat}
theorem cmp4 (ha : 0 ≤ a) (hb : 0 ≤ b) (hc : 0 ≤ c) (hd : 0 ≤ d) : compareF [a, b] [c, d] = sgR ((rt a + rt b) - (rt c + rt d)) := roots_four ha hb hc hd
def rotQ (a b c d : Rat) : Prop := compareF [a, b] [c, d] ≤ 0 ∧ compareF [maxQ a b, minQ c d] [minQ a b, maxQ c d] ≥ 0
theorem max_comm : maxQ a b = maxQ b a := by unfold maxQ; split <;> split <;> grind
theorem min_comm : minQ a b = minQ b a := by unfold minQ; split <;> split <;> grind
theorem max_le (h : a ≤ b) : maxQ a b = b := by unfold maxQ; split <;> grind
theorem min_le (h : a ≤ b) : minQ a b = a := by unfold minQ; rw [if_pos h]
theorem rotQ_iff (ha : 0 ≤ a) (hb : 0 ≤ b) (hc : 0 ≤ c) (hd : 0 ≤ d) (hab : a ≤ b) (hcd : c ≤ d) : rotQ a b c d ↔ rt a + rt b ≤ rt c + rt d ∧ rt a + rt d ≤ rt b + rt c := by
  unfold rotQ
  rw [max_le hab, min_le hab, max_le hcd, min_le hcd, cmp4 ha hb hc hd, cmp4 hb hc ha hd, sgR_le, sgR_ge]
theorem rotQ_swap1 (ha : 0 ≤ a) (hb : 0 ≤ b) (hc : 0 ≤ c) (hd : 0 ≤ d) : rotQ a b c d ↔ rotQ b a c d := by
  unfold rotQ
  rw [max_comm (a := b) (b := a), min_comm (a := b) (b := a), cmp4 ha hb hc hd, cmp4 hb ha hc hd, RR.add_comm (rt b)]
theorem rotQ_swap2 (ha : 0 ≤ a) (hb : 0 ≤ b) (hc : 0 ≤ c) (hd : 0 ≤ d) : rotQ a b c d ↔ rotQ a b d c := by
  unfold rotQ
  rw [max_comm (a := d) (b := c), min_comm (a := d) (b := c), cmp4 ha hb hc hd, cmp4 ha hb hd hc, RR.add_comm (rt d)]
variable (h0 : 0 ≤ s) (h1 : s ≤ p) (h2 : p ≤ q) (h3 : q ≤ m)
include h0 h1 h2 h3
theorem exc_le : compareF [s, m] [p, q] ≤ 0 ↔ rt s + rt m ≤ rt p + rt q := by
  rw [cmp4 h0 (by grind) (by grind) (by grind), sgR_le]
theorem exc_ne (h : rt s + rt m ≤ rt p + rt q) (k : rt p + rt q ≤ rt s + rt m) : compareF [s, m] [p, q] = 0 := by
  rw [cmp4 h0 (by grind) (by grind) (by grind), RR.le_antisymm h k, RR.sub_self, sgR_zero]
theorem rot_sp : rotQ s p q m ↔ compareF [s, m] [p, q] ≤ 0 := by
  rw [exc_le h0 h1 h2 h3, rotQ_iff h0 (by grind) (by grind) (by grind) h1 h3]
  exact ⟨fun h => h.2, fun h => ⟨RR.add_le_add (rt_le h0 (by grind)) (rt_le (by grind) (by grind)), h⟩⟩
theorem rot_sq : rotQ s q p m ↔ compareF [s, m] [p, q] ≤ 0 := by
  rw [exc_le h0 h1 h2 h3, rotQ_iff h0 (by grind) (by grind) (by grind) (by grind) (by grind), RR.add_comm (rt q) (rt p)]
  exact ⟨fun h => h.2, fun h => ⟨RR.add_le_add (rt_le h0 h1) (rt_le (by grind) h3), h⟩⟩
theorem rot_sm : rotQ s m p q ↔ compareF [s, m] [p, q] ≤ 0 := by
  rw [exc_le h0 h1 h2 h3, rotQ_iff h0 (by grind) (by grind) (by grind) (by grind) h2]
  refine ⟨fun h => h.1, fun h => ⟨h, ?_⟩⟩
  rw [RR.add_comm (rt m)]; exact RR.add_le_add (rt_le h0 h1) (rt_le (by grind) h3)
theorem rot_pq (h : rotQ p q s m) : compareF [s, m] [p, q] = 0 := by
  rw [rotQ_iff (by grind) (by grind) h0 (by grind) h2 (by grind)] at h
  have hS := rt_le h0 h1; have hQ := rt_le (show 0 ≤ q by grind) h3
  have h4 : rt p + rt m ≤ rt q + rt s := h.2
  refine exc_ne h0 h1 h2 h3 (RR.le_trans (RR.add_le_add hS (RR.le_refl (rt m))) (RR.le_trans h4 ?_)) h.1
  rw [RR.add_comm (rt p)]; exact RR.add_le_add (RR.le_refl _) hS
theorem rot_pm (h : rotQ p m s q) : compareF [s, m] [p, q] = 0 := by
  rw [rotQ_iff (by grind) (by grind) h0 (by grind) (by grind) (by grind)] at h
  have hS := rt_le h0 h1; have hQ := rt_le (show 0 ≤ q by grind) h3
  exact exc_ne h0 h1 h2 h3 (RR.le_trans (RR.add_le_add hS (RR.le_refl (rt m))) (RR.le_trans h.1 (RR.add_le_add hS (RR.le_refl _)))) (RR.le_trans (RR.add_le_add (RR.le_refl (rt p)) hQ) (RR.le_trans h.1 (RR.add_le_add (RR.le_refl _) hQ)))
theorem rot_qm (h : rotQ q m s p) : compareF [s, m] [p, q] = 0 := by
  rw [rotQ_iff (by grind) (by grind) h0 (by grind) h3 h1] at h
  have hS := rt_le h0 (show s ≤ q by grind); have hP := rt_le (show 0 ≤ p by grind) (show p ≤ m by grind)
  refine exc_ne h0 h1 h2 h3 (RR.le_trans (RR.add_le_add hS (RR.le_refl (rt m))) (RR.le_trans h.1 ?_)) ?_
  · rw [RR.add_comm (rt p)]; exact RR.add_le_add hS (RR.le_refl _)
  · rw [RR.add_comm (rt p)]; exact RR.le_trans (RR.add_le_add (RR.le_refl (rt q)) hP) (RR.le_trans h.1 (RR.add_le_add (RR.le_refl _) hP))
end
end Go.Proofs.Ytdeihehaheelmaa
namespace Go.Proofs.Ytdeihehaheelmaa
open Go.RowKit (Below)
def perms4 : List (List Nat) := [[0, 1, 2, 3], [0, 1, 3, 2], [0, 2, 1, 3], [0, 2, 3, 1], [0, 3, 1, 2], [0, 3, 2, 1], [1, 0, 2, 3], [1, 0, 3, 2], [1, 2, 0, 3], [1, 2, 3, 0], [1, 3, 0, 2], [1, 3, 2, 0], [2, 0, 1, 3], [2, 0, 3, 1], [2, 1, 0, 3], [2, 1, 3, 0], [2, 3, 0, 1], [2, 3, 1, 0], [3, 0, 1, 2], [3, 0, 2, 1], [3, 1, 0, 2], [3, 1, 2, 0], [3, 2, 0, 1], [3, 2, 1, 0]]
theorem perm4 {i j k m : Nat} (h : [i, j, k, m].Perm [0, 1, 2, 3]) : [i, j, k, m] ∈ perms4 := by
  have hm : ∀ x ∈ [i, j, k, m], x < 4 := fun x hx => by
    have := h.mem_iff.1 hx
    simp at this; omega
  have all : ∀ i, i < 4 → ∀ j, j < 4 → ∀ k, k < 4 → ∀ m, m < 4 → [i, j, k, m].isPerm [0, 1, 2, 3] = true → perms4.contains [i, j, k, m] = true := by decide +kernel
  have := all i (hm i (by simp)) j (hm j (by simp)) k (hm k (by simp)) m (hm m (by simp)) (List.isPerm_iff.2 h)
  simpa using this
theorem fin_s {R C : Prop} {E : Int} (h : R ↔ E ≤ 0) (hC : C) : (E > 0 → ¬ R) ∧ (E < 0 → (R ↔ C)) := ⟨fun e r => by have := h.1 r; omega, fun e => ⟨fun _ => hC, fun _ => h.2 (by omega)⟩⟩
theorem fin_n {R C : Prop} {E : Int} (h : R → E = 0) (hC : ¬ C) : (E > 0 → ¬ R) ∧ (E < 0 → (R ↔ C)) := ⟨fun e r => by have := h r; omega, fun e => ⟨fun r => by have := h r; omega, fun c => absurd c hC⟩⟩
attribute [local irreducible] rotQ compareF befR
set_option maxHeartbeats 4000000 in
theorem turn_law {xs : List Rat} (hn : ∀ j, 0 ≤ xs.getD j default) {i j k m : Nat} (hp : [i, j, k, m].Perm [0, 1, 2, 3]) (b1 : befR xs i j) (b2 : befR xs j k) (b3 : befR xs k m) {t : Nat} (ht : t < 4) :
    (compareF [xs.getD i default, xs.getD m default] [xs.getD j default, xs.getD k default] > 0 → ¬ rotQ (xs.getD t default) (xs.getD ((t + 3) % 4) default) (xs.getD ((t + 1) % 4) default) (xs.getD ((t + 2) % 4) default)) ∧
    (compareF [xs.getD i default, xs.getD m default] [xs.getD j default, xs.getD k default] < 0 → (rotQ (xs.getD t default) (xs.getD ((t + 3) % 4) default) (xs.getD ((t + 1) % 4) default) (xs.getD ((t + 2) % 4) default) ↔ (t = i ∨ (t + 3) % 4 = i))) := by
  have h0 := hn i; have h1 := bef_le b1; have h2 := bef_le b2; have h3 := bef_le b3
  have hm := perm4 hp
  simp only [perms4, List.mem_cons, List.not_mem_nil, or_false, List.cons.injEq, and_true] at hm
  clear hp b1 b2 b3
  rcases hm with ⟨rfl, rfl, rfl, rfl⟩ | ⟨rfl, rfl, rfl, rfl⟩ | ⟨rfl, rfl, rfl, rfl⟩ | ⟨rfl, rfl, rfl, rfl⟩ | ⟨rfl, rfl, rfl, rfl⟩ | ⟨rfl, rfl, rfl, rfl⟩ | ⟨rfl, rfl, rfl, rfl⟩ | ⟨rfl, rfl, rfl, rfl⟩ | ⟨rfl, rfl, rfl, rfl⟩ | ⟨rfl, rfl, rfl, rfl⟩ | ⟨rfl, rfl, rfl, rfl⟩ | ⟨rfl, rfl, rfl, rfl⟩ | ⟨rfl, rfl, rfl, rfl⟩ | ⟨rfl, rfl, rfl, rfl⟩ | ⟨rfl, rfl, rfl, rfl⟩ | ⟨rfl, rfl, rfl, rfl⟩ | ⟨rfl, rfl, rfl, rfl⟩ | ⟨rfl, rfl, rfl, rfl⟩ | ⟨rfl, rfl, rfl, rfl⟩ | ⟨rfl, rfl, rfl, rfl⟩ | ⟨rfl, rfl, rfl, rfl⟩ | ⟨rfl, rfl, rfl, rfl⟩ | ⟨rfl, rfl, rfl, rfl⟩ | ⟨rfl, rfl, rfl, rfl⟩
  all_goals
    match t, ht with
    | 0, _ => first
        | exact fin_s (rot_sp h0 h1 h2 h3) (by decide)
        | exact fin_s ((rotQ_swap1 (hn _) (hn _) (hn _) (hn _)).trans (rot_sp h0 h1 h2 h3)) (by decide)
        | exact fin_s ((rotQ_swap2 (hn _) (hn _) (hn _) (hn _)).trans (rot_sp h0 h1 h2 h3)) (by decide)
        | exact fin_s ((rotQ_swap1 (hn _) (hn _) (hn _) (hn _)).trans ((rotQ_swap2 (hn _) (hn _) (hn _) (hn _)).trans (rot_sp h0 h1 h2 h3))) (by decide)
        | exact fin_s (rot_sq h0 h1 h2 h3) (by decide)
        | exact fin_s ((rotQ_swap1 (hn _) (hn _) (hn _) (hn _)).trans (rot_sq h0 h1 h2 h3)) (by decide)
        | exact fin_s ((rotQ_swap2 (hn _) (hn _) (hn _) (hn _)).trans (rot_sq h0 h1 h2 h3)) (by decide)
        | exact fin_s ((rotQ_swap1 (hn _) (hn _) (hn _) (hn _)).trans ((rotQ_swap2 (hn _) (hn _) (hn _) (hn _)).trans (rot_sq h0 h1 h2 h3))) (by decide)
        | exact fin_s (rot_sm h0 h1 h2 h3) (by decide)
        | exact fin_s ((rotQ_swap1 (hn _) (hn _) (hn _) (hn _)).trans (rot_sm h0 h1 h2 h3)) (by decide)
        | exact fin_s ((rotQ_swap2 (hn _) (hn _) (hn _) (hn _)).trans (rot_sm h0 h1 h2 h3)) (by decide)
        | exact fin_s ((rotQ_swap1 (hn _) (hn _) (hn _) (hn _)).trans ((rotQ_swap2 (hn _) (hn _) (hn _) (hn _)).trans (rot_sm h0 h1 h2 h3))) (by decide)
        | exact fin_n (fun r => rot_pq h0 h1 h2 h3 r) (by decide)
        | exact fin_n (fun r => rot_pq h0 h1 h2 h3 ((rotQ_swap1 (hn _) (hn _) (hn _) (hn _)).1 r)) (by decide)
        | exact fin_n (fun r => rot_pq h0 h1 h2 h3 ((rotQ_swap2 (hn _) (hn _) (hn _) (hn _)).1 r)) (by decide)
        | exact fin_n (fun r => rot_pq h0 h1 h2 h3 ((rotQ_swap2 (hn _) (hn _) (hn _) (hn _)).1 ((rotQ_swap1 (hn _) (hn _) (hn _) (hn _)).1 r))) (by decide)
        | exact fin_n (fun r => rot_pm h0 h1 h2 h3 r) (by decide)
        | exact fin_n (fun r => rot_pm h0 h1 h2 h3 ((rotQ_swap1 (hn _) (hn _) (hn _) (hn _)).1 r)) (by decide)
        | exact fin_n (fun r => rot_pm h0 h1 h2 h3 ((rotQ_swap2 (hn _) (hn _) (hn _) (hn _)).1 r)) (by decide)
        | exact fin_n (fun r => rot_pm h0 h1 h2 h3 ((rotQ_swap2 (hn _) (hn _) (hn _) (hn _)).1 ((rotQ_swap1 (hn _) (hn _) (hn _) (hn _)).1 r))) (by decide)
        | exact fin_n (fun r => rot_qm h0 h1 h2 h3 r) (by decide)
        | exact fin_n (fun r => rot_qm h0 h1 h2 h3 ((rotQ_swap1 (hn _) (hn _) (hn _) (hn _)).1 r)) (by decide)
        | exact fin_n (fun r => rot_qm h0 h1 h2 h3 ((rotQ_swap2 (hn _) (hn _) (hn _) (hn _)).1 r)) (by decide)
        | exact fin_n (fun r => rot_qm h0 h1 h2 h3 ((rotQ_swap2 (hn _) (hn _) (hn _) (hn _)).1 ((rotQ_swap1 (hn _) (hn _) (hn _) (hn _)).1 r))) (by decide)
    | 1, _ => first
        | exact fin_s (rot_sp h0 h1 h2 h3) (by decide)
        | exact fin_s ((rotQ_swap1 (hn _) (hn _) (hn _) (hn _)).trans (rot_sp h0 h1 h2 h3)) (by decide)
        | exact fin_s ((rotQ_swap2 (hn _) (hn _) (hn _) (hn _)).trans (rot_sp h0 h1 h2 h3)) (by decide)
        | exact fin_s ((rotQ_swap1 (hn _) (hn _) (hn _) (hn _)).trans ((rotQ_swap2 (hn _) (hn _) (hn _) (hn _)).trans (rot_sp h0 h1 h2 h3))) (by decide)
        | exact fin_s (rot_sq h0 h1 h2 h3) (by decide)
        | exact fin_s ((rotQ_swap1 (hn _) (hn _) (hn _) (hn _)).trans (rot_sq h0 h1 h2 h3)) (by decide)
        | exact fin_s ((rotQ_swap2 (hn _) (hn _) (hn _) (hn _)).trans (rot_sq h0 h1 h2 h3)) (by decide)
        | exact fin_s ((rotQ_swap1 (hn _) (hn _) (hn _) (hn _)).trans ((rotQ_swap2 (hn _) (hn _) (hn _) (hn _)).trans (rot_sq h0 h1 h2 h3))) (by decide)
        | exact fin_s (rot_sm h0 h1 h2 h3) (by decide)
        | exact fin_s ((rotQ_swap1 (hn _) (hn _) (hn _) (hn _)).trans (rot_sm h0 h1 h2 h3)) (by decide)
        | exact fin_s ((rotQ_swap2 (hn _) (hn _) (hn _) (hn _)).trans (rot_sm h0 h1 h2 h3)) (by decide)
        | exact fin_s ((rotQ_swap1 (hn _) (hn _) (hn _) (hn _)).trans ((rotQ_swap2 (hn _) (hn _) (hn _) (hn _)).trans (rot_sm h0 h1 h2 h3))) (by decide)
        | exact fin_n (fun r => rot_pq h0 h1 h2 h3 r) (by decide)
        | exact fin_n (fun r => rot_pq h0 h1 h2 h3 ((rotQ_swap1 (hn _) (hn _) (hn _) (hn _)).1 r)) (by decide)
        | exact fin_n (fun r => rot_pq h0 h1 h2 h3 ((rotQ_swap2 (hn _) (hn _) (hn _) (hn _)).1 r)) (by decide)
        | exact fin_n (fun r => rot_pq h0 h1 h2 h3 ((rotQ_swap2 (hn _) (hn _) (hn _) (hn _)).1 ((rotQ_swap1 (hn _) (hn _) (hn _) (hn _)).1 r))) (by decide)
        | exact fin_n (fun r => rot_pm h0 h1 h2 h3 r) (by decide)
        | exact fin_n (fun r => rot_pm h0 h1 h2 h3 ((rotQ_swap1 (hn _) (hn _) (hn _) (hn _)).1 r)) (by decide)
        | exact fin_n (fun r => rot_pm h0 h1 h2 h3 ((rotQ_swap2 (hn _) (hn _) (hn _) (hn _)).1 r)) (by decide)
        | exact fin_n (fun r => rot_pm h0 h1 h2 h3 ((rotQ_swap2 (hn _) (hn _) (hn _) (hn _)).1 ((rotQ_swap1 (hn _) (hn _) (hn _) (hn _)).1 r))) (by decide)
        | exact fin_n (fun r => rot_qm h0 h1 h2 h3 r) (by decide)
        | exact fin_n (fun r => rot_qm h0 h1 h2 h3 ((rotQ_swap1 (hn _) (hn _) (hn _) (hn _)).1 r)) (by decide)
        | exact fin_n (fun r => rot_qm h0 h1 h2 h3 ((rotQ_swap2 (hn _) (hn _) (hn _) (hn _)).1 r)) (by decide)
        | exact fin_n (fun r => rot_qm h0 h1 h2 h3 ((rotQ_swap2 (hn _) (hn _) (hn _) (hn _)).1 ((rotQ_swap1 (hn _) (hn _) (hn _) (hn _)).1 r))) (by decide)
    | 2, _ => first
        | exact fin_s (rot_sp h0 h1 h2 h3) (by decide)
        | exact fin_s ((rotQ_swap1 (hn _) (hn _) (hn _) (hn _)).trans (rot_sp h0 h1 h2 h3)) (by decide)
        | exact fin_s ((rotQ_swap2 (hn _) (hn _) (hn _) (hn _)).trans (rot_sp h0 h1 h2 h3)) (by decide)
        | exact fin_s ((rotQ_swap1 (hn _) (hn _) (hn _) (hn _)).trans ((rotQ_swap2 (hn _) (hn _) (hn _) (hn _)).trans (rot_sp h0 h1 h2 h3))) (by decide)
        | exact fin_s (rot_sq h0 h1 h2 h3) (by decide)
        | exact fin_s ((rotQ_swap1 (hn _) (hn _) (hn _) (hn _)).trans (rot_sq h0 h1 h2 h3)) (by decide)
        | exact fin_s ((rotQ_swap2 (hn _) (hn _) (hn _) (hn _)).trans (rot_sq h0 h1 h2 h3)) (by decide)
        | exact fin_s ((rotQ_swap1 (hn _) (hn _) (hn _) (hn _)).trans ((rotQ_swap2 (hn _) (hn _) (hn _) (hn _)).trans (rot_sq h0 h1 h2 h3))) (by decide)
        | exact fin_s (rot_sm h0 h1 h2 h3) (by decide)
        | exact fin_s ((rotQ_swap1 (hn _) (hn _) (hn _) (hn _)).trans (rot_sm h0 h1 h2 h3)) (by decide)
        | exact fin_s ((rotQ_swap2 (hn _) (hn _) (hn _) (hn _)).trans (rot_sm h0 h1 h2 h3)) (by decide)
        | exact fin_s ((rotQ_swap1 (hn _) (hn _) (hn _) (hn _)).trans ((rotQ_swap2 (hn _) (hn _) (hn _) (hn _)).trans (rot_sm h0 h1 h2 h3))) (by decide)
        | exact fin_n (fun r => rot_pq h0 h1 h2 h3 r) (by decide)
        | exact fin_n (fun r => rot_pq h0 h1 h2 h3 ((rotQ_swap1 (hn _) (hn _) (hn _) (hn _)).1 r)) (by decide)
        | exact fin_n (fun r => rot_pq h0 h1 h2 h3 ((rotQ_swap2 (hn _) (hn _) (hn _) (hn _)).1 r)) (by decide)
        | exact fin_n (fun r => rot_pq h0 h1 h2 h3 ((rotQ_swap2 (hn _) (hn _) (hn _) (hn _)).1 ((rotQ_swap1 (hn _) (hn _) (hn _) (hn _)).1 r))) (by decide)
        | exact fin_n (fun r => rot_pm h0 h1 h2 h3 r) (by decide)
        | exact fin_n (fun r => rot_pm h0 h1 h2 h3 ((rotQ_swap1 (hn _) (hn _) (hn _) (hn _)).1 r)) (by decide)
        | exact fin_n (fun r => rot_pm h0 h1 h2 h3 ((rotQ_swap2 (hn _) (hn _) (hn _) (hn _)).1 r)) (by decide)
        | exact fin_n (fun r => rot_pm h0 h1 h2 h3 ((rotQ_swap2 (hn _) (hn _) (hn _) (hn _)).1 ((rotQ_swap1 (hn _) (hn _) (hn _) (hn _)).1 r))) (by decide)
        | exact fin_n (fun r => rot_qm h0 h1 h2 h3 r) (by decide)
        | exact fin_n (fun r => rot_qm h0 h1 h2 h3 ((rotQ_swap1 (hn _) (hn _) (hn _) (hn _)).1 r)) (by decide)
        | exact fin_n (fun r => rot_qm h0 h1 h2 h3 ((rotQ_swap2 (hn _) (hn _) (hn _) (hn _)).1 r)) (by decide)
        | exact fin_n (fun r => rot_qm h0 h1 h2 h3 ((rotQ_swap2 (hn _) (hn _) (hn _) (hn _)).1 ((rotQ_swap1 (hn _) (hn _) (hn _) (hn _)).1 r))) (by decide)
    | 3, _ => first
        | exact fin_s (rot_sp h0 h1 h2 h3) (by decide)
        | exact fin_s ((rotQ_swap1 (hn _) (hn _) (hn _) (hn _)).trans (rot_sp h0 h1 h2 h3)) (by decide)
        | exact fin_s ((rotQ_swap2 (hn _) (hn _) (hn _) (hn _)).trans (rot_sp h0 h1 h2 h3)) (by decide)
        | exact fin_s ((rotQ_swap1 (hn _) (hn _) (hn _) (hn _)).trans ((rotQ_swap2 (hn _) (hn _) (hn _) (hn _)).trans (rot_sp h0 h1 h2 h3))) (by decide)
        | exact fin_s (rot_sq h0 h1 h2 h3) (by decide)
        | exact fin_s ((rotQ_swap1 (hn _) (hn _) (hn _) (hn _)).trans (rot_sq h0 h1 h2 h3)) (by decide)
        | exact fin_s ((rotQ_swap2 (hn _) (hn _) (hn _) (hn _)).trans (rot_sq h0 h1 h2 h3)) (by decide)
        | exact fin_s ((rotQ_swap1 (hn _) (hn _) (hn _) (hn _)).trans ((rotQ_swap2 (hn _) (hn _) (hn _) (hn _)).trans (rot_sq h0 h1 h2 h3))) (by decide)
        | exact fin_s (rot_sm h0 h1 h2 h3) (by decide)
        | exact fin_s ((rotQ_swap1 (hn _) (hn _) (hn _) (hn _)).trans (rot_sm h0 h1 h2 h3)) (by decide)
        | exact fin_s ((rotQ_swap2 (hn _) (hn _) (hn _) (hn _)).trans (rot_sm h0 h1 h2 h3)) (by decide)
        | exact fin_s ((rotQ_swap1 (hn _) (hn _) (hn _) (hn _)).trans ((rotQ_swap2 (hn _) (hn _) (hn _) (hn _)).trans (rot_sm h0 h1 h2 h3))) (by decide)
        | exact fin_n (fun r => rot_pq h0 h1 h2 h3 r) (by decide)
        | exact fin_n (fun r => rot_pq h0 h1 h2 h3 ((rotQ_swap1 (hn _) (hn _) (hn _) (hn _)).1 r)) (by decide)
        | exact fin_n (fun r => rot_pq h0 h1 h2 h3 ((rotQ_swap2 (hn _) (hn _) (hn _) (hn _)).1 r)) (by decide)
        | exact fin_n (fun r => rot_pq h0 h1 h2 h3 ((rotQ_swap2 (hn _) (hn _) (hn _) (hn _)).1 ((rotQ_swap1 (hn _) (hn _) (hn _) (hn _)).1 r))) (by decide)
        | exact fin_n (fun r => rot_pm h0 h1 h2 h3 r) (by decide)
        | exact fin_n (fun r => rot_pm h0 h1 h2 h3 ((rotQ_swap1 (hn _) (hn _) (hn _) (hn _)).1 r)) (by decide)
        | exact fin_n (fun r => rot_pm h0 h1 h2 h3 ((rotQ_swap2 (hn _) (hn _) (hn _) (hn _)).1 r)) (by decide)
        | exact fin_n (fun r => rot_pm h0 h1 h2 h3 ((rotQ_swap2 (hn _) (hn _) (hn _) (hn _)).1 ((rotQ_swap1 (hn _) (hn _) (hn _) (hn _)).1 r))) (by decide)
        | exact fin_n (fun r => rot_qm h0 h1 h2 h3 r) (by decide)
        | exact fin_n (fun r => rot_qm h0 h1 h2 h3 ((rotQ_swap1 (hn _) (hn _) (hn _) (hn _)).1 r)) (by decide)
        | exact fin_n (fun r => rot_qm h0 h1 h2 h3 ((rotQ_swap2 (hn _) (hn _) (hn _) (hn _)).1 r)) (by decide)
        | exact fin_n (fun r => rot_qm h0 h1 h2 h3 ((rotQ_swap2 (hn _) (hn _) (hn _) (hn _)).1 ((rotQ_swap1 (hn _) (hn _) (hn _) (hn _)).1 r))) (by decide)
end Go.Proofs.Ytdeihehaheelmaa
namespace Go.Proofs.Ytdeihehaheelmaa
set_option maxHeartbeats 1000000
set_option maxRecDepth 100000
open Go.RowKit (Below)
private theorem ap_48 : ∀ {u0 : Value} {u1 : Value} {u2 : Value} {u3 : Value} (h0 : Shaped (some 3) u0) (h1 : Shaped (some 3) u1) (h2 : Shaped (some 3) u2) (h3 : Shaped (some 3) u3),Try.prog.built 48 [(0,u0),(1,u1),(2,u2),(3,u3)] = some (flat [u0,u1,u2,u3]).toArray := by
 intro u0 u1 u2 u3 h0 h1 h2 h3
 obtain ⟨c0_0,c0_1,c0_2,rfl⟩ := agg3 h0
 obtain ⟨c1_0,c1_1,c1_2,rfl⟩ := agg3 h1
 obtain ⟨c2_0,c2_1,c2_2,rfl⟩ := agg3 h2
 obtain ⟨c3_0,c3_1,c3_2,rfl⟩ := agg3 h3
 kernel_rfl
private theorem c_10 : callable Try.prog 10 = true := by kernel_rfl
private theorem c_36 : callable Try.prog 36 = true := by kernel_rfl
private theorem fo_37_0 : fldOff Try.prog 37 0 = some 0 := by kernel_rfl
private theorem fo_37_1 : fldOff Try.prog 37 1 = some 3 := by kernel_rfl
private theorem fo_37_2 : fldOff Try.prog 37 2 = some 6 := by kernel_rfl
private theorem fo_37_3 : fldOff Try.prog 37 3 = some 9 := by kernel_rfl
private theorem tS_35 : tyS Try.prog 35 (some 3) = true := by kernel_rfl
private theorem tS_37 : tyS Try.prog 37 (some 12) = true := by kernel_rfl
private theorem tS_48 : tyS Try.prog 48 (some 12) = true := by kernel_rfl
private theorem z_48 : (Try.prog.info? 48).bind (·.zero) = some (.agg #[.bool false,.slice none 0 0,.slice none 0 0,.bool false,.slice none 0 0,.slice none 0 0,.bool false,.slice none 0 0,.slice none 0 0,.bool false,.slice none 0 0,.slice none 0 0]) := by kernel_rfl
private theorem zs_48 : Shaped (some 12) (.agg #[.bool false,.slice none 0 0,.slice none 0 0,.bool false,.slice none 0 0,.slice none 0 0,.bool false,.slice none 0 0,.slice none 0 0,.bool false,.slice none 0 0,.slice none 0 0]) := ⟨_,rfl,rfl,by simp [Value.oneCell']⟩
theorem rSquaresX_ok {rg ra rb rc : FR} {v1 : Value} {W0 : World} {G0 : Gh} (hok : Gok W0 G0) (h1 : (PTS [(some 3,RX rg),(some 3,RX ra),(some 3,RX rb),(some 3,RX rc)]).t v1 G0)  : Calls Try.prog 36 #[v1] W0 (Ret W0 G0 (ARN (some 3) (([rg,ra,rb,rc]).map (RX)))) := by
 refine St.enter (N := 12) (L := [(0,PTS [(some 3,RX rg),(some 3,RX ra),(some 3,RX rb),(some 3,RX rc)])]) (args := [v1]) Try.func36 rfl rfl rfl hok (enter1 h1) fun a S => ?_
 refine wp_reg fun K hK => ?_
 refine S.boxop (x := .tmp 0) (τ := PTS [(some 3,RX rg),(some 3,RX ra),(some 3,RX rb),(some 3,RX rc)]) (S.g 0 rfl) (sh (τ := PTS [(some 3,RX rg),(some 3,RX ra),(some 3,RX rb),(some 3,RX rc)]) (S.g 0 rfl)) rfl rfl rfl rfl rfl fun b1 a w G S => ?_
 refine S.alloc rfl rfl rfl z_48 zs_48 rfl rfl fun b2 a w G S => ?_
 refine wpList_nil (hK _ _ ?_);clear hK K
 replace S := S.d2
 refine wp_reg fun K hK => ?_
 refine S.s (τ := PB b1) (OpR.fldA S.ok rfl (S.e 1 rfl) fo_37_0 rfl) rfl fun a w G S => ?_
 refine S.s (OpR.ldPart S.ok rfl (S.e 0 rfl) (S.box 1 rfl) tS_35 fun _ h hs => part_load (PTS.part 0 rfl rfl h hs) rfl) rfl fun a w G S => ?_
 refine S.s (τ := MT.ex (Value.pointer (some ⟨b1,3,none⟩))) (OpR.fldA S.ok rfl (S.e 3 rfl) fo_37_1 rfl) rfl fun a w G S => ?_
 refine S.s (OpR.ldPart S.ok rfl (S.e 0 rfl) (S.box 1 rfl) tS_35 fun _ h hs => part_load (PTS.part 1 rfl rfl h hs) rfl) rfl fun a w G S => ?_
 refine S.s (τ := MT.ex (Value.pointer (some ⟨b1,6,none⟩))) (OpR.fldA S.ok rfl (S.e 5 rfl) fo_37_2 rfl) rfl fun a w G S => ?_
 refine S.s (OpR.ldPart S.ok rfl (S.e 0 rfl) (S.box 1 rfl) tS_35 fun _ h hs => part_load (PTS.part 2 rfl rfl h hs) rfl) rfl fun a w G S => ?_
 refine S.s (τ := MT.ex (Value.pointer (some ⟨b1,9,none⟩))) (OpR.fldA S.ok rfl (S.e 7 rfl) fo_37_3 rfl) rfl fun a w G S => ?_
 refine S.s (OpR.ldPart S.ok rfl (S.e 0 rfl) (S.box 1 rfl) tS_35 fun _ h hs => part_load (PTS.part 3 rfl rfl h hs) rfl) rfl fun a w G S => ?_
 refine S.s (τ := ARN (some 3) (([rg,ra,rb,rc]).map (RX))) (OpR.conv' (OpR.bldP (us := [a.eval (.tmp 4),a.eval (.tmp 6),a.eval (.tmp 8),a.eval (.tmp 10)]) (fs := (List.map (RX) [rg,ra,rb,rc]).map fun τ => (some 3,τ)) S.ok rfl (by simp only [List.map_toArray,List.map_cons,List.map_nil];exact ap_48 (u0 := a.eval (.tmp 4)) (u1 := a.eval (.tmp 6)) (u2 := a.eval (.tmp 8)) (u3 := a.eval (.tmp 10)) (sh (τ := RX rg) (S.g 6 rfl)) (sh (τ := RX ra) (S.g 4 rfl)) (sh (τ := RX rb) (S.g 2 rfl)) (sh (τ := RX rc) (S.g 0 rfl))) rfl (pts_cons (sh (τ := RX rg) (S.g 6 rfl)) (S.g 6 rfl) (pts_cons (sh (τ := RX ra) (S.g 4 rfl)) (S.g 4 rfl) (pts_cons (sh (τ := RX rb) (S.g 2 rfl)) (S.g 2 rfl) (pts_cons (sh (τ := RX rc) (S.g 0 rfl)) (S.g 0 rfl) pts_nil))))) fun _ _ h => PTS.arn h) rfl fun a w G S => ?_
 refine S.store (τ := ARN (some 3) (([rg,ra,rb,rc]).map (RX))) 0 rfl rfl rfl rfl (S.e 9 rfl) tS_48 (S.g 0 rfl) (sh (τ := ARN (some 3) (([rg,ra,rb,rc]).map (RX))) (S.g 0 rfl)) fun w S => ?_
 replace S := S.n0
 replace S := (S.castBox (τ' := ROWS (some 3) (([rg,ra,rb,rc]).map (RX))) 0 rfl fun _ h _ => ARN.rows h).n0
 refine wpList_nil (hK _ _ ?_);clear hK K
 replace S := S.d10.d8.d7.d6.d5.d4.d3.d2.d1.d0
 replace S := (S.castBox (τ' := ARN (some 3) (([rg,ra,rb,rc]).map (RX))) 0 rfl fun _ h hs => ROWS.arn h hs (by first | rfl | (simp;done) | (simp;omega))).n0
 exact wp_ret (S.retCell (i := 0) rfl (S.e 0 rfl) rfl tS_48 (fun _ h => h))
theorem rSquares_ok {n : Nat} {rg ra rb rc : FR} {v1 : Value} {W0 : World} {G0 : Gh} (hok : Gok W0 G0) (h1 : (PTS [(some 3,FX n rg),(some 3,FX n ra),(some 3,FX n rb),(some 3,FX n rc)]).t v1 G0)  : Calls Try.prog 36 #[v1] W0 (Ret W0 G0 (ARN (some 3) (([rg,ra,rb,rc]).map (FX n)))) := by
 refine St.enter (N := 12) (L := [(0,PTS [(some 3,FX n rg),(some 3,FX n ra),(some 3,FX n rb),(some 3,FX n rc)])]) (args := [v1]) Try.func36 rfl rfl rfl hok (enter1 h1) fun a S => ?_
 refine wp_reg fun K hK => ?_
 refine S.boxop (x := .tmp 0) (τ := PTS [(some 3,FX n rg),(some 3,FX n ra),(some 3,FX n rb),(some 3,FX n rc)]) (S.g 0 rfl) (sh (τ := PTS [(some 3,FX n rg),(some 3,FX n ra),(some 3,FX n rb),(some 3,FX n rc)]) (S.g 0 rfl)) rfl rfl rfl rfl rfl fun b1 a w G S => ?_
 refine S.alloc rfl rfl rfl z_48 zs_48 rfl rfl fun b2 a w G S => ?_
 refine wpList_nil (hK _ _ ?_);clear hK K
 replace S := S.d2
 refine wp_reg fun K hK => ?_
 refine S.s (τ := PB b1) (OpR.fldA S.ok rfl (S.e 1 rfl) fo_37_0 rfl) rfl fun a w G S => ?_
 refine S.s (OpR.ldPart S.ok rfl (S.e 0 rfl) (S.box 1 rfl) tS_35 fun _ h hs => part_load (PTS.part 0 rfl rfl h hs) rfl) rfl fun a w G S => ?_
 refine S.s (τ := MT.ex (Value.pointer (some ⟨b1,3,none⟩))) (OpR.fldA S.ok rfl (S.e 3 rfl) fo_37_1 rfl) rfl fun a w G S => ?_
 refine S.s (OpR.ldPart S.ok rfl (S.e 0 rfl) (S.box 1 rfl) tS_35 fun _ h hs => part_load (PTS.part 1 rfl rfl h hs) rfl) rfl fun a w G S => ?_
 refine S.s (τ := MT.ex (Value.pointer (some ⟨b1,6,none⟩))) (OpR.fldA S.ok rfl (S.e 5 rfl) fo_37_2 rfl) rfl fun a w G S => ?_
 refine S.s (OpR.ldPart S.ok rfl (S.e 0 rfl) (S.box 1 rfl) tS_35 fun _ h hs => part_load (PTS.part 2 rfl rfl h hs) rfl) rfl fun a w G S => ?_
 refine S.s (τ := MT.ex (Value.pointer (some ⟨b1,9,none⟩))) (OpR.fldA S.ok rfl (S.e 7 rfl) fo_37_3 rfl) rfl fun a w G S => ?_
 refine S.s (OpR.ldPart S.ok rfl (S.e 0 rfl) (S.box 1 rfl) tS_35 fun _ h hs => part_load (PTS.part 3 rfl rfl h hs) rfl) rfl fun a w G S => ?_
 refine S.s (τ := ARN (some 3) (([rg,ra,rb,rc]).map (FX n))) (OpR.conv' (OpR.bldP (us := [a.eval (.tmp 4),a.eval (.tmp 6),a.eval (.tmp 8),a.eval (.tmp 10)]) (fs := (List.map (FX n) [rg,ra,rb,rc]).map fun τ => (some 3,τ)) S.ok rfl (by simp only [List.map_toArray,List.map_cons,List.map_nil];exact ap_48 (u0 := a.eval (.tmp 4)) (u1 := a.eval (.tmp 6)) (u2 := a.eval (.tmp 8)) (u3 := a.eval (.tmp 10)) (sh (τ := FX n rg) (S.g 6 rfl)) (sh (τ := FX n ra) (S.g 4 rfl)) (sh (τ := FX n rb) (S.g 2 rfl)) (sh (τ := FX n rc) (S.g 0 rfl))) rfl (pts_cons (sh (τ := FX n rg) (S.g 6 rfl)) (S.g 6 rfl) (pts_cons (sh (τ := FX n ra) (S.g 4 rfl)) (S.g 4 rfl) (pts_cons (sh (τ := FX n rb) (S.g 2 rfl)) (S.g 2 rfl) (pts_cons (sh (τ := FX n rc) (S.g 0 rfl)) (S.g 0 rfl) pts_nil))))) fun _ _ h => PTS.arn h) rfl fun a w G S => ?_
 refine S.store (τ := ARN (some 3) (([rg,ra,rb,rc]).map (FX n))) 0 rfl rfl rfl rfl (S.e 9 rfl) tS_48 (S.g 0 rfl) (sh (τ := ARN (some 3) (([rg,ra,rb,rc]).map (FX n))) (S.g 0 rfl)) fun w S => ?_
 replace S := S.n0
 replace S := (S.castBox (τ' := ROWS (some 3) (([rg,ra,rb,rc]).map (FX n))) 0 rfl fun _ h _ => ARN.rows h).n0
 refine wpList_nil (hK _ _ ?_);clear hK K
 replace S := S.d10.d8.d7.d6.d5.d4.d3.d2.d1.d0
 replace S := (S.castBox (τ' := ARN (some 3) (([rg,ra,rb,rc]).map (FX n))) 0 rfl fun _ h hs => ROWS.arn h hs (by first | rfl | (simp;done) | (simp;omega))).n0
 exact wp_ret (S.retCell (i := 0) rfl (S.e 0 rfl) rfl tS_48 (fun _ h => h))
theorem lshort_ok {rg ra rb rc : FR} {v1 : Value} {W0 : World} {G0 : Gh} (hok : Gok W0 G0) (h1 : (PTS [(some 3,RX rg),(some 3,RX ra),(some 3,RX rb),(some 3,RX rc)]).t v1 G0)  : Calls Try.prog 14 #[v1] W0 (Ret W0 G0 (BT (shortF [rg,ra,rb,rc]))) := by
 refine St.enter (N := 8) (L := [(0,PTS [(some 3,RX rg),(some 3,RX ra),(some 3,RX rb),(some 3,RX rc)])]) (args := [v1]) Try.func14 rfl rfl rfl hok (enter1 h1) fun a S => ?_
 refine wp_reg fun K hK => ?_
 refine S.boxop (x := .tmp 0) (τ := PTS [(some 3,RX rg),(some 3,RX ra),(some 3,RX rb),(some 3,RX rc)]) (S.g 0 rfl) (sh (τ := PTS [(some 3,RX rg),(some 3,RX ra),(some 3,RX rb),(some 3,RX rc)]) (S.g 0 rfl)) rfl rfl rfl rfl rfl fun b1 a w G S => ?_
 refine S.s (τ := BT false) (OpR.asn S.ok rfl rfl) rfl fun a w G S => ?_
 refine wpList_nil (hK _ _ ?_);clear hK K
 replace S := S.d2
 refine wp_reg fun K hK => ?_
 refine S.s (OpR.ldBox S.ok rfl (S.e 1 rfl) (S.box 0 rfl) tS_37) rfl fun a w G S => ?_
 refine S.s (τ := ARN (some 3) (([rg,ra,rb,rc]).map (RX))) (OpR.call1 rfl c_36 (rSquaresX_ok S.ok (S.g 0 rfl))) rfl fun a w G S => ?_
 refine S.alloc rfl rfl rfl z_48 zs_48 rfl rfl fun b3 a w G S => ?_
 refine S.store (τ := ARN (some 3) (([rg,ra,rb,rc]).map (RX))) 0 rfl rfl rfl rfl (S.e 0 rfl) tS_48 (S.g 1 rfl) (sh (τ := ARN (some 3) (([rg,ra,rb,rc]).map (RX))) (S.g 1 rfl)) fun w S => ?_
 replace S := S.n0
 replace S := (S.castBox (τ' := ROWS (some 3) (([rg,ra,rb,rc]).map (RX))) 0 rfl fun _ h _ => ARN.rows h).n0
 refine wpList_nil (hK _ _ ?_);clear hK K
 replace S := S.d4.d2.d1
 refine wp_reg fun K hK => ?_
 refine S.s (τ := MT.ex (Value.slice (some ⟨b3,0,none⟩) (4) (4))) (OpR.slAr S.ok rfl Try.underlying48 tS_35 (S.e 0 rfl) rfl rfl) rfl fun a w G S => ?_
 obtain ⟨vz1,Gz1,hz1,hs1,hg1,hle1,S⟩ := S.freeze 0 rfl
 have hsl1 := ROWS.slM hz1 hg1 rfl (Nat.le_refl _) (show 4 ≤ LIM by decide) (rfl : _ = Value.slice (some ⟨b3,0,none⟩) (4) (4))
 replace S := S.also (t := 6) (τ := LS (some 3) (([rg,ra,rb,rc]).map (RX))) ((S.e 0 rfl).symm ▸ hsl1)
 replace S : St W0 G0 8 [(6,LS (some 3) (([rg,ra,rb,rc]).map (RX))),(3,PB b3),(2,BT false)] [⟨b1,37,some 12,PTS [(some 3,RX rg),(some 3,RX ra),(some 3,RX rb),(some 3,RX rc)]⟩] a _ _ := S.keep [0,2,3]
 refine S.s (τ := BT (shortF ([rg,ra,rb,rc]))) (OpR.call1 rfl c_10 (rShort_ok S.ok (LS.eqM (S.g 0 rfl) (by first | rfl | omega | (simp only [Nat.zero_add,Nat.add_zero];done) | (simp;done) | (push_cast;omega))))) rfl fun a w G S => ?_
 replace S := S.d3
 refine S.s (OpR.asn S.ok rfl (S.g 0 rfl)) rfl fun a w G S => ?_
 refine wpList_nil (hK _ _ ?_);clear hK K
 replace S := S.d2.d1
 exact wp_ret (S.retTmp rfl ((S.e 0 rfl).trans (bv_eq (by first | rfl | omega | (simp only [Nat.zero_add,Nat.add_zero];done) | (simp;done) | (push_cast;omega)))))
end Go.Proofs.Ytdeihehaheelmaa
namespace Go.Proofs.Ytdeihehaheelmaa
open Go.RowKit (Below)
theorem vget (l : List FR) (j : Nat) : (l.map FR.val).getD j default = (l.getD j default).val := by
  rw [List.getD_eq_getElem?_getD, List.getD_eq_getElem?_getD, List.getElem?_map]
  cases l[j]? with
  | none => exact val_default.symm
  | some z => rfl
theorem rotL_iff {l : List FR} {t : Nat} : rotL l t = true ↔ rotQ ((l.map FR.val).getD t default) ((l.map FR.val).getD ((t + 3) % 4) default) ((l.map FR.val).getD ((t + 1) % 4) default) ((l.map FR.val).getD ((t + 2) % 4) default) := by
  simp only [vget]
  unfold rotL rotQ
  rw [Bool.and_eq_true, decide_eq_true_iff, decide_eq_true_iff]
theorem lk_get (l : List FR) (j : Nat) : lk l j = (l.map FR.val).getD ((orderF (l.map FR.val)).getD j default) default := by rw [vget]; rfl
theorem turns {l : List FR} (h : l.all posR = true) {t : Nat} (ht : t < 4) : (excF l > 0 → rotL l t = false) ∧ (excF l < 0 → (rotL l t = true ↔ (t = (orderF (l.map FR.val)).getD 0 default ∨ (t + 3) % 4 = (orderF (l.map FR.val)).getD 0 default))) := by
  obtain ⟨i, j, k, m, e, hp, b1, b2, b3⟩ := order_ok (l.map FR.val)
  have hE : excF l = compareF [(l.map FR.val).getD i default, (l.map FR.val).getD m default] [(l.map FR.val).getD j default, (l.map FR.val).getD k default] := by
    unfold excF; simp only [lk_get, e]; rfl
  have hl := turn_law (xs := l.map FR.val) (fun q => by rw [vget]; exact vals_pos h q) hp b1 b2 b3 ht
  rw [← hE] at hl
  rw [e]
  refine ⟨fun h1 => ?_, fun h1 => rotL_iff.trans (hl.2 h1)⟩
  cases hr : rotL l t with
  | false => rfl
  | true => exact absurd (rotL_iff.1 hr) (hl.1 h1)
def leastI (xs : List Rat) (b i : Nat) : Prop := b < 4 ∧ (b < i ∨ (i = 0 ∧ b = 0)) ∧ ∀ j, j < i → j = b ∨ befR xs b j
theorem least_0 (xs : List Rat) : leastI xs 0 0 := ⟨by decide, .inr ⟨rfl, rfl⟩, fun j hj => absurd hj (Nat.not_lt_zero _)⟩
theorem least_t {l : List FR} {b i : Nat} (h : leastI (l.map FR.val) b i) (hi : i < 4) (hc : cmpQ (l.getD i default).val (l.getD b default).val < 0) : leastI (l.map FR.val) i (i + 1) := by
  rw [← vget, ← vget] at hc
  refine ⟨hi, .inl (by omega), fun j hj => ?_⟩
  rcases Nat.lt_or_ge j i with h1 | h1
  · right
    have hb : befR (l.map FR.val) i b := by
      rcases h.2.1 with h2 | ⟨h2, h3⟩
      · exact bef_t h2 hc
      · omega
    rcases h.2.2 j h1 with h2 | h2
    · rw [h2]; exact hb
    · exact bef_trans hb h2
  · left; omega
theorem least_f {l : List FR} {b i : Nat} (h : leastI (l.map FR.val) b i) (hc : ¬ cmpQ (l.getD i default).val (l.getD b default).val < 0) : leastI (l.map FR.val) b (i + 1) := by
  rw [← vget, ← vget] at hc
  refine ⟨h.1, .inl (by rcases h.2.1 with h2 | ⟨h2, h3⟩ <;> omega), fun j hj => ?_⟩
  rcases Nat.lt_or_ge j i with h1 | h1
  · exact h.2.2 j h1
  · obtain rfl : j = i := by omega
    rcases h.2.1 with h2 | ⟨h2, h3⟩
    · exact .inr (bef_f h2 hc)
    · left; omega
theorem least_end {xs : List Rat} {b : Nat} (h : leastI xs b 4) : b = (orderF xs).getD 0 default := by
  obtain ⟨i, j, k, m, e, hp, b1, b2, b3⟩ := order_ok xs
  rw [e]
  show b = i
  have hb : b ∈ [i, j, k, m] := hp.mem_iff.2 (by have := h.1; simp; omega)
  have hi4 : i < 4 := by have := hp.mem_iff.1 (show i ∈ [i, j, k, m] by simp); simp at this; omega
  rcases h.2.2 i hi4 with h1 | h1
  · exact h1.symm
  · simp only [List.mem_cons, List.not_mem_nil, or_false] at hb
    rcases hb with h2 | h2 | h2 | h2
    · exact h2
    · subst h2; exact (bef_asymm h1 b1).elim
    · subst h2; exact (bef_asymm h1 (bef_trans b1 b2)).elim
    · subst h2; exact (bef_asymm h1 (bef_trans (bef_trans b1 b2) b3)).elim
theorem excRes_ok {l : List FR} (h : chkF l = 0) : excRes l = excF l := by unfold excRes; rw [if_pos h]
theorem rotF_in {l : List FR} {i : Nat} (h : chkF l = 0) (hi : i < 4) : rotF l ((i : Nat) : Int) = rotL l i := by rw [rotF_ok (by omega) (by omega)]; simp
theorem sh_eq1 {r : Bool} {t o c : Nat} (h : r = true ↔ (t = o ∨ (t + 3) % 4 = o)) (hc : c = o) (ht : t = c) : (!(r == true)) = false := by
  rw [h.2 (.inl (ht.trans hc))]; rfl
theorem sh_eq2 {r : Bool} {t o c : Nat} (h : r = true ↔ (t = o ∨ (t + 3) % 4 = o)) (hc : c = o) (ht : ¬ t = c) : (!(r == decide ((t + 3) % 4 = c))) = false := by
  subst hc
  by_cases h2 : (t + 3) % 4 = c
  · rw [h.2 (.inr h2), decide_eq_true h2]; rfl
  · rw [decide_eq_false h2]
    cases r with
    | false => rfl
    | true => rcases h.1 rfl with h3 | h3
              · exact absurd h3 ht
              · exact absurd h3 h2
end Go.Proofs.Ytdeihehaheelmaa
namespace Go.Proofs.Ytdeihehaheelmaa
set_option maxHeartbeats 1000000
set_option maxRecDepth 100000
open Go.RowKit (Below)
private theorem c_14 : callable Try.prog 14 = true := by kernel_rfl
private theorem c_17 : callable Try.prog 17 = true := by kernel_rfl
private theorem c_20 : callable Try.prog 20 = true := by kernel_rfl
private theorem c_24 : callable Try.prog 24 = true := by kernel_rfl
private theorem c_25 : callable Try.prog 25 = true := by kernel_rfl
private theorem c_9 : callable Try.prog 9 = true := by kernel_rfl
private theorem if_26 : ifaceT Try.prog 26 := by unfold ifaceT;kernel_rfl
private theorem mixedOrders : Try.prog.follows .mixedOrders = true := by kernel_rfl
theorem lShortest_ok {rg ra rb rc : FR} {v1 : Value} {W0 : World} {G0 : Gh} (hok : Gok W0 G0) (h1 : (PTS [(some 3,RX rg),(some 3,RX ra),(some 3,RX rb),(some 3,RX rc)]).t v1 G0)  : Calls Try.prog 6 #[v1] W0 (Ret W0 G0 (BT true)) := by
 refine St.enter (N := 90) (L := [(0,PTS [(some 3,RX rg),(some 3,RX ra),(some 3,RX rb),(some 3,RX rc)])]) (args := [v1]) Try.func6 rfl rfl rfl hok (enter1 h1) fun a S => ?_
 refine wp_reg fun K hK => ?_
 refine S.boxop (x := .tmp 0) (τ := PTS [(some 3,RX rg),(some 3,RX ra),(some 3,RX rb),(some 3,RX rc)]) (S.g 0 rfl) (sh (τ := PTS [(some 3,RX rg),(some 3,RX ra),(some 3,RX rb),(some 3,RX rc)]) (S.g 0 rfl)) rfl rfl rfl rfl rfl fun b1 a w G S => ?_
 refine S.s (τ := BT false) (OpR.asn S.ok rfl rfl) rfl fun a w G S => ?_
 refine wpList_nil (hK _ _ ?_);clear hK K
 replace S := S.d2
 refine wp_seq_k fun K hK => ?_
 refine wp_reg fun K hK => ?_
 refine S.s (τ := BT true) (OpR.call0 rfl c_9 (lawake_ok S.ok )) rfl fun a w G S => ?_
 refine S.s (τ := BT false) (OpR.bnot S.ok rfl (S.e 0 rfl) rfl) rfl fun a w G S => ?_
 refine S.s (OpR.mv S.ok rfl (S.g 0 rfl)) rfl fun a w G S => ?_
 refine S.stepG 0 (OpR.ldBox S.ok rfl (S.e 4 rfl) (S.box 0 rfl) tS_37) rfl rfl rfl rfl rfl rfl fun a w G S => ?_
 refine S.stepG (τ := BT (shortF [rg,ra,rb,rc])) 1 (OpR.call1 rfl c_14 (lshort_ok S.ok (S.g 0 rfl))) rfl rfl rfl rfl rfl rfl fun a w G S => ?_
 refine S.stepG 2 (OpR.bnot S.ok rfl (S.e 0 rfl) MT.self) rfl rfl rfl rfl rfl rfl fun a w G S => ?_
 refine S.s (τ := BT (!(shortF [rg,ra,rb,rc]))) (OpR.pick S.ok rfl (S.e 3 rfl) (S.g 0 rfl)) rfl fun a w G S => ?_
 refine S.s (OpR.mv S.ok rfl (S.g 0 rfl)) rfl fun a w G S => ?_
 rcases Bool.eq_false_or_eq_true (!(shortF [rg,ra,rb,rc])) with hc1 | hc1
 ·
  replace S := S.boolIs 0 rfl hc1
  refine S.skipG 0 rfl rfl rfl rfl rfl rfl fun a w G S => ?_
  refine S.skipG 1 rfl rfl rfl rfl rfl rfl fun a w G S => ?_
  refine S.skipG 2 rfl rfl rfl rfl rfl rfl fun a w G S => ?_
  refine S.s (τ := BT true) (OpR.pick S.ok rfl (S.e 3 rfl) rfl) rfl fun a w G S => ?_
  refine wpList_nil (hK _ _ ?_);clear hK K
  replace S := S.d12.d11.d10.d9.d8.d7.d6.d5.d4.d3.d2.d1
  refine wp_cond_true (S.e 0 rfl) ?_
  refine wp_reg fun K hK => ?_
  refine S.s (τ := BT true) (OpR.call0 rfl c_9 (lawake_ok S.ok )) rfl fun a w G S => ?_
  replace S := S.d2
  refine S.s (OpR.asn S.ok rfl (S.g 0 rfl)) rfl fun a w G S => ?_
  refine wpList_nil (hK _ _ ?_);clear hK K
  replace S := S.d1
  exact wp_ret (then_ret (S.retTmp rfl (S.g 0 rfl)))
 ·
  have hs1 := not_false_of hc1
  replace S := S.boolIs 0 rfl hc1
  replace S := (S.castBox (τ' := PTS [(some 3,FX 64 rg),(some 3,FX 64 ra),(some 3,FX 64 rb),(some 3,FX 64 rc)]) 0 rfl fun _ h _ => quad_toFX h hs1).n0
  refine S.stepG 0 (OpR.ldBox S.ok rfl (S.e 10 rfl) (S.box 0 rfl) tS_37) rfl rfl rfl rfl rfl rfl fun a w G S => ?_
  refine S.stepG (τ := MT.ex (errV 51 (chkF [rg,ra,rb,rc]))) 1 (OpR.call1 rfl c_17 (xCheck_ok S.ok (S.g 0 rfl) (by decide) (by decide))) rfl rfl rfl rfl rfl rfl fun a w G S => ?_
  refine S.stepG (τ := BT (decide ((chkF [rg,ra,rb,rc]) ≠ 0))) 2 (OpR.isB errV_neq (OpR.errNeqNil S.ok rfl if_26 (S.e 0 rfl) (by first | exact .inl rfl | exact .inr ⟨_,_,rfl⟩ | exact errV_or _) rfl)) rfl rfl rfl rfl rfl rfl fun a w G S => ?_
  refine S.s (τ := BT (decide ((chkF [rg,ra,rb,rc]) ≠ 0))) (OpR.pick S.ok rfl (S.e 3 rfl) (S.g 0 rfl)) rfl fun a w G S => ?_
  refine wpList_nil (hK _ _ ?_);clear hK K
  replace S := S.d12.d11.d10.d9.d8.d7.d6.d5.d4.d3.d2.d1
  refine S.cond 0 rfl (fun hc4 => ?_) (fun hc4 => ?_)
  ·
   have hp5 := of_decide_eq_true hc4
   refine wp_reg fun K hK => ?_
   refine S.s (τ := BT true) (OpR.call0 rfl c_9 (lawake_ok S.ok )) rfl fun a w G S => ?_
   replace S := S.d2
   refine S.s (OpR.asn S.ok rfl (S.g 0 rfl)) rfl fun a w G S => ?_
   refine wpList_nil (hK _ _ ?_);clear hK K
   replace S := S.d1
   exact wp_ret (then_ret (S.retTmp rfl (S.g 0 rfl)))
  ·
   have hp6 := of_decide_eq_false hc4
   have hck : chkF [rg,ra,rb,rc] = 0 := by omega
   refine wp_skip ?_
   refine hK _ _ ?_;clear hK K
   refine wp_reg fun K hK => ?_
   refine S.s (OpR.ldBox S.ok rfl (S.e 2 rfl) (S.box 0 rfl) tS_37) rfl fun a w G S => ?_
   refine S.s (τ := MT.tup2 (IT (excRes [rg,ra,rb,rc])) (MT.ex (errV 51 (chkF [rg,ra,rb,rc])))) (OpR.call1 rfl c_24 (xExcess_ok S.ok (S.g 0 rfl) (by decide) (by decide))) rfl fun a w G S => ?_
   refine S.s (OpR.mv S.ok rfl (S.g 0 rfl)) rfl fun a w G S => ?_
   refine S.s (OpR.ext2a S.ok rfl (S.g 0 rfl)) rfl fun a w G S => ?_
   refine S.s (OpR.ext2b S.ok rfl (S.g 1 rfl)) rfl fun a w G S => ?_
   refine S.s (τ := IT (excF [rg,ra,rb,rc])) (OpR.asn S.ok rfl ((S.e 1 rfl).trans (iv_eq (excRes_ok hck)))) rfl fun a w G S => ?_
   refine S.s (τ := MT.ex (errV 51 (0))) (OpR.asn S.ok rfl ((S.e 1 rfl).trans (congrArg (errV 51) hck))) rfl fun a w G S => ?_
   refine wpList_nil (hK _ _ ?_);clear hK K
   replace S := S.d6.d5.d4.d3.d2
   refine wp_seq_k fun K hK => ?_
   refine wp_reg fun K hK => ?_
   refine S.s (OpR.mv S.ok rfl (S.g 0 rfl)) rfl fun a w G S => ?_
   refine S.s (τ := BT false) (OpR.isB (errV_neq.trans (by rfl)) (OpR.errNeqNil S.ok rfl if_26 (S.e 0 rfl) (by first | exact .inl rfl | exact .inr ⟨_,_,rfl⟩ | exact errV_or _) rfl)) rfl fun a w G S => ?_
   refine wpList_nil (hK _ _ ?_);clear hK K
   replace S := S.d2.d1
   refine wp_cond_false (S.e 0 rfl) ?_
   refine wp_skip ?_
   refine hK _ _ ?_;clear hK K
   refine wp_reg fun K hK => ?_
   refine S.s (τ := PB b1) (OpR.fldA S.ok rfl (S.e 4 rfl) fo_37_0 rfl) rfl fun a w G S => ?_
   refine S.s (OpR.ldPart S.ok rfl (S.e 0 rfl) (S.box 0 rfl) tS_35 fun _ h hs => part_load (PTS.part 0 rfl rfl h hs) rfl) rfl fun a w G S => ?_
   refine S.s (τ := MT.ex (Value.pointer (some ⟨b1,3,none⟩))) (OpR.fldA S.ok rfl (S.e 6 rfl) fo_37_1 rfl) rfl fun a w G S => ?_
   refine S.s (OpR.ldPart S.ok rfl (S.e 0 rfl) (S.box 0 rfl) tS_35 fun _ h hs => part_load (PTS.part 1 rfl rfl h hs) rfl) rfl fun a w G S => ?_
   refine S.s (τ := MT.ex (Value.pointer (some ⟨b1,6,none⟩))) (OpR.fldA S.ok rfl (S.e 8 rfl) fo_37_2 rfl) rfl fun a w G S => ?_
   refine S.s (OpR.ldPart S.ok rfl (S.e 0 rfl) (S.box 0 rfl) tS_35 fun _ h hs => part_load (PTS.part 2 rfl rfl h hs) rfl) rfl fun a w G S => ?_
   refine S.s (τ := MT.ex (Value.pointer (some ⟨b1,9,none⟩))) (OpR.fldA S.ok rfl (S.e 10 rfl) fo_37_3 rfl) rfl fun a w G S => ?_
   refine S.s (OpR.ldPart S.ok rfl (S.e 0 rfl) (S.box 0 rfl) tS_35 fun _ h hs => part_load (PTS.part 3 rfl rfl h hs) rfl) rfl fun a w G S => ?_
   refine S.s (τ := ARN (some 3) (([rg,ra,rb,rc]).map (FX 64))) (OpR.conv' (OpR.bldP (us := [a.eval (.tmp 32),a.eval (.tmp 34),a.eval (.tmp 36),a.eval (.tmp 38)]) (fs := (List.map (FX 64) [rg,ra,rb,rc]).map fun τ => (some 3,τ)) S.ok rfl (by simp only [List.map_toArray,List.map_cons,List.map_nil];exact ap_48 (u0 := a.eval (.tmp 32)) (u1 := a.eval (.tmp 34)) (u2 := a.eval (.tmp 36)) (u3 := a.eval (.tmp 38)) (sh (τ := FX 64 rg) (S.g 6 rfl)) (sh (τ := FX 64 ra) (S.g 4 rfl)) (sh (τ := FX 64 rb) (S.g 2 rfl)) (sh (τ := FX 64 rc) (S.g 0 rfl))) rfl (pts_cons (sh (τ := FX 64 rg) (S.g 6 rfl)) (S.g 6 rfl) (pts_cons (sh (τ := FX 64 ra) (S.g 4 rfl)) (S.g 4 rfl) (pts_cons (sh (τ := FX 64 rb) (S.g 2 rfl)) (S.g 2 rfl) (pts_cons (sh (τ := FX 64 rc) (S.g 0 rfl)) (S.g 0 rfl) pts_nil))))) fun _ _ h => PTS.arn h) rfl fun a w G S => ?_
   refine S.alloc rfl rfl rfl z_48 zs_48 rfl rfl fun b5 a w G S => ?_
   refine S.store (τ := ARN (some 3) (([rg,ra,rb,rc]).map (FX 64))) 0 rfl rfl rfl rfl (S.e 0 rfl) tS_48 (S.g 1 rfl) (sh (τ := ARN (some 3) (([rg,ra,rb,rc]).map (FX 64))) (S.g 1 rfl)) fun w S => ?_
   replace S := S.n0
   replace S := (S.castBox (τ' := ROWS (some 3) (([rg,ra,rb,rc]).map (FX 64))) 0 rfl fun _ h _ => ARN.rows h).n0
   refine wpList_nil (hK _ _ ?_);clear hK K
   replace S := S.d9.d8.d7.d6.d5.d4.d3.d2.d1
   refine wp_reg fun K hK => ?_
   refine S.s (τ := NT 0) (OpR.asn S.ok rfl (rfl : _ = nv .i64 0)) rfl fun a w G S => ?_
   refine wpList_nil (hK _ _ ?_);clear hK K
   refine wp_seq_k fun K hK => ?_
   refine wp_reg fun K hK => ?_
   refine S.s (τ := NT 0) (OpR.mv S.ok rfl (rfl : _ = nv .i64 0)) rfl fun a w G S => ?_
   refine wpList_nil (hK _ _ ?_);clear hK K
   refine wp_block ?_
   refine wp_loopJ (fun μ a w => ∃ (c : Nat) (i : Nat) (G : Gh),μ = 4 - i ∧ (i ≤ 4) ∧ (leastI ([rg,ra,rb,rc].map FR.val) c i) ∧  St W0 G0 90 [(40,NT i),(6,NT c),(5,PB b5),(30,BT false),(3,IT (excF [rg,ra,rb,rc])),(22,BT (decide ((chkF [rg,ra,rb,rc]) ≠ 0))),(2,BT false),(1,PB b1)] [⟨b5,48,some 12,ROWS (some 3) (([rg,ra,rb,rc]).map (FX 64))⟩,⟨b1,37,some 12,PTS [(some 3,FX 64 rg),(some 3,FX 64 ra),(some 3,FX 64 rb),(some 3,FX 64 rc)]⟩] a w G) (4 - 0) ⟨0,0,_,rfl,(by omega),(least_0 _),(S.keep [0,1,2,3,4,5,6,7]).keepB [0,1] (by decide)⟩ ?_
   clear S
   intro μ a w ⟨c,i,G,hm,hi,hle,S⟩
   have hc4 := hle.1
   refine wp_reg fun K hK => ?_
   refine S.s (OpR.nlss S.ok rfl (S.e 0 rfl) (rfl : _ = nv .i64 4) MT.self) rfl fun a w G S => ?_
   refine wpList_nil (hK _ _ ?_);clear hK K
   refine wp_seq_k fun K hK => ?_
   refine S.cond 0 rfl (fun hc7 => ?_) (fun hc7 => ?_)
   ·
    have hp8 := of_decide_eq_true hc7
    refine wp_skip ?_
    refine hK _ _ ?_;clear hK K
    refine wp_seq_k fun K hK => ?_
    refine wp_block ?_
    refine wp_reg fun K hK => ?_
    refine S.s (OpR.mv S.ok rfl (S.g 1 rfl)) rfl fun a w G S => ?_
    refine S.s (OpR.asn S.ok rfl (S.g 0 rfl)) rfl fun a w G S => ?_
    refine wpList_nil (hK _ _ ?_);clear hK K
    replace S := S.d1
    refine wp_seq_k fun K hK => ?_
    refine S.drawn [⟨43,.g (NT i),[]⟩,⟨44,.g (MT.ex (Value.pointer (some ⟨b5,(i) * (some 3 : Option Nat).getD 1,none⟩))),[0]⟩,⟨45,.g (FX 64 (([rg,ra,rb,rc]).getD i default)),[1]⟩,⟨46,.g (NT c),[]⟩,⟨47,.g (MT.ex (Value.pointer (some ⟨b5,(c) * (some 3 : Option Nat).getD 1,none⟩))),[3]⟩,⟨48,.g (FX 64 (([rg,ra,rb,rc]).getD c default)),[4]⟩,⟨49,.g (IT (cmpQ ((([rg,ra,rb,rc]).getD i default).val) ((([rg,ra,rb,rc]).getD c default).val))),[2,5]⟩,⟨50,.g (BT (decide ((cmpQ ((([rg,ra,rb,rc]).getD i default).val) ((([rg,ra,rb,rc]).getD c default).val)) < 0))),[6]⟩] mixedOrders (by kernel_rfl)
     ⟨fun a w G S => .of rfl (OpR.mv S.ok rfl (S.g 0 rfl)),
      fun a w G S => .of rfl (OpR.ixAr (i := i) S.ok rfl Try.underlying48 tS_35 (S.e 5 rfl) (S.e 0 rfl) rfl (by first | omega | (simp only [List.length_set,List.length_take,List.length_drop,List.length_append,List.length_map,List.length_replicate];omega)) rfl),
      fun a w G S => .of rfl (OpR.ldSM (k := some 3) (T := (FX 64)) (xs := [rg,ra,rb,rc]) (i := i) S.ok rfl (S.e 0 rfl) (S.box 0 rfl) tS_35 (by first | omega | (simp only [List.length_set,List.length_take,List.length_drop,List.length_append,List.length_map,List.length_replicate];omega))),
      fun a w G S => .of rfl (OpR.mv S.ok rfl (S.g 3 rfl)),
      fun a w G S => .of rfl (OpR.ixAr (i := c) S.ok rfl Try.underlying48 tS_35 (S.e 5 rfl) (S.e 0 rfl) rfl hc4 rfl),
      fun a w G S => .of rfl (OpR.ldSM (k := some 3) (T := (FX 64)) (xs := [rg,ra,rb,rc]) (i := c) S.ok rfl (S.e 0 rfl) (S.box 0 rfl) tS_35 (by first | omega | (simp only [List.length_set,List.length_take,List.length_drop,List.length_append,List.length_map,List.length_replicate];omega))),
      fun a w G S => .of rfl (OpR.call2 rfl c_25 (fCmp_ok S.ok (FX.toQV (S.g 0 rfl)) (FX.toQV (S.g 1 rfl)) (by decide))),
      fun a w G S => .of rfl (OpR.ilss S.ok rfl (S.e 0 rfl) (rfl : _ = nv .i64 0) MT.self),trivial⟩ fun β a w G S => ?_
    replace S : St W0 G0 90 [(50,BT (decide ((cmpQ ((([rg,ra,rb,rc]).getD i default).val) ((([rg,ra,rb,rc]).getD c default).val)) < 0))),(49,IT (cmpQ ((([rg,ra,rb,rc]).getD i default).val) ((([rg,ra,rb,rc]).getD c default).val))),(48,FX 64 (([rg,ra,rb,rc]).getD c default)),(47,MT.ex (Value.pointer (some ⟨b5,(c) * (some 3 : Option Nat).getD 1,none⟩))),(46,NT c),(45,FX 64 (([rg,ra,rb,rc]).getD i default)),(44,MT.ex (Value.pointer (some ⟨b5,(i) * (some 3 : Option Nat).getD 1,none⟩))),(43,NT i),(7,NT i),(41,BT (decide (i < 4))),(40,NT i),(6,NT c),(5,PB b5),(30,BT false),(3,IT (excF [rg,ra,rb,rc])),(22,BT (decide ((chkF [rg,ra,rb,rc]) ≠ 0))),(2,BT false),(1,PB b1)] [⟨b5,48,some 12,ROWS (some 3) (([rg,ra,rb,rc]).map (FX 64))⟩,⟨b1,37,some 12,PTS [(some 3,FX 64 rg),(some 3,FX 64 ra),(some 3,FX 64 rb),(some 3,FX 64 rc)]⟩] a _ _ := S
    refine wpList_nil (hK _ _ ?_);clear hK K
    replace S := S.d7.d6.d5.d4.d3.d2.d1
    refine S.cond 0 rfl (fun hc9 => ?_) (fun hc9 => ?_)
    ·
     have hp10 := of_decide_eq_true hc9
     refine wp_region_lit ?_
     refine S.s (OpR.mv S.ok rfl (S.g 1 rfl)) rfl fun a w G S => ?_
     replace S := S.d5
     refine S.s (OpR.asn S.ok rfl (S.g 0 rfl)) rfl fun a w G S => ?_
     refine wpList_nil ?_
     replace S := S.d1
     refine hK _ _ ?_;clear hK K
     refine wp_region_lit ?_
     refine S.s (OpR.nadd S.ok rfl (S.e 4 rfl) (rfl : _ = nv .i64 1) (wr_i64 (by omega)) MT.self) rfl fun a w G S => ?_
     replace S := S.d5
     refine S.s (OpR.mv S.ok rfl (S.g 0 rfl)) rfl fun a w G S => ?_
     refine wpList_nil ?_
     replace S := S.d1
     exact ⟨4 - (i + 1),(by omega),i,i + 1,_,rfl,(by omega),(by first | exact least_t hle (by omega) ‹_› | exact least_f hle ‹_›),(S.keep [0,1,5,6,7,8,9,10]).keepB [0,1] (by decide)⟩
    ·
     have hp11 := of_decide_eq_false hc9
     refine wp_skip ?_
     refine hK _ _ ?_;clear hK K
     refine wp_region_lit ?_
     refine S.s (OpR.nadd S.ok rfl (S.e 3 rfl) (rfl : _ = nv .i64 1) (wr_i64 (by omega)) MT.self) rfl fun a w G S => ?_
     replace S := S.d4
     refine S.s (OpR.mv S.ok rfl (S.g 0 rfl)) rfl fun a w G S => ?_
     refine wpList_nil ?_
     replace S := S.d1
     exact ⟨4 - (i + 1),(by omega),c,i + 1,_,rfl,(by omega),(by first | exact least_t hle (by omega) ‹_› | exact least_f hle ‹_›),(S.keep [0,4,5,6,7,8,9,10]).keepB [0,1] (by decide)⟩
   ·
    have hp12 := of_decide_eq_false hc7
    refine wp_exit (then_exit (then_exit (exit_same ?_)))
    clear hK K
    refine hK _ _ ?_;clear hK K
    refine wp_seq_k fun K hK => ?_
    refine wp_reg fun K hK => ?_
    have hi4 : i = 4 := by omega
    have hcc := least_end (hi4 ▸ hle)
    refine S.s (τ := NT 0) (OpR.mv S.ok rfl (rfl : _ = nv .i64 0)) rfl fun a w G S => ?_
    refine wpList_nil (hK _ _ ?_);clear hK K
    refine wp_block ?_
    refine wp_loopJ (fun μ a w => ∃ (i2 : Nat) (G : Gh),μ = 4 - i2 ∧ (i2 ≤ 4) ∧  St W0 G0 90 [(53,NT i2),(41,BT (decide (i < 4))),(6,NT c),(5,PB b5),(30,BT false),(3,IT (excF [rg,ra,rb,rc])),(22,BT (decide ((chkF [rg,ra,rb,rc]) ≠ 0))),(2,BT false),(1,PB b1)] [⟨b5,48,some 12,ROWS (some 3) (([rg,ra,rb,rc]).map (FX 64))⟩,⟨b1,37,some 12,PTS [(some 3,FX 64 rg),(some 3,FX 64 ra),(some 3,FX 64 rb),(some 3,FX 64 rc)]⟩] a w G) (4 - 0) ⟨0,_,rfl,(by omega),(S.keep [0,1,3,4,5,6,7,8,9]).keepB [0,1] (by decide)⟩ ?_
    clear S
    intro μ a w ⟨i2,G,hm,hi2,S⟩
    refine wp_reg fun K hK => ?_
    refine S.s (OpR.nlss S.ok rfl (S.e 0 rfl) (rfl : _ = nv .i64 4) MT.self) rfl fun a w G S => ?_
    refine wpList_nil (hK _ _ ?_);clear hK K
    refine wp_seq_k fun K hK => ?_
    refine S.cond 0 rfl (fun hc13 => ?_) (fun hc13 => ?_)
    ·
     have hp14 := of_decide_eq_true hc13
     refine wp_skip ?_
     refine hK _ _ ?_;clear hK K
     refine wp_seq_k fun K hK => ?_
     refine wp_block ?_
     refine wp_reg fun K hK => ?_
     refine S.s (OpR.mv S.ok rfl (S.g 1 rfl)) rfl fun a w G S => ?_
     refine S.s (OpR.asn S.ok rfl (S.g 0 rfl)) rfl fun a w G S => ?_
     refine wpList_nil (hK _ _ ?_);clear hK K
     replace S := S.d1
     refine wp_reg fun K hK => ?_
     refine S.s (OpR.ldBox S.ok rfl (S.e 10 rfl) (S.box 1 rfl) tS_37) rfl fun a w G S => ?_
     refine S.s (OpR.mv S.ok rfl (S.g 1 rfl)) rfl fun a w G S => ?_
     refine S.s (τ := MT.tup2 (BT (rotF [rg,ra,rb,rc] (((i2 : Nat) : Int)))) (MT.ex (errV 51 (rotCode [rg,ra,rb,rc] (((i2 : Nat) : Int)))))) (OpR.call2 rfl c_20 (xRotates_ok S.ok (S.g 1 rfl) ((S.e 0 rfl).trans (iv_eq (by first | rfl | omega | (simp only [Nat.zero_add,Nat.add_zero];done) | (simp;done) | (push_cast;omega)))) (by decide) (by decide))) rfl fun a w G S => ?_
     refine S.s (OpR.mv S.ok rfl (S.g 0 rfl)) rfl fun a w G S => ?_
     refine S.s (OpR.ext2a S.ok rfl (S.g 0 rfl)) rfl fun a w G S => ?_
     refine S.s (OpR.ext2b S.ok rfl (S.g 1 rfl)) rfl fun a w G S => ?_
     refine S.s (τ := BT (rotL [rg,ra,rb,rc] i2)) (OpR.asn S.ok rfl ((S.e 1 rfl).trans (bv_eq (rotF_in hck (by omega))))) rfl fun a w G S => ?_
     refine S.s (τ := MT.ex (errV 51 (0))) (OpR.asn S.ok rfl ((S.e 1 rfl).trans (congrArg (errV 51) (rot_in hck (by omega))))) rfl fun a w G S => ?_
     refine wpList_nil (hK _ _ ?_);clear hK K
     replace S := S.d7.d6.d5.d4.d3.d2
     refine wp_reg fun K hK => ?_
     have htu := turns (chk_pos hck) (show i2 < 4 by omega)
     refine S.s (OpR.mv S.ok rfl (S.g 0 rfl)) rfl fun a w G S => ?_
     refine S.s (τ := BT false) (OpR.isB (errV_neq.trans (by rfl)) (OpR.errNeqNil S.ok rfl if_26 (S.e 0 rfl) (by first | exact .inl rfl | exact .inr ⟨_,_,rfl⟩ | exact errV_or _) rfl)) rfl fun a w G S => ?_
     refine S.s (OpR.mv S.ok rfl (S.g 0 rfl)) rfl fun a w G S => ?_
     refine S.stepG 0 (OpR.mv S.ok rfl (S.g 12 rfl)) rfl rfl rfl rfl rfl rfl fun a w G S => ?_
     refine S.stepG 1 (OpR.igtr S.ok rfl (S.e 0 rfl) (rfl : _ = nv .i64 0) MT.self) rfl rfl rfl rfl rfl rfl fun a w G S => ?_
     refine S.stepG 2 (OpR.mv S.ok rfl (S.g 0 rfl)) rfl rfl rfl rfl rfl rfl fun a w G S => ?_
     rcases Bool.eq_false_or_eq_true (decide ((excF [rg,ra,rb,rc]) > 0)) with hc15 | hc15
     ·
      have hp16 := of_decide_eq_true hc15
      replace S := S.boolIs 0 rfl hc15
      refine S.stepG 0 (OpR.mv S.ok rfl (S.g 8 rfl)) rfl rfl rfl rfl rfl rfl fun a w G S => ?_
      refine S.stepG (τ := BT (rotL [rg,ra,rb,rc] i2)) 5 (OpR.pick S.ok rfl (S.e 1 rfl) (S.g 0 rfl)) rfl rfl rfl rfl rfl rfl fun a w G S => ?_
      refine S.s (τ := BT (rotL [rg,ra,rb,rc] i2)) (OpR.pick S.ok rfl (S.e 6 rfl) (S.g 0 rfl)) rfl fun a w G S => ?_
      refine S.s (OpR.mv S.ok rfl (S.g 0 rfl)) rfl fun a w G S => ?_
      rcases Bool.eq_false_or_eq_true (rotL [rg,ra,rb,rc] i2) with hc17 | hc17
      ·
       exact absurd ((htu.1 ‹_›).symm.trans hc17) (by decide)
      ·
       replace S := S.boolIs 0 rfl hc17
       refine S.stepG 0 (OpR.mv S.ok rfl (S.g 21 rfl)) rfl rfl rfl rfl rfl rfl fun a w G S => ?_
       refine S.stepG 1 (OpR.ilss S.ok rfl (S.e 0 rfl) (rfl : _ = nv .i64 0) MT.self) rfl rfl rfl rfl rfl rfl fun a w G S => ?_
       refine S.stepG 2 (OpR.mv S.ok rfl (S.g 0 rfl)) rfl rfl rfl rfl rfl rfl fun a w G S => ?_
       rcases Bool.eq_false_or_eq_true (decide ((excF [rg,ra,rb,rc]) < 0)) with hc20 | hc20
       ·
        have hp21 := of_decide_eq_true hc20
        replace S := S.boolIs 0 rfl hc20
        refine S.stepG 0 (OpR.mv S.ok rfl (S.g 17 rfl)) rfl rfl rfl rfl rfl rfl fun a w G S => ?_
        refine S.stepG 1 (OpR.mv S.ok rfl (S.g 19 rfl)) rfl rfl rfl rfl rfl rfl fun a w G S => ?_
        refine S.stepG 2 (OpR.mv S.ok rfl (S.g 24 rfl)) rfl rfl rfl rfl rfl rfl fun a w G S => ?_
        refine S.stepG 3 (OpR.neql S.ok rfl (S.e 1 rfl) (S.e 0 rfl) MT.self) rfl rfl rfl rfl rfl rfl fun a w G S => ?_
        refine S.stepG 4 (OpR.mv S.ok rfl (S.g 0 rfl)) rfl rfl rfl rfl rfl rfl fun a w G S => ?_
        rcases Bool.eq_false_or_eq_true (decide (i2 = c)) with hc22 | hc22
        ·
         have hp23 := of_decide_eq_true hc22
         replace S := S.boolIs 0 rfl hc22
         refine S.skipG 0 rfl rfl rfl rfl rfl rfl fun a w G S => ?_
         refine S.skipG 1 rfl rfl rfl rfl rfl rfl fun a w G S => ?_
         refine S.skipG 2 rfl rfl rfl rfl rfl rfl fun a w G S => ?_
         refine S.skipG 3 rfl rfl rfl rfl rfl rfl fun a w G S => ?_
         refine S.skipG 4 rfl rfl rfl rfl rfl rfl fun a w G S => ?_
         refine S.stepG (τ := BT true) 11 (OpR.pick S.ok rfl (S.e 5 rfl) rfl) rfl rfl rfl rfl rfl rfl fun a w G S => ?_
         refine S.stepG (τ := BT false) 12 (OpR.bneq S.ok rfl (S.e 11 rfl) (S.e 0 rfl) Try.underlying4 (bv_eq (by first | (exfalso;omega) | exact sh_eq1 (htu.2 ‹_›) hcc ‹_› | exact sh_eq2 (htu.2 ‹_›) hcc ‹_›))) rfl rfl rfl rfl rfl rfl fun a w G S => ?_
         refine S.stepG (τ := BT false) 17 (OpR.pick S.ok rfl (S.e 13 rfl) (S.g 0 rfl)) rfl rfl rfl rfl rfl rfl fun a w G S => ?_
         refine S.s (τ := BT false) (OpR.pick S.ok rfl (S.e 18 rfl) (S.g 0 rfl)) rfl fun a w G S => ?_
         refine wpList_nil (hK _ _ ?_);clear hK K
         replace S : St W0 G0 90 [(88,BT false),(8,NT i2),(54,BT (decide (i2 < 4))),(53,NT i2),(41,BT (decide (i < 4))),(6,NT c),(5,PB b5),(30,BT false),(3,IT (excF [rg,ra,rb,rc])),(22,BT (decide ((chkF [rg,ra,rb,rc]) ≠ 0))),(2,BT false),(1,PB b1)] [⟨b5,48,some 12,ROWS (some 3) (([rg,ra,rb,rc]).map (FX 64))⟩,⟨b1,37,some 12,PTS [(some 3,FX 64 rg),(some 3,FX 64 ra),(some 3,FX 64 rb),(some 3,FX 64 rc)]⟩] a _ _ := S.keep [0,33,34,35,36,37,38,39,40,41,42,43]
         refine wp_cond_false (S.e 0 rfl) ?_
         refine wp_skip ?_
         refine hK _ _ ?_;clear hK K
         refine wp_region_lit ?_
         refine S.s (OpR.nadd S.ok rfl (S.e 3 rfl) (rfl : _ = nv .i64 1) (wr_i64 (by omega)) MT.self) rfl fun a w G S => ?_
         replace S := S.d4
         refine S.s (OpR.mv S.ok rfl (S.g 0 rfl)) rfl fun a w G S => ?_
         refine wpList_nil ?_
         replace S := S.d1
         exact ⟨4 - (i2 + 1),(by omega),i2 + 1,_,rfl,(by omega),(S.keep [0,4,5,6,7,8,9,10,11]).keepB [0,1] (by decide)⟩
        ·
         have hp24 := of_decide_eq_false hc22
         replace S := S.boolIs 0 rfl hc22
         refine S.stepG 0 (OpR.mv S.ok rfl (S.g 24 rfl)) rfl rfl rfl rfl rfl rfl fun a w G S => ?_
         refine S.stepG 1 (OpR.nadd S.ok rfl (S.e 0 rfl) (rfl : _ = nv .i64 3) (wr_i64 (by omega)) MT.self) rfl rfl rfl rfl rfl rfl fun a w G S => ?_
         refine S.stepG 2 (OpR.nrem S.ok rfl (S.e 0 rfl) (rfl : _ = nv .i64 4) (by omega) MT.self) rfl rfl rfl rfl rfl rfl fun a w G S => ?_
         refine S.stepG 3 (OpR.mv S.ok rfl (S.g 31 rfl)) rfl rfl rfl rfl rfl rfl fun a w G S => ?_
         refine S.stepG 4 (OpR.neql S.ok rfl (S.e 1 rfl) (S.e 0 rfl) MT.self) rfl rfl rfl rfl rfl rfl fun a w G S => ?_
         refine S.stepG (τ := BT (decide (((i2 + 3) % 4) = c))) 11 (OpR.pick S.ok rfl (S.e 5 rfl) (S.g 0 rfl)) rfl rfl rfl rfl rfl rfl fun a w G S => ?_
         refine S.stepG (τ := BT false) 12 (OpR.bneq S.ok rfl (S.e 11 rfl) (S.e 0 rfl) Try.underlying4 (bv_eq (by first | (exfalso;omega) | exact sh_eq1 (htu.2 ‹_›) hcc ‹_› | exact sh_eq2 (htu.2 ‹_›) hcc ‹_›))) rfl rfl rfl rfl rfl rfl fun a w G S => ?_
         refine S.stepG (τ := BT false) 17 (OpR.pick S.ok rfl (S.e 13 rfl) (S.g 0 rfl)) rfl rfl rfl rfl rfl rfl fun a w G S => ?_
         refine S.s (τ := BT false) (OpR.pick S.ok rfl (S.e 18 rfl) (S.g 0 rfl)) rfl fun a w G S => ?_
         refine wpList_nil (hK _ _ ?_);clear hK K
         replace S : St W0 G0 90 [(88,BT false),(8,NT i2),(54,BT (decide (i2 < 4))),(53,NT i2),(41,BT (decide (i < 4))),(6,NT c),(5,PB b5),(30,BT false),(3,IT (excF [rg,ra,rb,rc])),(22,BT (decide ((chkF [rg,ra,rb,rc]) ≠ 0))),(2,BT false),(1,PB b1)] [⟨b5,48,some 12,ROWS (some 3) (([rg,ra,rb,rc]).map (FX 64))⟩,⟨b1,37,some 12,PTS [(some 3,FX 64 rg),(some 3,FX 64 ra),(some 3,FX 64 rb),(some 3,FX 64 rc)]⟩] a _ _ := S.keep [0,33,34,35,36,37,38,39,40,41,42,43]
         refine wp_cond_false (S.e 0 rfl) ?_
         refine wp_skip ?_
         refine hK _ _ ?_;clear hK K
         refine wp_region_lit ?_
         refine S.s (OpR.nadd S.ok rfl (S.e 3 rfl) (rfl : _ = nv .i64 1) (wr_i64 (by omega)) MT.self) rfl fun a w G S => ?_
         replace S := S.d4
         refine S.s (OpR.mv S.ok rfl (S.g 0 rfl)) rfl fun a w G S => ?_
         refine wpList_nil ?_
         replace S := S.d1
         exact ⟨4 - (i2 + 1),(by omega),i2 + 1,_,rfl,(by omega),(S.keep [0,4,5,6,7,8,9,10,11]).keepB [0,1] (by decide)⟩
       ·
        have hp25 := of_decide_eq_false hc20
        replace S := S.boolIs 0 rfl hc20
        refine S.skipG 0 rfl rfl rfl rfl rfl rfl fun a w G S => ?_
        refine S.skipG 1 rfl rfl rfl rfl rfl rfl fun a w G S => ?_
        refine S.skipG 2 rfl rfl rfl rfl rfl rfl fun a w G S => ?_
        refine S.skipG 3 rfl rfl rfl rfl rfl rfl fun a w G S => ?_
        refine S.skipG 4 rfl rfl rfl rfl rfl rfl fun a w G S => ?_
        refine S.skipU 0 rfl rfl rfl rfl rfl rfl fun a w G S => ?_
        refine S.skipU 1 rfl rfl rfl rfl rfl rfl fun a w G S => ?_
        refine S.skipU 2 rfl rfl rfl rfl rfl rfl fun a w G S => ?_
        refine S.skipU 3 rfl rfl rfl rfl rfl rfl fun a w G S => ?_
        refine S.skipU 4 rfl rfl rfl rfl rfl rfl fun a w G S => ?_
        refine S.skipG 10 rfl rfl rfl rfl rfl rfl fun a w G S => ?_
        refine S.skipG 11 rfl rfl rfl rfl rfl rfl fun a w G S => ?_
        refine S.stepG (τ := BT false) 16 (OpR.pick S.ok rfl (S.e 12 rfl) rfl) rfl rfl rfl rfl rfl rfl fun a w G S => ?_
        refine S.s (τ := BT false) (OpR.pick S.ok rfl (S.e 17 rfl) (S.g 0 rfl)) rfl fun a w G S => ?_
        refine wpList_nil (hK _ _ ?_);clear hK K
        replace S : St W0 G0 90 [(88,BT false),(8,NT i2),(54,BT (decide (i2 < 4))),(53,NT i2),(41,BT (decide (i < 4))),(6,NT c),(5,PB b5),(30,BT false),(3,IT (excF [rg,ra,rb,rc])),(22,BT (decide ((chkF [rg,ra,rb,rc]) ≠ 0))),(2,BT false),(1,PB b1)] [⟨b5,48,some 12,ROWS (some 3) (([rg,ra,rb,rc]).map (FX 64))⟩,⟨b1,37,some 12,PTS [(some 3,FX 64 rg),(some 3,FX 64 ra),(some 3,FX 64 rb),(some 3,FX 64 rc)]⟩] a _ _ := S.keep [0,32,33,34,35,36,37,38,39,40,41,42]
        refine wp_cond_false (S.e 0 rfl) ?_
        refine wp_skip ?_
        refine hK _ _ ?_;clear hK K
        refine wp_region_lit ?_
        refine S.s (OpR.nadd S.ok rfl (S.e 3 rfl) (rfl : _ = nv .i64 1) (wr_i64 (by omega)) MT.self) rfl fun a w G S => ?_
        replace S := S.d4
        refine S.s (OpR.mv S.ok rfl (S.g 0 rfl)) rfl fun a w G S => ?_
        refine wpList_nil ?_
        replace S := S.d1
        exact ⟨4 - (i2 + 1),(by omega),i2 + 1,_,rfl,(by omega),(S.keep [0,4,5,6,7,8,9,10,11]).keepB [0,1] (by decide)⟩
     ·
      have hp26 := of_decide_eq_false hc15
      replace S := S.boolIs 0 rfl hc15
      refine S.skipG 0 rfl rfl rfl rfl rfl rfl fun a w G S => ?_
      refine S.stepG (τ := BT false) 5 (OpR.pick S.ok rfl (S.e 1 rfl) rfl) rfl rfl rfl rfl rfl rfl fun a w G S => ?_
      refine S.s (τ := BT false) (OpR.pick S.ok rfl (S.e 6 rfl) (S.g 0 rfl)) rfl fun a w G S => ?_
      refine S.s (OpR.mv S.ok rfl (S.g 0 rfl)) rfl fun a w G S => ?_
      refine S.stepG 0 (OpR.mv S.ok rfl (S.g 20 rfl)) rfl rfl rfl rfl rfl rfl fun a w G S => ?_
      refine S.stepG 1 (OpR.ilss S.ok rfl (S.e 0 rfl) (rfl : _ = nv .i64 0) MT.self) rfl rfl rfl rfl rfl rfl fun a w G S => ?_
      refine S.stepG 2 (OpR.mv S.ok rfl (S.g 0 rfl)) rfl rfl rfl rfl rfl rfl fun a w G S => ?_
      rcases Bool.eq_false_or_eq_true (decide ((excF [rg,ra,rb,rc]) < 0)) with hc27 | hc27
      ·
       have hp28 := of_decide_eq_true hc27
       replace S := S.boolIs 0 rfl hc27
       refine S.stepG 0 (OpR.mv S.ok rfl (S.g 16 rfl)) rfl rfl rfl rfl rfl rfl fun a w G S => ?_
       refine S.stepG 1 (OpR.mv S.ok rfl (S.g 18 rfl)) rfl rfl rfl rfl rfl rfl fun a w G S => ?_
       refine S.stepG 2 (OpR.mv S.ok rfl (S.g 23 rfl)) rfl rfl rfl rfl rfl rfl fun a w G S => ?_
       refine S.stepG 3 (OpR.neql S.ok rfl (S.e 1 rfl) (S.e 0 rfl) MT.self) rfl rfl rfl rfl rfl rfl fun a w G S => ?_
       refine S.stepG 4 (OpR.mv S.ok rfl (S.g 0 rfl)) rfl rfl rfl rfl rfl rfl fun a w G S => ?_
       rcases Bool.eq_false_or_eq_true (decide (i2 = c)) with hc29 | hc29
       ·
        have hp30 := of_decide_eq_true hc29
        replace S := S.boolIs 0 rfl hc29
        refine S.skipG 0 rfl rfl rfl rfl rfl rfl fun a w G S => ?_
        refine S.skipG 1 rfl rfl rfl rfl rfl rfl fun a w G S => ?_
        refine S.skipG 2 rfl rfl rfl rfl rfl rfl fun a w G S => ?_
        refine S.skipG 3 rfl rfl rfl rfl rfl rfl fun a w G S => ?_
        refine S.skipG 4 rfl rfl rfl rfl rfl rfl fun a w G S => ?_
        refine S.stepG (τ := BT true) 11 (OpR.pick S.ok rfl (S.e 5 rfl) rfl) rfl rfl rfl rfl rfl rfl fun a w G S => ?_
        refine S.stepG (τ := BT false) 12 (OpR.bneq S.ok rfl (S.e 11 rfl) (S.e 0 rfl) Try.underlying4 (bv_eq (by first | (exfalso;omega) | exact sh_eq1 (htu.2 ‹_›) hcc ‹_› | exact sh_eq2 (htu.2 ‹_›) hcc ‹_›))) rfl rfl rfl rfl rfl rfl fun a w G S => ?_
        refine S.stepG (τ := BT false) 17 (OpR.pick S.ok rfl (S.e 13 rfl) (S.g 0 rfl)) rfl rfl rfl rfl rfl rfl fun a w G S => ?_
        refine S.s (τ := BT false) (OpR.pick S.ok rfl (S.e 18 rfl) (S.g 0 rfl)) rfl fun a w G S => ?_
        refine wpList_nil (hK _ _ ?_);clear hK K
        replace S : St W0 G0 90 [(88,BT false),(8,NT i2),(54,BT (decide (i2 < 4))),(53,NT i2),(41,BT (decide (i < 4))),(6,NT c),(5,PB b5),(30,BT false),(3,IT (excF [rg,ra,rb,rc])),(22,BT (decide ((chkF [rg,ra,rb,rc]) ≠ 0))),(2,BT false),(1,PB b1)] [⟨b5,48,some 12,ROWS (some 3) (([rg,ra,rb,rc]).map (FX 64))⟩,⟨b1,37,some 12,PTS [(some 3,FX 64 rg),(some 3,FX 64 ra),(some 3,FX 64 rb),(some 3,FX 64 rc)]⟩] a _ _ := S.keep [0,32,33,34,35,36,37,38,39,40,41,42]
        refine wp_cond_false (S.e 0 rfl) ?_
        refine wp_skip ?_
        refine hK _ _ ?_;clear hK K
        refine wp_region_lit ?_
        refine S.s (OpR.nadd S.ok rfl (S.e 3 rfl) (rfl : _ = nv .i64 1) (wr_i64 (by omega)) MT.self) rfl fun a w G S => ?_
        replace S := S.d4
        refine S.s (OpR.mv S.ok rfl (S.g 0 rfl)) rfl fun a w G S => ?_
        refine wpList_nil ?_
        replace S := S.d1
        exact ⟨4 - (i2 + 1),(by omega),i2 + 1,_,rfl,(by omega),(S.keep [0,4,5,6,7,8,9,10,11]).keepB [0,1] (by decide)⟩
       ·
        have hp31 := of_decide_eq_false hc29
        replace S := S.boolIs 0 rfl hc29
        refine S.stepG 0 (OpR.mv S.ok rfl (S.g 23 rfl)) rfl rfl rfl rfl rfl rfl fun a w G S => ?_
        refine S.stepG 1 (OpR.nadd S.ok rfl (S.e 0 rfl) (rfl : _ = nv .i64 3) (wr_i64 (by omega)) MT.self) rfl rfl rfl rfl rfl rfl fun a w G S => ?_
        refine S.stepG 2 (OpR.nrem S.ok rfl (S.e 0 rfl) (rfl : _ = nv .i64 4) (by omega) MT.self) rfl rfl rfl rfl rfl rfl fun a w G S => ?_
        refine S.stepG 3 (OpR.mv S.ok rfl (S.g 30 rfl)) rfl rfl rfl rfl rfl rfl fun a w G S => ?_
        refine S.stepG 4 (OpR.neql S.ok rfl (S.e 1 rfl) (S.e 0 rfl) MT.self) rfl rfl rfl rfl rfl rfl fun a w G S => ?_
        refine S.stepG (τ := BT (decide (((i2 + 3) % 4) = c))) 11 (OpR.pick S.ok rfl (S.e 5 rfl) (S.g 0 rfl)) rfl rfl rfl rfl rfl rfl fun a w G S => ?_
        refine S.stepG (τ := BT false) 12 (OpR.bneq S.ok rfl (S.e 11 rfl) (S.e 0 rfl) Try.underlying4 (bv_eq (by first | (exfalso;omega) | exact sh_eq1 (htu.2 ‹_›) hcc ‹_› | exact sh_eq2 (htu.2 ‹_›) hcc ‹_›))) rfl rfl rfl rfl rfl rfl fun a w G S => ?_
        refine S.stepG (τ := BT false) 17 (OpR.pick S.ok rfl (S.e 13 rfl) (S.g 0 rfl)) rfl rfl rfl rfl rfl rfl fun a w G S => ?_
        refine S.s (τ := BT false) (OpR.pick S.ok rfl (S.e 18 rfl) (S.g 0 rfl)) rfl fun a w G S => ?_
        refine wpList_nil (hK _ _ ?_);clear hK K
        replace S : St W0 G0 90 [(88,BT false),(8,NT i2),(54,BT (decide (i2 < 4))),(53,NT i2),(41,BT (decide (i < 4))),(6,NT c),(5,PB b5),(30,BT false),(3,IT (excF [rg,ra,rb,rc])),(22,BT (decide ((chkF [rg,ra,rb,rc]) ≠ 0))),(2,BT false),(1,PB b1)] [⟨b5,48,some 12,ROWS (some 3) (([rg,ra,rb,rc]).map (FX 64))⟩,⟨b1,37,some 12,PTS [(some 3,FX 64 rg),(some 3,FX 64 ra),(some 3,FX 64 rb),(some 3,FX 64 rc)]⟩] a _ _ := S.keep [0,32,33,34,35,36,37,38,39,40,41,42]
        refine wp_cond_false (S.e 0 rfl) ?_
        refine wp_skip ?_
        refine hK _ _ ?_;clear hK K
        refine wp_region_lit ?_
        refine S.s (OpR.nadd S.ok rfl (S.e 3 rfl) (rfl : _ = nv .i64 1) (wr_i64 (by omega)) MT.self) rfl fun a w G S => ?_
        replace S := S.d4
        refine S.s (OpR.mv S.ok rfl (S.g 0 rfl)) rfl fun a w G S => ?_
        refine wpList_nil ?_
        replace S := S.d1
        exact ⟨4 - (i2 + 1),(by omega),i2 + 1,_,rfl,(by omega),(S.keep [0,4,5,6,7,8,9,10,11]).keepB [0,1] (by decide)⟩
      ·
       have hp32 := of_decide_eq_false hc27
       replace S := S.boolIs 0 rfl hc27
       refine S.skipG 0 rfl rfl rfl rfl rfl rfl fun a w G S => ?_
       refine S.skipG 1 rfl rfl rfl rfl rfl rfl fun a w G S => ?_
       refine S.skipG 2 rfl rfl rfl rfl rfl rfl fun a w G S => ?_
       refine S.skipG 3 rfl rfl rfl rfl rfl rfl fun a w G S => ?_
       refine S.skipG 4 rfl rfl rfl rfl rfl rfl fun a w G S => ?_
       refine S.skipU 0 rfl rfl rfl rfl rfl rfl fun a w G S => ?_
       refine S.skipU 1 rfl rfl rfl rfl rfl rfl fun a w G S => ?_
       refine S.skipU 2 rfl rfl rfl rfl rfl rfl fun a w G S => ?_
       refine S.skipU 3 rfl rfl rfl rfl rfl rfl fun a w G S => ?_
       refine S.skipU 4 rfl rfl rfl rfl rfl rfl fun a w G S => ?_
       refine S.skipG 10 rfl rfl rfl rfl rfl rfl fun a w G S => ?_
       refine S.skipG 11 rfl rfl rfl rfl rfl rfl fun a w G S => ?_
       refine S.stepG (τ := BT false) 16 (OpR.pick S.ok rfl (S.e 12 rfl) rfl) rfl rfl rfl rfl rfl rfl fun a w G S => ?_
       refine S.s (τ := BT false) (OpR.pick S.ok rfl (S.e 17 rfl) (S.g 0 rfl)) rfl fun a w G S => ?_
       refine wpList_nil (hK _ _ ?_);clear hK K
       replace S : St W0 G0 90 [(88,BT false),(8,NT i2),(54,BT (decide (i2 < 4))),(53,NT i2),(41,BT (decide (i < 4))),(6,NT c),(5,PB b5),(30,BT false),(3,IT (excF [rg,ra,rb,rc])),(22,BT (decide ((chkF [rg,ra,rb,rc]) ≠ 0))),(2,BT false),(1,PB b1)] [⟨b5,48,some 12,ROWS (some 3) (([rg,ra,rb,rc]).map (FX 64))⟩,⟨b1,37,some 12,PTS [(some 3,FX 64 rg),(some 3,FX 64 ra),(some 3,FX 64 rb),(some 3,FX 64 rc)]⟩] a _ _ := S.keep [0,31,32,33,34,35,36,37,38,39,40,41]
       refine wp_cond_false (S.e 0 rfl) ?_
       refine wp_skip ?_
       refine hK _ _ ?_;clear hK K
       refine wp_region_lit ?_
       refine S.s (OpR.nadd S.ok rfl (S.e 3 rfl) (rfl : _ = nv .i64 1) (wr_i64 (by omega)) MT.self) rfl fun a w G S => ?_
       replace S := S.d4
       refine S.s (OpR.mv S.ok rfl (S.g 0 rfl)) rfl fun a w G S => ?_
       refine wpList_nil ?_
       replace S := S.d1
       exact ⟨4 - (i2 + 1),(by omega),i2 + 1,_,rfl,(by omega),(S.keep [0,4,5,6,7,8,9,10,11]).keepB [0,1] (by decide)⟩
    ·
     have hp33 := of_decide_eq_false hc13
     refine wp_exit (then_exit (then_exit (exit_same ?_)))
     clear hK K
     refine hK _ _ ?_;clear hK K
     refine wp_reg fun K hK => ?_
     replace S := S.d8
     refine S.s (τ := BT true) (OpR.asn S.ok rfl rfl) rfl fun a w G S => ?_
     refine wpList_nil (hK _ _ ?_);clear hK K
     exact wp_ret (S.retTmp rfl (S.g 0 rfl))
end Go.Proofs.Ytdeihehaheelmaa
namespace Go.Proofs.Ytdeihehaheelmaa
open Go.RowKit (Below)
def G0of (W : World) : Gh := fun b => W.heap[b]?
theorem G0of_ok (W : World) : Gok W (G0of W) := fun _ _ h => h
theorem Gc_G0 {W : World} {b i : Nat} : Gc (G0of W) b i = W.cell? ⟨b, i, none⟩ := by
  unfold Gc G0of World.cell?; cases W.heap[b]? with
  | none => rfl
  | some o => cases o <;> rfl
def RdA (P : Program) (W : World) (t : TypeId) (k : Option Nat) (A : MT → Prop) : Prop := ∀ (H : Type) (enc : TypeId × Value → H) (fuel : Nat) (cs : List Value) (x : DataW H × List MemPlace),
  DataW.trod enc P W 0 (fun _ => true) true fuel t cs = some x → (x.1.weights P t).all (· ≤ reachBytes) = true → ∃ (v : Value) (τ : MT), A τ ∧ v.cells.toList = cs ∧ Shaped k v ∧ τ.t v (G0of W)
section
variable {P : Program} {W : World} {t e : TypeId} {k : Option Nat} {A A' : MT → Prop}
theorem RdA.mono (h : RdA P W t k A) (hA : ∀ τ v, A τ → τ.t v (G0of W) → ∃ σ, A' σ ∧ σ.t v (G0of W)) : RdA P W t k A' := fun H enc fuel cs x hx hw => by
  obtain ⟨v, τ, h1, h2, h3, h4⟩ := h H enc fuel cs x hx hw
  obtain ⟨σ, h5, h6⟩ := hA τ v h1 h4
  exact ⟨v, σ, h5, h2, h3, h6⟩
theorem rd_bool (ht : P.underlying t = some .bool) : RdA P W t none (fun τ => ∃ b, τ = .ex (.bool b)) := fun H enc fuel cs x hx hw => by
  obtain ⟨b, rfl, rfl⟩ := DataW.trod_bool ht hx
  exact ⟨.bool b, _, ⟨b, rfl⟩, rfl, ⟨rfl, rfl⟩, rfl⟩
theorem rd_int {kk : IntKind} (ht : P.underlying t = some (.int kk)) : RdA P W t none (fun τ => ∃ z, (Lit.int kk z).wf = true ∧ τ = .ex (.int kk z)) := fun H enc fuel cs x hx hw => by
  obtain ⟨z, rfl, rfl, h⟩ := DataW.trod_int ht hx
  exact ⟨.int kk z, _, ⟨z, h, rfl⟩, rfl, ⟨rfl, rfl⟩, rfl⟩
theorem cells_get {a : Addr} {n : Nat} {L : List Value} (h : W.cells? 0 a n = some L) : L.length = n ∧ ∀ j, j < n → W.cell? (a.add j) = L[j]? := by
  unfold World.cells? at h
  rw [if_pos (Nat.zero_le _)] at h
  exact ⟨by simpa using mapM_some_length h, fun j hj => mapM_some_get h j j (by simp [hj])⟩
theorem weightsAll_mem {H : Type} {es : List (DataW H)} {d : DataW H} {i : Nat} (hi : es[i]? = some d) : ∀ n ∈ d.weights P e, n ∈ DataW.weightsAll P e es := by
  induction es generalizing i with
  | nil => simp at hi
  | cons x r ih =>
    intro n hn
    rw [DataW.weightsAll, List.mem_append]
    cases i with
    | zero => simp at hi; subst hi; exact .inl hn
    | succ j => exact .inr (ih (by simpa using hi) n hn)
theorem rd_slice (ht : P.underlying t = some (.slice e)) (hc : P.cellsOf e = k.getD 1) (hc0 : 0 < k.getD 1) (hb : 4 ≤ P.bytesOf e) (h : RdA P W e k A) : RdA P W t none (fun τ => ∃ τs, (∀ σ ∈ τs, A σ) ∧ τ = LS k τs) := fun H enc fuel cs x hx hw => by
  rcases DataW.trod_slice ht hx with ⟨rfl, rfl⟩ | ⟨a, len, cap, elems, rest, n, rfl, rfl, rfl, hb0, hlc, hcm, hel, hE, _, _⟩
  · exact ⟨.slice none 0 0, LS k [], ⟨[], by simp, rfl⟩, rfl, ⟨rfl, rfl⟩, LS.nil⟩
  · simp only [DataW.weights, ht, List.all_cons, List.all_append, Bool.and_eq_true, decide_eq_true_eq] at hw
    obtain ⟨hw1, hw2, _⟩ := hw
    have hlim : len ≤ LIM := by
      have h1 : len * 4 ≤ ((elems.map (·.1)).length + (rest.map (·.1)).length) * P.bytesOf e := Nat.mul_le_mul (by simp; omega) hb
      have h2 : reachBytes = 140737488351232 := rfl
      simp only [LIM]; omega
    have each : ∀ i, ∃ (v : Value) (τ : MT), i < len → W.cells? 0 (a.add (i * k.getD 1)) (k.getD 1) = some v.cells.toList ∧ A τ ∧ Shaped k v ∧ τ.t v (G0of W) := fun i => by
      by_cases hi : i < len
      · have h1 := hE i hi
        rw [List.getElem?_eq_getElem (by omega), Option.bind_eq_some_iff, hc] at h1
        obtain ⟨cs', h2, h3⟩ := h1
        obtain ⟨v, τ, h4, h5, h6, h7⟩ := h H enc n cs' _ h3 (List.all_eq_true.2 fun m hm => List.all_eq_true.1 hw2 m (weightsAll_mem (i := i) (by rw [List.getElem?_map, List.getElem?_eq_getElem (by omega)]; rfl) m hm))
        exact ⟨v, τ, fun _ => ⟨by rw [h5]; exact h2, h4, h6, h7⟩⟩
      · exact ⟨undef, .ex undef, fun h => absurd h hi⟩
    obtain ⟨f, g, hfg⟩ : ∃ (f : Nat → Value) (g : Nat → MT), ∀ i, i < len → W.cells? 0 (a.add (i * k.getD 1)) (k.getD 1) = some (f i).cells.toList ∧ A (g i) ∧ Shaped k (f i) ∧ (g i).t (f i) (G0of W) := ⟨fun i => (each i).choose, fun i => (each i).choose_spec.choose, fun i => (each i).choose_spec.choose_spec⟩
    refine ⟨.slice (some a) len cap, LS k ((List.range len).map g), ⟨_, fun σ hσ => ?_, rfl⟩, rfl, ⟨rfl, rfl⟩, LS.of_vals (us := (List.range len).map f) (A := some a) (c := cap) (by simp) (by simpa using hlc) (by simpa using hlim) ⟨by simp, fun i τ u hi hu => ?_⟩ fun i u hu => ?_⟩
    · obtain ⟨i, hi, rfl⟩ := List.mem_map.1 hσ
      exact (hfg i (by simpa using hi)).2.1
    · have hlt : i < len := by have := (List.getElem?_eq_some_iff.1 hi).1; simpa using this
      simp [List.getElem?_range hlt] at hi hu
      subst hi; subst hu
      exact (hfg i hlt).2.2
    · have hlt : i < len := by have := (List.getElem?_eq_some_iff.1 hu).1; simpa using this
      simp [List.getElem?_range hlt] at hu
      subst hu
      obtain ⟨h1, h2, h3, h4⟩ := hfg i hlt
      obtain ⟨h5, h6⟩ := cells_get h1
      obtain ⟨g5, g6⟩ := cells_get (hfg 0 (by omega)).1
      obtain ⟨b, off, spot⟩ := a
      have h7 := g6 0 hc0
      rw [List.getElem?_eq_getElem (by omega)] at h7
      have hs : spot = none := by simpa [Addr.add] using World.cell?_spot h7
      subst hs
      refine ⟨b, off, rfl, fun j x hj => ?_⟩
      have hjl : j < k.getD 1 := by have := (Array.getElem?_eq_some_iff.1 hj).1; rw [← h5, Array.length_toList]; exact this
      have h8 := h6 j hjl
      rw [Gc_G0]
      rw [addr_add, addr_add, Array.getElem?_toList, hj] at h8
      exact h8
theorem forall_map {α : Type} {T : α → MT} {τs : List MT} (h : ∀ σ ∈ τs, ∃ x, σ = T x) : ∃ xs : List α, τs = xs.map T := by
  induction τs with
  | nil => exact ⟨[], rfl⟩
  | cons a r ih =>
    obtain ⟨l, rfl⟩ := ih fun σ h' => h σ (List.mem_cons_of_mem _ h')
    obtain ⟨x, rfl⟩ := h a (List.mem_cons_self ..)
    exact ⟨x :: l, rfl⟩
theorem forall_map' {α : Type} {T : α → MT} {p : α → Prop} {τs : List MT} (h : ∀ σ ∈ τs, ∃ x, p x ∧ σ = T x) : ∃ xs : List α, τs = xs.map T ∧ ∀ x ∈ xs, p x := by
  induction τs with
  | nil => exact ⟨[], rfl, by simp⟩
  | cons a r ih =>
    obtain ⟨l, rfl, hl⟩ := ih fun σ h' => h σ (List.mem_cons_of_mem _ h')
    obtain ⟨x, hx, rfl⟩ := h a (List.mem_cons_self ..)
    exact ⟨x :: l, rfl, by simpa using ⟨hx, hl⟩⟩
theorem rd_words (ht : P.underlying t = some (.slice e)) (hu : P.underlying e = some (.int .u32)) (hc : P.cellsOf e = 1) (hb : 4 ≤ P.bytesOf e) : RdA P W t none (fun τ => ∃ l, τ = SL l) := by
  have h1 : RdA P W e none (fun τ => ∃ x : Nat, x < 4294967296 ∧ τ = .ex (u32 x)) := (rd_int hu).mono fun τ v ⟨z, hz, hτ⟩ hv => by
    subst hτ
    have hm : IntKind.u32.min = 0 := by decide
    have hM : IntKind.u32.max = 4294967295 := by decide
    simp [Lit.wf, hm, hM] at hz
    exact ⟨_, ⟨z.toNat, by omega, rfl⟩, by
      have : (z.toNat : Int) = z := by omega
      show v = .int .u32 (z.toNat : Int); rw [this]; exact hv⟩
  refine (rd_slice (k := none) ht hc (by decide) hb h1).mono fun τ v ⟨τs, hσ, hτ⟩ hv => ?_
  subst hτ
  obtain ⟨l, hl, hlt⟩ := forall_map' hσ
  subst hl
  obtain ⟨A, c, us, h2, h3, h4, h5, h6⟩ := LS.vals hv
  rw [List.length_map] at h2 h3 h4
  refine ⟨_, ⟨l, rfl⟩, A, c, h2, h3, h4, hlt, fun i x hi => ?_⟩
  have hil := (List.getElem?_eq_some_iff.1 hi).1
  have hul : i < us.length := by rw [h5.1, List.length_map]; exact hil
  have hui : us[i]? = some us[i] := by rw [List.getElem?_eq_getElem hul]
  have h7 := (h5.2 i (.ex (u32 x)) us[i] (by rw [List.getElem?_map, hi]; rfl) hui).2
  obtain ⟨b, off, e1, h8⟩ := h6 i us[i] hui
  refine ⟨b, off, e1, ?_⟩
  have h9 : us[i] = u32 x := h7
  rw [h9] at h8
  simpa using h8 0 (u32 x) rfl
def FldOk (P : Program) (W : World) : Nat → List Field → List (Option Nat × (MT → Prop)) → Prop
  | _, [], [] => True
  | off, f :: fs, a :: As => f.offset = off ∧ P.cellsOf f.type = a.1.getD 1 ∧ RdA P W f.type a.1 a.2 ∧ FldOk P W (off + a.1.getD 1) fs As
  | _, _, _ => False
def Mt : List (Option Nat × (MT → Prop)) → List (Option Nat × MT) → Prop
  | [], [] => True
  | a :: As, f :: F => f.1 = a.1 ∧ a.2 f.2 ∧ Mt As F
  | _, _ => False
def tot (As : List (Option Nat × (MT → Prop))) : Nat := (As.map fun a => a.1.getD 1).sum
theorem Mt.tot : ∀ {As : List (Option Nat × (MT → Prop))} {F : List (Option Nat × MT)}, Mt As F → (F.map fun f => f.1.getD 1).sum = Go.Proofs.Ytdeihehaheelmaa.tot As
  | [], [], _ => rfl
  | a :: As, f :: F, h => by
    have := Mt.tot h.2.2
    simp only [Go.Proofs.Ytdeihehaheelmaa.tot, List.map_cons, List.sum_cons, h.1] at this ⊢
    rw [this]
  | [], _ :: _, h => h.elim
  | _ :: _, [], h => h.elim
theorem rd_fields {H : Type} {enc : TypeId × Value → H} {n : Nat} {cs : List Value} : ∀ (fs : List Field) (As : List (Option Nat × (MT → Prop))) (xs : List (DataW H × List MemPlace)) (off : Nat), FldOk P W off fs As → xs.length = fs.length →
    (∀ (i : Nat) (f : Field), fs[i]? = some f → DataW.trod enc P W 0 (fun _ => true) true n f.type ((cs.drop f.offset).take (P.cellsOf f.type)) = xs[i]?) → (DataW.weightsEach P (fs.map (·.type)) (xs.map (·.1))).all (· ≤ reachBytes) = true → cs.length = off + tot As →
    ∃ us F, Mt As F ∧ flat us = cs.drop off ∧ us.length = F.length ∧ ∀ (i : Nat) (f : Option Nat × MT) (u : Value), F[i]? = some f → us[i]? = some u → Shaped f.1 u ∧ f.2.t u (G0of W)
  | [], [], xs, off, _, _, _, _, hl => ⟨[], [], trivial, by rw [List.drop_eq_nil_of_le (by rw [hl]; simp [tot])]; rfl, rfl, fun i f u h => by simp at h⟩
  | f :: fs, a :: As, [], off, _, hx, _, _, _ => by simp at hx
  | f :: fs, a :: As, x :: xs, off, hF, hx, hT, hw, hl => by
    obtain ⟨h1, h2, h3, h4⟩ := hF
    simp only [List.map_cons, DataW.weightsEach, List.all_append, Bool.and_eq_true] at hw
    obtain ⟨v, τ, h5, h6, h7, h8⟩ := h3 H enc n _ x (hT 0 f rfl) hw.1
    obtain ⟨us, F, g1, g2, g3, g4⟩ := rd_fields fs As xs (off + a.1.getD 1) h4 (by simpa using hx) (fun i g hg => by simpa using hT (i + 1) g (by simpa using hg)) hw.2 (by rw [hl]; simp [tot]; omega)
    refine ⟨v :: us, (a.1, τ) :: F, ⟨rfl, h5, g1⟩, ?_, by simp [g3], fun i f' u hf hu => ?_⟩
    · rw [flat_cons, h6, g2, h1, h2, ← List.drop_drop, List.take_append_drop]
    · cases i with
      | zero => simp at hf hu; subst hf; subst hu; exact ⟨h7, h8⟩
      | succ i => exact g4 i f' u (by simpa using hf) (by simpa using hu)
  | [], _ :: _, _, _, h, _, _, _, _ => h.elim
  | _ :: _, [], _, _, h, _, _, _, _ => h.elim
theorem rd_struct {fs : Array Field} {As : List (Option Nat × (MT → Prop))} {n : Nat} (ht : P.underlying t = some (.struct fs)) (hn : P.cellsOf t = n) (hnA : tot As = n) (hF : FldOk P W 0 fs.toList As) : RdA P W t (some n) (fun τ => ∃ F, Mt As F ∧ τ = PTS F) := fun H enc fuel cs x hx hw => by
  obtain ⟨xs, m, rfl, rfl, hl, hxl, hT⟩ := DataW.trod_struct ht hx
  simp only [DataW.weights, ht] at hw
  obtain ⟨us, F, h1, h2, h3, h4⟩ := rd_fields fs.toList As xs 0 hF (by simpa using hxl) (fun i f hf => hT i f (by simpa using hf)) hw (by omega)
  have hP : (PTS F).t (.agg (flat us).toArray) (G0of W) := ⟨us, rfl, h3, h4⟩
  refine ⟨.agg (flat us).toArray, PTS F, ⟨F, h1, rfl⟩, by rw [h2]; rfl, PTS.shaped (by unfold offs; rw [List.take_length, h1.tot, hnA]) hP, hP⟩
theorem shaped1 {u : Value} (h : Shaped none u) : u.cells = #[u] := h.1
theorem PTS.toQR {s : Bool} {p q : List Nat} {v : Value} {G : Gh} (h : (PTS [(none, .ex (.bool s)), (none, SL p), (none, SL q)]).t v G) : (QR s p q).t v G := by
  obtain ⟨us, rfl, hl, h⟩ := h
  match us, hl, h with
  | [u0, u1, u2], _, h =>
    obtain ⟨a0, b0⟩ := h 0 _ u0 rfl rfl
    obtain ⟨a1, b1⟩ := h 1 _ u1 rfl rfl
    obtain ⟨a2, b2⟩ := h 2 _ u2 rfl rfl
    refine ⟨u1, u2, ?_, b1, b2⟩
    have e0 : u0 = .bool s := b0
    simp only [flat, List.flatMap_cons, List.flatMap_nil, shaped1 a0, shaped1 a1, shaped1 a2]
    rw [e0]; rfl
theorem rd_frac {fs : Array Field} {f0 f1 f2 : Field} {tw : TypeId} (ht : P.underlying t = some (.struct fs)) (hf : fs.toList = [f0, f1, f2]) (hn : P.cellsOf t = 3) (h0 : f0.offset = 0 ∧ P.cellsOf f0.type = 1 ∧ P.underlying f0.type = some .bool) (h1 : f1.offset = 1 ∧ f1.type = tw) (h2 : f2.offset = 2 ∧ f2.type = tw)
    (hw : P.underlying tw = some (.slice e) ∧ P.cellsOf tw = 1) (he : P.underlying e = some (.int .u32) ∧ P.cellsOf e = 1 ∧ 4 ≤ P.bytesOf e) : RdA P W t (some 3) (fun τ => ∃ r : FR, τ = QR r.s r.p r.q) := by
  have hW : RdA P W tw none (fun τ => ∃ l, τ = SL l) := rd_words hw.1 he.1 he.2.1 he.2.2
  refine (rd_struct (As := [(none, fun τ => ∃ b, τ = .ex (.bool b)), (none, fun τ => ∃ l, τ = SL l), (none, fun τ => ∃ l, τ = SL l)]) ht hn rfl (by
    rw [hf]; exact ⟨h0.1, h0.2.1, rd_bool h0.2.2, h1.1, by rw [h1.2]; exact hw.2, by rw [h1.2]; exact hW, h2.1, by rw [h2.2]; exact hw.2, by rw [h2.2]; exact hW, trivial⟩)).mono fun τ v ⟨F, hM, hτ⟩ hv => ?_
  subst hτ
  match F, hM with
  | [a, b, c], ⟨a1, ⟨s, a2⟩, b1, ⟨p, b2⟩, c1, ⟨q, c2⟩, _⟩ =>
    obtain ⟨a0, a'⟩ := a; obtain ⟨b0, b'⟩ := b; obtain ⟨c0, c'⟩ := c
    simp only at a1 a2 b1 b2 c1 c2
    subst a1; subst a2; subst b1; subst b2; subst c1; subst c2
    exact ⟨_, ⟨⟨s, p, q⟩, rfl⟩, PTS.toQR hv⟩
theorem rd_list {α : Type} {T : α → MT} (ht : P.underlying t = some (.slice e)) (hc : P.cellsOf e = k.getD 1) (hc0 : 0 < k.getD 1) (hb : 4 ≤ P.bytesOf e) (h : RdA P W e k (fun τ => ∃ x, τ = T x)) : RdA P W t none (fun τ => ∃ xs : List α, τ = LS k (xs.map T)) :=
  (rd_slice ht hc hc0 hb h).mono fun τ v ⟨τs, hσ, hτ⟩ hv => by
    obtain ⟨xs, rfl⟩ := forall_map hσ
    subst hτ
    exact ⟨_, ⟨xs, rfl⟩, hv⟩
theorem rd_arg {H : Type} {enc : TypeId × Value → H} {v : Value} {d : DataW H} {ps : List MemPlace} (h : RdA P W t k A) (hd : DataW.Trod enc P W 0 (fun _ => true) true t v d ps) (hw : (d.weights P t).all (· ≤ reachBytes) = true)
    (hv : match k with | none => v.cells = #[v] | some _ => ∃ cs, v = .agg cs) : ∃ τ, A τ ∧ Shaped k v ∧ τ.t v (G0of W) := by
  obtain ⟨fuel, hf⟩ := hd
  obtain ⟨u, τ, h1, h2, h3, h4⟩ := h H enc fuel _ _ hf hw
  have : u = v := by
    cases k with
    | none =>
      have h5 : u.cells = #[u] := h3.1
      rw [h5, hv] at h2
      simpa using h2
    | some n =>
      obtain ⟨cs, rfl⟩ := hv
      obtain ⟨cs', rfl, _⟩ := h3
      have : cs'.toList = cs.toList := h2
      rw [Array.toList_inj.1 this]
  subst this
  exact ⟨τ, h1, h3, h4⟩
end
end Go.Proofs.Ytdeihehaheelmaa
namespace Go.Proofs.Ytdeihehaheelmaa.grashofShortestDone
open Go.ChangeShapes Go.WideShapes Go.ChangeAt Go.RowKit
theorem own : ownKnob Try.prog.godebug = none := by kernel_rfl
theorem laidOut : laidOutB Try.prog = true := by kernel_rfl
theorem rd35 (W : World) : RdA Try.prog W 35 (some 3) (fun τ => ∃ r : FR, τ = RX r) :=
  rd_frac (tw := 33) (e := 88) Try.underlying35 rfl (by kernel_rfl) ⟨rfl, by kernel_rfl, Try.underlying4⟩ ⟨rfl, rfl⟩ ⟨rfl, rfl⟩ ⟨Try.underlying33, by kernel_rfl⟩ ⟨Try.underlying88, by kernel_rfl, of_decide_eq_true (by kernel_rfl)⟩
theorem rd37 (W : World) : RdA Try.prog W 37 (some 12) (fun τ => ∃ x : (FR) × (FR) × (FR) × (FR), τ = PTS [(some 3, RX (x.1)), (some 3, RX (x.2.1)), (some 3, RX (x.2.2.1)), (some 3, RX (x.2.2.2))]) :=
  (rd_struct (As := [(some 3, fun τ => ∃ x : FR, τ = RX x), (some 3, fun τ => ∃ x : FR, τ = RX x), (some 3, fun τ => ∃ x : FR, τ = RX x), (some 3, fun τ => ∃ x : FR, τ = RX x)]) Try.underlying37 (by kernel_rfl) rfl ⟨rfl, by kernel_rfl, rd35 W, rfl, by kernel_rfl, rd35 W, rfl, by kernel_rfl, rd35 W, rfl, by kernel_rfl, rd35 W, trivial⟩).mono fun τ v ⟨F, hM, hτ⟩ hv => by
    subst hτ
    match F, hM with
    | [(m0k, m0t), (m1k, m1t), (m2k, m2t), (m3k, m3t)], ⟨m0e, ⟨m0x, m0h⟩, m1e, ⟨m1x, m1h⟩, m2e, ⟨m2x, m2h⟩, m3e, ⟨m3x, m3h⟩, _⟩ =>
      simp only at m0e m0h
      subst m0e; subst m0h
      simp only at m1e m1h
      subst m1e; subst m1h
      simp only at m2e m2h
      subst m2e; subst m2h
      simp only at m3e m3h
      subst m3e; subst m3h
      exact ⟨_, ⟨(m0x, m1x, m2x, m3x), rfl⟩, hv⟩
set_option maxRecDepth 100000 in
theorem lifted (os : Os) (started : os.Started) (H : Type) (enc : TypeId × Value → H) :
    ReturnsInHanded {} Try.checked os 6 .any (Rows.grashofShortestSpec.pre6 enc Try.prog Try.f6 Rows.grashofShortestRow.domain false) (Rows.grashofShortestSpec.post enc Try.prog Try.f6 false true false false) := by
  refine returnsInHanded_of_change_sized (C := Try.checked) own started (by kernel_rfl) Try.func6
    (ChangeSpec.witness6 (enc := enc) (C := Try.checked) false ⟨#[], #[.agg #[.bool false, .slice none 0 0, .slice none 0 0, .bool false, .slice none 0 0, .slice none 0 0, .bool false, .slice none 0 0, .slice none 0 0, .bool false, .slice none 0 0, .slice none 0 0]], []⟩ 8 (by kernel_rfl) (by kernel_rfl) (by kernel_rfl) (by kernel_rfl)) ?_
  intro W base args ds gs before hval0 hW hcnd hsz _
  have hval : ∀ (j : Nat) t v, Try.f6.params[j]? = some t → args[j]? = some v → Value.okWide Try.prog W .any base t v := hval0
  have hW' := hW
  obtain ⟨p, q, hA0, hV, rfl, hfz, hnd⟩ := hW
  have hA : DataW.TrodAll enc Try.prog W 0 (fun _ => true) true Try.f6.params.toList args.toList ds p := hA0
  have hsz : (DataW.weightsEach Try.prog (Try.f6.params.toList ++ _) (ds ++ gs)).all (· ≤ reachBytes) = true := hsz
  rw [Try.params6] at hA hval hsz
  obtain ⟨v0, vs0, d0, ds0, p0, q0, hargs, rfl, rfl, h0, r0⟩ := trodAll_cons hA
  obtain ⟨rfl, rfl, rfl⟩ := trodAll_nil r0
  obtain rfl : args = #[v0] := by cases args; simp_all
  obtain ⟨rfl, rfl⟩ := trodVars_none hV
  obtain ⟨cs0, rfl, hcs0⟩ := okWide_struct Try.underlying37 (hval 0 37 v0 rfl rfl)
  have k0 := h0
  have lt0 : ∀ x ∈ p0, x.block < W.heap.size := by obtain ⟨m, hm⟩ := k0; exact DataW.trod_lt m _ _ _ hm
  have z0 : (d0.weights Try.prog 37).all (· ≤ reachBytes) = true := List.all_eq_true.2 fun x hx => List.all_eq_true.1 hsz x (DataW.weights_mem_each (j := 0) rfl rfl x hx)
  obtain ⟨τ0, ⟨x0, rfl⟩, _, H0⟩ := rd_arg (rd37 W) k0 z0 ⟨_, rfl⟩
  clear hA0 hval0
  refine (lShortest_ok (G0of_ok W) H0).mono fun e W' hr => ?_
  obtain ⟨v, G', rfl, hv, hn⟩ := hr
  have hv : v = .bool true := hv
  subst hv
  have bel : RowKit.Below W.heap.size W W' := hn.below
  exact ⟨_, rfl, _, _, _, [], _, [], hW', trodAll_mk1 (shut_bool Try.underlying4 _), (trodAll_cons_mk (Below.trod laidOut (by kernel_rfl) (of_decide_eq_true (by kernel_rfl)) k0 bel lt0) trodAll_mk0), rfl, bel.frame _, fun h => by cases h⟩
theorem over : Rows.grashofShortestRow.holds Try.pinned (OpenSpec.ofChange Rows.grashofShortestSpec) :=
  OpenClaim.holds_of_wide 6 Try.f6 rfl rfl rfl rfl rfl rfl rfl ⟨rfl, rfl, rfl, rfl, rfl⟩ rfl rfl rfl rfl rfl (by kernel_rfl) Try.func6 (by kernel_rfl)
    (of_decide_eq_true (by kernel_rfl)) (by unfold Func.isWrapper; first | (rw [if_pos (by decide +kernel)]; kernel_rfl) | (rw [if_neg (by decide +kernel)]; exact ⟨rfl, rfl⟩))
    (fun os started H enc _ => lifted os started H enc)
theorem proved : Rows.GrashofShortestSaid := over
end Go.Proofs.Ytdeihehaheelmaa.grashofShortestDone
