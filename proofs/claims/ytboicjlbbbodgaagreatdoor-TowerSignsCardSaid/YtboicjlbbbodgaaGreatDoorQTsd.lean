import Derived.Test.YtboicjlbbbodgaaGreatDoorProg
import Derived.Test.YtboicjlbbbodgaaGreatDoorQTsc
set_option linter.unusedVariables false
set_option linter.unusedSimpArgs false
namespace Go.Proofs.YtboicjlbbbodgaaGreatDoor
def Cau (f : Nat → Rat) : Prop:=∀ e : Rat,0 < e → ∃ N,∀ i j,N ≤ i → N ≤ j → f i - f j < e
def Ceq (f g : Nat → Rat) : Prop:=∀ e : Rat,0 < e → ∃ N,∀ i,N ≤ i → f i - g i < e ∧ g i - f i < e
def Cnn (f : Nat → Rat) : Prop:=∀ e : Rat,0 < e → ∃ N,∀ i,N ≤ i → -e < f i
theorem half_pos {e : Rat} (h : 0 < e) : 0 < e / 2:=by grind
theorem rmul_pos {a b : Rat} (ha : 0 < a) (hb : 0 < b) : 0 < a * b:=Rat.mul_pos ha hb
theorem rdiv_pos {a b : Rat} (ha : 0 < a) (hb : 0 < b) : 0 < a / b:=by
  rw [Rat.div_def];exact Rat.mul_pos ha (Rat.inv_pos.2 hb)
theorem rmul_div {a b : Rat} (hb : 0 < b) : a / b * b = a:=by grind
theorem rmul_le {a b c d : Rat} (h1 : 0 ≤ a) (h2 : a ≤ b) (h3 : 0 ≤ c) (h4 : c ≤ d) : a * c ≤ b * d:=by
  have e1 : 0 ≤ (b - a) * c:=Rat.mul_nonneg (by grind) h3
  have e2 : 0 ≤ b * (d - c):=Rat.mul_nonneg (by grind) (by grind)
  grind
theorem Ceq.refl (f : Nat → Rat) : Ceq f f:=fun e he=>⟨0,fun i _=>by constructor <;> grind⟩
theorem Ceq.symm {f g : Nat → Rat} (h : Ceq f g) : Ceq g f:=fun e he=>by
  obtain ⟨N,hN⟩:=h e he;exact ⟨N,fun i hi=>⟨(hN i hi).2,(hN i hi).1⟩⟩
theorem Ceq.trans {f g k : Nat → Rat} (h : Ceq f g) (h' : Ceq g k) : Ceq f k:=fun e he=>by
  obtain ⟨N,hN⟩:=h (e / 2) (half_pos he);obtain ⟨M,hM⟩:=h' (e / 2) (half_pos he)
  refine ⟨max N M,fun i hi=>?_⟩
  have h1:=hN i (by omega);have h2:=hM i (by omega)
  constructor <;> grind
theorem Cau.const (q : Rat) : Cau fun _=>q:=fun e he=>⟨0,fun i j _ _=>by grind⟩
theorem Cau.add {f g : Nat → Rat} (h : Cau f) (h' : Cau g) : Cau fun n=>f n + g n:=fun e he=>by
  obtain ⟨N,hN⟩:=h (e / 2) (half_pos he);obtain ⟨M,hM⟩:=h' (e / 2) (half_pos he)
  refine ⟨max N M,fun i j hi hj=>?_⟩
  have h1:=hN i j (by omega) (by omega);have h2:=hM i j (by omega) (by omega)
  grind
theorem Cau.neg {f : Nat → Rat} (h : Cau f) : Cau fun n=>-f n:=fun e he=>by
  obtain ⟨N,hN⟩:=h e he
  exact ⟨N,fun i j hi hj=>by have:=hN j i hj hi;grind⟩
theorem Cau.bound {f : Nat → Rat} (h : Cau f) : ∃ B : Rat,0 < B ∧ ∀ i,-B < f i ∧ f i < B:=by
  obtain ⟨N,hN⟩:=h 1 (by grind)
  have hfin : ∀ n,∃ B : Rat,0 < B ∧ ∀ i,i ≤ n → -B < f i ∧ f i < B:=by
    intro n
    induction n with
    | zero =>
      rcases Rat.le_total (a:=0) (b:=(f 0)) with h0 | h0
      · exact ⟨f 0 + 1, by grind, fun i hi => by obtain rfl : i = 0 := by omega
                                                 constructor <;> grind⟩
      · exact ⟨1 - f 0, by grind, fun i hi => by obtain rfl : i = 0 := by omega
                                                 constructor <;> grind⟩
    | succ n ih =>
      obtain ⟨B,hB,hb⟩:=ih
      rcases Rat.le_total (a:=0) (b:=(f (n + 1))) with h0 | h0
      · refine ⟨B + f (n + 1) + 1,by grind,fun i hi=>?_⟩
        rcases Nat.lt_or_ge n i with h1 | h1
        · obtain rfl : i = n + 1:=by omega
          constructor <;> grind
        · have:=hb i h1;constructor <;> grind
      · refine ⟨B - f (n + 1) + 1,by grind,fun i hi=>?_⟩
        rcases Nat.lt_or_ge n i with h1 | h1
        · obtain rfl : i = n + 1:=by omega
          constructor <;> grind
        · have:=hb i h1;constructor <;> grind
  obtain ⟨B,hB,hb⟩:=hfin N
  refine ⟨B + 1,by grind,fun i=>?_⟩
  rcases Nat.lt_or_ge N i with h1 | h1
  · have a:=hN i N (by omega) (Nat.le_refl _);have b:=hN N i (Nat.le_refl _) (by omega);have c:=hb N (Nat.le_refl _)
    constructor <;> grind
  · have:=hb i h1;constructor <;> grind
theorem small_mul {a b e B : Rat} (hB : 0 < B) (h1 : -B < b ∧ b < B) (h2 : -(e / B) < a ∧ a < e / B) : -e < a * b ∧ a * b < e:=by
  have hd:=rmul_div (a:=e) hB
  generalize e / B = d at *
  have hd0 : 0 < d:=by grind
  rcases Rat.le_total (a:=0) (b:=a) with ha | ha <;> rcases Rat.le_total (a:=0) (b:=b) with hb | hb
  · have p:=Rat.mul_nonneg ha hb
    have q : 0 ≤ (d - a) * b:=Rat.mul_nonneg (by grind) hb
    have r : 0 < d * (B - b):=Rat.mul_pos hd0 (by grind)
    constructor <;> grind
  · have p : 0 ≤ a * -b:=Rat.mul_nonneg ha (by grind)
    have q : 0 ≤ (d - a) * -b:=Rat.mul_nonneg (by grind) (by grind)
    have r : 0 < d * (B + b):=Rat.mul_pos hd0 (by grind)
    constructor <;> grind
  · have p : 0 ≤ -a * b:=Rat.mul_nonneg (by grind) hb
    have q : 0 ≤ (d + a) * b:=Rat.mul_nonneg (by grind) hb
    have r : 0 < d * (B - b):=Rat.mul_pos hd0 (by grind)
    constructor <;> grind
  · have p : 0 ≤ -a * -b:=Rat.mul_nonneg (by grind) (by grind)
    have q : 0 ≤ (d + a) * -b:=Rat.mul_nonneg (by grind) (by grind)
    have r : 0 < d * (B + b):=Rat.mul_pos hd0 (by grind)
    constructor <;> grind
theorem Cau.mul {f g : Nat → Rat} (h : Cau f) (h' : Cau g) : Cau fun n=>f n * g n:=fun e he=>by
  obtain ⟨B,hB,hb⟩:=h.bound;obtain ⟨C,hC,hc⟩:=h'.bound
  have he1:=rdiv_pos (half_pos he) hC
  have he2:=rdiv_pos (half_pos he) hB
  obtain ⟨N,hN⟩:=h _ he1
  obtain ⟨M,hM⟩:=h' _ he2
  refine ⟨max N M,fun i j hi hj=>?_⟩
  have a1:=hN i j (by omega) (by omega);have a2:=hN j i (by omega) (by omega)
  have b1:=hM i j (by omega) (by omega);have b2:=hM j i (by omega) (by omega)
  have p:=small_mul (a:=f i - f j) (b:=g i) hC (hc i) ⟨by grind,a1⟩
  have q:=small_mul (a:=g i - g j) (b:=f j) hB (hb j) ⟨by grind,b1⟩
  grind
theorem Ceq.add {f g f' g' : Nat → Rat} (h : Ceq f f') (h' : Ceq g g') : Ceq (fun n=>f n + g n) fun n=>f' n + g' n:=fun e he=>by
  obtain ⟨N,hN⟩:=h (e / 2) (half_pos he);obtain ⟨M,hM⟩:=h' (e / 2) (half_pos he)
  refine ⟨max N M,fun i hi=>?_⟩
  have h1:=hN i (by omega);have h2:=hM i (by omega)
  constructor <;> grind
theorem Ceq.neg {f g : Nat → Rat} (h : Ceq f g) : Ceq (fun n=>-f n) fun n=>-g n:=fun e he=>by
  obtain ⟨N,hN⟩:=h e he
  exact ⟨N,fun i hi=>by have:=hN i hi;constructor <;> grind⟩
theorem Ceq.mul {f g f' g' : Nat → Rat} (cg : Cau g) (cf' : Cau f') (h : Ceq f f') (h' : Ceq g g') : Ceq (fun n=>f n * g n) fun n=>f' n * g' n:=fun e he=>by
  obtain ⟨B,hB,hb⟩:=cf'.bound;obtain ⟨C,hC,hc⟩:=cg.bound
  obtain ⟨N,hN⟩:=h _ (rdiv_pos (half_pos he) hC)
  obtain ⟨M,hM⟩:=h' _ (rdiv_pos (half_pos he) hB)
  refine ⟨max N M,fun i hi=>?_⟩
  have a:=hN i (by omega);have b:=hM i (by omega)
  have p:=small_mul (a:=f i - f' i) (b:=g i) hC (hc i) ⟨by grind,a.1⟩
  have q:=small_mul (a:=g i - g' i) (b:=f' i) hB (hb i) ⟨by grind,b.1⟩
  constructor <;> grind
theorem Cnn.ceq {f g : Nat → Rat} (h : Cnn f) (h' : Ceq f g) : Cnn g:=fun e he=>by
  obtain ⟨N,hN⟩:=h (e / 2) (half_pos he);obtain ⟨M,hM⟩:=h' (e / 2) (half_pos he)
  refine ⟨max N M,fun i hi=>?_⟩
  have h1:=hN i (by omega);have h2:=hM i (by omega)
  grind
theorem Cnn.add {f g : Nat → Rat} (h : Cnn f) (h' : Cnn g) : Cnn fun n=>f n + g n:=fun e he=>by
  obtain ⟨N,hN⟩:=h (e / 2) (half_pos he);obtain ⟨M,hM⟩:=h' (e / 2) (half_pos he)
  refine ⟨max N M,fun i hi=>?_⟩
  have h1:=hN i (by omega);have h2:=hM i (by omega)
  grind
theorem Cnn.mul {f g : Nat → Rat} (cf : Cau f) (cg : Cau g) (h : Cnn f) (h' : Cnn g) : Cnn fun n=>f n * g n:=fun e he=>by
  obtain ⟨B,hB,hb⟩:=cf.bound;obtain ⟨C,hC,hc⟩:=cg.bound
  obtain ⟨N,hN⟩:=h _ (rdiv_pos (half_pos he) hC)
  obtain ⟨M,hM⟩:=h' _ (rdiv_pos (half_pos he) hB)
  refine ⟨max N M,fun i hi=>?_⟩
  have a:=hN i (by omega);have b:=hM i (by omega)
  rcases Rat.le_total (a:=0) (b:=(f i)) with ha | ha <;> rcases Rat.le_total (a:=0) (b:=(g i)) with hb' | hb'
  · have:=Rat.mul_nonneg ha hb';grind
  · have:=(small_mul (e:=e / 2) (a:=g i) (b:=f i) hB (hb i) ⟨by grind,by have:=rdiv_pos (half_pos he) hB;grind⟩).1;grind
  · have:=(small_mul (e:=e / 2) (a:=f i) (b:=g i) hC (hc i) ⟨by grind,by have:=rdiv_pos (half_pos he) hC;grind⟩).1;grind
  · have : 0 ≤ -f i * -g i:=Rat.mul_nonneg (by grind) (by grind)
    grind
theorem Cau.away {f : Nat → Rat} (h : Cau f) (h0 : ¬ Cnn f) : ∃ e : Rat,0 < e ∧ ∃ N,∀ i,N ≤ i → f i < -e:=by
  unfold Cnn at h0
  have h1 : ∃ e : Rat,0 < e ∧ ∀ N,∃ i,N ≤ i ∧ f i ≤ -e:=by
    refine Classical.byContradiction fun hn=>h0 fun e he=>Classical.byContradiction fun hN=>hn ⟨e,he,fun N=>Classical.byContradiction fun hi=>hN ⟨N,fun i hNi=>?_⟩⟩
    exact Rat.not_le.1 fun hle=>hi ⟨i,hNi,hle⟩
  obtain ⟨e,he,hi⟩:=h1
  obtain ⟨N,hN⟩:=h (e / 2) (half_pos he)
  obtain ⟨k,hk,hfk⟩:=hi N
  exact ⟨e / 2,half_pos he,N,fun i hi=>by have:=hN i k hi hk;grind⟩
theorem Cnn.total {f : Nat → Rat} (h : Cau f) : Cnn f ∨ Cnn fun n=>-f n:=by
  by_cases h0 : Cnn f
  · exact .inl h0
  · obtain ⟨e,he,N,hN⟩:=h.away h0
    exact .inr fun d hd=>⟨N,fun i hi=>by have:=hN i hi;grind⟩
theorem Cnn.anti {f : Nat → Rat} (h : Cnn f) (h' : Cnn fun n=>-f n) : Ceq f fun _=>0:=fun e he=>by
  obtain ⟨N,hN⟩:=h e he;obtain ⟨M,hM⟩:=h' e he
  refine ⟨max N M,fun i hi=>?_⟩
  have h1:=hN i (by omega);have h2:=hM i (by omega)
  constructor <;> grind
theorem Cau.inv {f : Nat → Rat} (h : Cau f) {e : Rat} (he : 0 < e) {N : Nat} (hN : ∀ i,N ≤ i → e < f i ∨ f i < -e) : Cau fun n=>(f n)⁻¹:=fun d hd=>by
  obtain ⟨M,hM⟩:=h (d * (e * e)) (rmul_pos hd (rmul_pos he he))
  refine ⟨max N M,fun i j hi hj=>?_⟩
  have a:=hN i (by omega);have b:=hN j (by omega);have c:=hM i j (by omega) (by omega);have c':=hM j i (by omega) (by omega)
  have hi0 : f i ≠ 0:=by rintro hz;rw [hz] at a;grind
  have hj0 : f j ≠ 0:=by rintro hz;rw [hz] at b;grind
  have hsq : ∀ x : Rat,e < x ∨ x < -e → ∀ y : Rat,e < y ∨ y < -e → e * e ≤ x * y ∨ x * y ≤ -(e * e):=fun x hx y hy=>by
    rcases hx with hx | hx <;> rcases hy with hy | hy
    · exact .inl (rmul_le (by grind) (by grind) (by grind) (by grind))
    · have:=rmul_le (a:=e) (b:=x) (c:=e) (d:=-y) (by grind) (by grind) (by grind) (by grind);exact .inr (by grind)
    · have:=rmul_le (a:=e) (b:=-x) (c:=e) (d:=y) (by grind) (by grind) (by grind) (by grind);exact .inr (by grind)
    · have:=rmul_le (a:=e) (b:=-x) (c:=e) (d:=-y) (by grind) (by grind) (by grind) (by grind);exact .inl (by grind)
  have hp:=hsq _ a _ b
  have heq : (f i)⁻¹ - (f j)⁻¹ = (f j - f i) / (f i * f j):=by grind
  rw [heq]
  have hne : f i * f j ≠ 0:=by grind
  replace c : -(f j - f i) < d * (e * e):=by grind
  have hee:=rmul_pos he he
  generalize f i * f j = m at *
  generalize f j - f i = t at *
  generalize e * e = E at *
  have hde : d * E ≤ d * m ∨ d * E ≤ -(d * m):=by
    rcases hp with hp | hp
    · have:=Rat.mul_nonneg (a:=d) (b:=m - E) (by grind) (by grind);exact .inl (by grind)
    · have:=Rat.mul_nonneg (a:=d) (b:=-m - E) (by grind) (by grind);exact .inr (by grind)
  rcases hp with hp | hp
  · have hm : 0 < m:=by grind
    have hd' : d * E ≤ d * m:=by have:=Rat.mul_nonneg (a:=d) (b:=m - E) (by grind) (by grind);grind
    refine Rat.not_le.1 fun hle=>?_
    have e2 : t / m * m = t:=rmul_div hm
    have:=Rat.mul_nonneg (a:=t / m - d) (b:=m) (by grind) (by grind)
    generalize t / m = q at *
    grind
  · have hm : 0 < -m:=by grind
    have hd' : d * E ≤ d * -m:=by have:=Rat.mul_nonneg (a:=d) (b:=-m - E) (by grind) (by grind);grind
    refine Rat.not_le.1 fun hle=>?_
    have e2 : t / m * m = t:=by grind
    have:=Rat.mul_nonneg (a:=t / m - d) (b:=-m) (by grind) (by grind)
    generalize t / m = q at *
    grind
def CS : Type:={ f : Nat → Rat // Cau f }
instance csSetoid : Setoid CS:=⟨fun f g=>Ceq f.1 g.1,fun f=>Ceq.refl f.1,fun h=>h.symm,fun h k=>h.trans k⟩
def RR : Type:=Quotient csSetoid
def RR.mk (f : Nat → Rat) (h : Cau f) : RR:=Quotient.mk csSetoid ⟨f,h⟩
theorem RR.rep (x : RR) : ∃ f hf,x = RR.mk f hf:=Quotient.ind (motive:=fun x=>∃ f hf,x = RR.mk f hf) (fun a=>⟨a.1,a.2,rfl⟩) x
theorem RR.ind {p : RR → Prop} (h : ∀ f hf,p (RR.mk f hf)) (x : RR) : p x:=Quotient.ind (fun a=>h a.1 a.2) x
theorem RR.ext {f g : Nat → Rat} {hf : Cau f} {hg : Cau g} (h : ∀ n,f n = g n) : RR.mk f hf = RR.mk g hg:=by
  have : f = g:=funext h
  subst this;rfl
theorem RR.sound {f g : Nat → Rat} {hf : Cau f} {hg : Cau g} (h : Ceq f g) : RR.mk f hf = RR.mk g hg:=Quotient.sound h
theorem RR.exact {f g : Nat → Rat} {hf : Cau f} {hg : Cau g} (h : RR.mk f hf = RR.mk g hg) : Ceq f g:=Quotient.exact h
def RR.of (q : Rat) : RR:=RR.mk (fun _=>q) (Cau.const q)
def RR.add (x y : RR) : RR:=Quotient.lift₂ (fun f g : CS=>Quotient.mk csSetoid ⟨fun n=>f.1 n + g.1 n,f.2.add g.2⟩) (fun _ _ _ _ h k=>Quotient.sound (Ceq.add h k)) x y
def RR.neg (x : RR) : RR:=Quotient.lift (fun f : CS=>Quotient.mk csSetoid ⟨fun n=>-f.1 n,f.2.neg⟩) (fun _ _ h=>Quotient.sound (Ceq.neg h)) x
def RR.mul (x y : RR) : RR:=Quotient.lift₂ (fun f g : CS=>Quotient.mk csSetoid ⟨fun n=>f.1 n * g.1 n,f.2.mul g.2⟩) (fun _ g f' _ h k=>Quotient.sound (Ceq.mul g.2 f'.2 h k)) x y
instance : Add RR:=⟨RR.add⟩
instance : Neg RR:=⟨RR.neg⟩
instance : Mul RR:=⟨RR.mul⟩
instance : Sub RR:=⟨fun x y=>x + -y⟩
instance (n : Nat) : OfNat RR n:=⟨RR.of (n : Rat)⟩
def RR.nn (x : RR) : Prop:=Quotient.lift (fun f : CS=>Cnn f.1) (fun _ _ h=>propext ⟨fun k=>k.ceq h,fun k=>k.ceq h.symm⟩) x
instance : LE RR:=⟨fun x y=>RR.nn (y - x)⟩
instance : LT RR:=⟨fun x y=>¬ y ≤ x⟩
theorem RR.add_comm (x y : RR) : x + y = y + x:=by
  obtain ⟨f,hf,rfl⟩:=RR.rep x;obtain ⟨g,hg,rfl⟩:=RR.rep y
  exact RR.ext fun n=>by grind
theorem RR.add_assoc (x y z : RR) : x + y + z = x + (y + z):=by
  obtain ⟨f,hf,rfl⟩:=RR.rep x;obtain ⟨g,hg,rfl⟩:=RR.rep y;obtain ⟨k,hk,rfl⟩:=RR.rep z
  exact RR.ext fun n=>by grind
theorem RR.mul_comm (x y : RR) : x * y = y * x:=by
  obtain ⟨f,hf,rfl⟩:=RR.rep x;obtain ⟨g,hg,rfl⟩:=RR.rep y
  exact RR.ext fun n=>by grind
theorem RR.mul_assoc (x y z : RR) : x * y * z = x * (y * z):=by
  obtain ⟨f,hf,rfl⟩:=RR.rep x;obtain ⟨g,hg,rfl⟩:=RR.rep y;obtain ⟨k,hk,rfl⟩:=RR.rep z
  exact RR.ext fun n=>by grind
theorem RR.mul_add (x y z : RR) : x * (y + z) = x * y + x * z:=by
  obtain ⟨f,hf,rfl⟩:=RR.rep x;obtain ⟨g,hg,rfl⟩:=RR.rep y;obtain ⟨k,hk,rfl⟩:=RR.rep z
  exact RR.ext fun n=>by grind
theorem RR.add_mul (x y z : RR) : (x + y) * z = x * z + y * z:=by
  obtain ⟨f,hf,rfl⟩:=RR.rep x;obtain ⟨g,hg,rfl⟩:=RR.rep y;obtain ⟨k,hk,rfl⟩:=RR.rep z
  exact RR.ext fun n=>by grind
theorem RR.add_zero (x : RR) : x + 0 = x:=by
  obtain ⟨f,hf,rfl⟩:=RR.rep x
  exact RR.ext fun n=>by grind
theorem RR.zero_add (x : RR) : 0 + x = x:=by
  obtain ⟨f,hf,rfl⟩:=RR.rep x
  exact RR.ext fun n=>by grind
theorem RR.mul_one (x : RR) : x * 1 = x:=by
  obtain ⟨f,hf,rfl⟩:=RR.rep x
  exact RR.ext fun n=>by grind
theorem RR.one_mul (x : RR) : 1 * x = x:=by
  obtain ⟨f,hf,rfl⟩:=RR.rep x
  exact RR.ext fun n=>by grind
theorem RR.mul_zero (x : RR) : x * 0 = 0:=by
  obtain ⟨f,hf,rfl⟩:=RR.rep x
  exact RR.ext fun n=>by grind
theorem RR.zero_mul (x : RR) : 0 * x = 0:=by
  obtain ⟨f,hf,rfl⟩:=RR.rep x
  exact RR.ext fun n=>by grind
theorem RR.add_neg (x : RR) : x + -x = 0:=by
  obtain ⟨f,hf,rfl⟩:=RR.rep x
  exact RR.ext fun n=>by grind
theorem RR.sub_self (x : RR) : x - x = 0:=by
  obtain ⟨f,hf,rfl⟩:=RR.rep x
  exact RR.ext fun n=>by grind
theorem RR.sub_zero (x : RR) : x - 0 = x:=by
  obtain ⟨f,hf,rfl⟩:=RR.rep x
  exact RR.ext fun n=>by grind
theorem RR.zero_sub (x : RR) : 0 - x = -x:=by
  obtain ⟨f,hf,rfl⟩:=RR.rep x
  exact RR.ext fun n=>by grind
theorem RR.neg_neg (x : RR) : - -x = x:=by
  obtain ⟨f,hf,rfl⟩:=RR.rep x
  exact RR.ext fun n=>by grind
theorem RR.neg_mul (x y : RR) : -x * y = -(x * y):=by
  obtain ⟨f,hf,rfl⟩:=RR.rep x;obtain ⟨g,hg,rfl⟩:=RR.rep y
  exact RR.ext fun n=>by grind
theorem RR.mul_neg (x y : RR) : x * -y = -(x * y):=by
  obtain ⟨f,hf,rfl⟩:=RR.rep x;obtain ⟨g,hg,rfl⟩:=RR.rep y
  exact RR.ext fun n=>by grind
theorem RR.neg_add (x y : RR) : -(x + y) = -x + -y:=by
  obtain ⟨f,hf,rfl⟩:=RR.rep x;obtain ⟨g,hg,rfl⟩:=RR.rep y
  exact RR.ext fun n=>by grind
theorem RR.sub_eq (x y : RR) : x - y = x + -y:=by
  obtain ⟨f,hf,rfl⟩:=RR.rep x;obtain ⟨g,hg,rfl⟩:=RR.rep y
  exact RR.ext fun n=>by grind
theorem RR.neg_sub (x y : RR) : -(x - y) = y - x:=by
  obtain ⟨f,hf,rfl⟩:=RR.rep x;obtain ⟨g,hg,rfl⟩:=RR.rep y
  exact RR.ext fun n=>by grind
theorem RR.sub_add (x y : RR) : x - y + y = x:=by
  obtain ⟨f,hf,rfl⟩:=RR.rep x;obtain ⟨g,hg,rfl⟩:=RR.rep y
  exact RR.ext fun n=>by grind
theorem RR.add_sub (x y : RR) : x + y - y = x:=by
  obtain ⟨f,hf,rfl⟩:=RR.rep x;obtain ⟨g,hg,rfl⟩:=RR.rep y
  exact RR.ext fun n=>by grind
theorem RR.sub_trans (x y z : RR) : (y - x) + (z - y) = z - x:=by
  obtain ⟨f,hf,rfl⟩:=RR.rep x;obtain ⟨g,hg,rfl⟩:=RR.rep y;obtain ⟨k,hk,rfl⟩:=RR.rep z
  exact RR.ext fun n=>by grind
theorem RR.neg_zero : -(0 : RR) = 0:=RR.ext fun n=>by grind
theorem RR.le_def {x y : RR} : x ≤ y ↔ RR.nn (y - x):=Iff.rfl
theorem RR.lt_def {x y : RR} : x < y ↔ ¬ y ≤ x:=Iff.rfl
theorem RR.nn_iff {x : RR} : RR.nn x ↔ 0 ≤ x:=by rw [RR.le_def,RR.sub_zero]
theorem RR.nn_add {x y : RR} : RR.nn x → RR.nn y → RR.nn (x + y):=by
  obtain ⟨f,hf,rfl⟩:=RR.rep x;obtain ⟨g,hg,rfl⟩:=RR.rep y;exact fun h k=>Cnn.add h k
theorem RR.nn_mul {x y : RR} : RR.nn x → RR.nn y → RR.nn (x * y):=by
  obtain ⟨f,hf,rfl⟩:=RR.rep x;obtain ⟨g,hg,rfl⟩:=RR.rep y;exact fun h k=>Cnn.mul hf hg h k
theorem RR.nn_total (x : RR) : RR.nn x ∨ RR.nn (-x):=by
  obtain ⟨f,hf,rfl⟩:=RR.rep x;exact Cnn.total hf
theorem RR.nn_anti {x : RR} : RR.nn x → RR.nn (-x) → x = 0:=by
  obtain ⟨f,hf,rfl⟩:=RR.rep x;exact fun h k=>RR.sound (Cnn.anti h k)
theorem RR.nn_of {q : Rat} : RR.nn (RR.of q) ↔ 0 ≤ q:=by
  constructor
  · intro h
    refine Rat.not_lt.1 fun hlt=>?_
    obtain ⟨N,hN⟩:=(show Cnn (fun _=>q) from h) (-q) (by grind)
    have:=hN N (Nat.le_refl _);grind
  · intro h
    show Cnn (fun _=>q)
    exact fun e he=>⟨0,fun i _=>by grind⟩
theorem RR.le_refl (x : RR) : x ≤ x:=by rw [RR.le_def,RR.sub_self];exact RR.nn_of.2 (by decide)
theorem RR.le_trans {x y z : RR} (h : x ≤ y) (k : y ≤ z) : x ≤ z:=by
  rw [RR.le_def,← RR.sub_trans x y z];exact RR.nn_add h k
theorem RR.le_antisymm {x y : RR} (h : x ≤ y) (k : y ≤ x) : x = y:=by
  have:=RR.nn_anti (x:=y - x) h (by rw [RR.neg_sub];exact k)
  rw [← RR.sub_add y x,this,RR.zero_add]
theorem RR.le_total (x y : RR) : x ≤ y ∨ y ≤ x:=by
  rcases RR.nn_total (y - x) with h | h
  · exact .inl h
  · rw [RR.neg_sub] at h;exact .inr h
theorem RR.not_le {x y : RR} : ¬ x ≤ y ↔ y < x:=Iff.rfl
theorem RR.not_lt {x y : RR} : ¬ x < y ↔ y ≤ x:=Classical.not_not
theorem RR.le_of_lt {x y : RR} (h : x < y) : x ≤ y:=(RR.le_total x y).elim id fun k=>absurd k h
theorem RR.lt_irrefl (x : RR) : ¬ x < x:=fun h=>h (RR.le_refl x)
theorem RR.lt_of_lt_of_le {x y z : RR} (h : x < y) (k : y ≤ z) : x < z:=fun j=>h (RR.le_trans k j)
theorem RR.lt_of_le_of_lt {x y z : RR} (h : x ≤ y) (k : y < z) : x < z:=fun j=>k (RR.le_trans j h)
theorem RR.lt_trans {x y z : RR} (h : x < y) (k : y < z) : x < z:=RR.lt_of_lt_of_le h (RR.le_of_lt k)
theorem RR.ne_of_lt {x y : RR} (h : x < y) : x ≠ y:=fun e=>RR.lt_irrefl y (e ▸ h)
theorem RR.lt_of_ne {x y : RR} (h : x ≤ y) (k : x ≠ y) : x < y:=fun j=>k (RR.le_antisymm h j)
theorem RR.lt_tri (x y : RR) : x < y ∨ x = y ∨ y < x:=by
  by_cases h : x = y
  · exact .inr (.inl h)
  · rcases RR.le_total x y with k | k
    · exact .inl (RR.lt_of_ne k h)
    · exact .inr (.inr (RR.lt_of_ne k (Ne.symm h)))
theorem RR.le_iff_sub {x y : RR} : x ≤ y ↔ 0 ≤ y - x:=by rw [RR.le_def,RR.nn_iff]
theorem RR.lt_iff_sub {x y : RR} : x < y ↔ 0 < y - x:=by
  rw [RR.lt_def,RR.lt_def,RR.le_def,RR.le_def,RR.zero_sub,RR.neg_sub]
theorem RR.add_nn {x y : RR} (h : 0 ≤ x) (k : 0 ≤ y) : 0 ≤ x + y:=RR.nn_iff.1 (RR.nn_add (RR.nn_iff.2 h) (RR.nn_iff.2 k))
theorem RR.mul_nn {x y : RR} (h : 0 ≤ x) (k : 0 ≤ y) : 0 ≤ x * y:=RR.nn_iff.1 (RR.nn_mul (RR.nn_iff.2 h) (RR.nn_iff.2 k))
theorem RR.add_pos {x y : RR} (h : 0 < x) (k : 0 ≤ y) : 0 < x + y:=by
  refine RR.lt_of_ne (RR.add_nn (RR.le_of_lt h) k) fun e=>?_
  refine h ?_
  have : y = -x:=by rw [← RR.zero_add (-x),e,RR.add_comm x y,← RR.sub_eq,RR.add_sub]
  rw [RR.le_def,RR.zero_sub,← this];exact RR.nn_iff.2 k
theorem RR.neg_nn {x : RR} : 0 ≤ -x ↔ x ≤ 0:=by rw [RR.le_def,RR.le_def,RR.sub_zero,RR.zero_sub]
theorem RR.neg_pos {x : RR} : 0 < -x ↔ x < 0:=by rw [RR.lt_def,RR.lt_def,← RR.neg_nn,RR.neg_neg]
theorem RR.of_add (p q : Rat) : RR.of (p + q) = RR.of p + RR.of q:=rfl
theorem RR.of_mul (p q : Rat) : RR.of (p * q) = RR.of p * RR.of q:=rfl
theorem RR.of_neg (p : Rat) : RR.of (-p) = -RR.of p:=rfl
theorem RR.of_sub (p q : Rat) : RR.of (p - q) = RR.of p - RR.of q:=by rw [Rat.sub_eq_add_neg];rfl
theorem RR.of_le {p q : Rat} : RR.of p ≤ RR.of q ↔ p ≤ q:=by
  rw [RR.le_def,← RR.of_sub,RR.nn_of];constructor <;> intro h <;> grind
theorem RR.of_lt {p q : Rat} : RR.of p < RR.of q ↔ p < q:=by rw [RR.lt_def,RR.of_le,Rat.not_le]
theorem RR.of_inj {p q : Rat} : RR.of p = RR.of q ↔ p = q :=
  ⟨fun h=>Rat.le_antisymm (RR.of_le.1 (h ▸ RR.le_refl _)) (RR.of_le.1 (h ▸ RR.le_refl _)),fun h=>h ▸ rfl⟩
theorem RR.has_inv_neg {x : RR} : ¬ RR.nn x → ∃ y,x * y = 1:=by
  obtain ⟨f,hf,rfl⟩:=RR.rep x
  intro h
  obtain ⟨e,he,N,hN⟩:=Cau.away hf h
  refine ⟨RR.mk _ (hf.inv he fun i hi=>.inr (hN i hi)),RR.sound fun d hd=>⟨N,fun i hi=>?_⟩⟩
  have h1 : f i ≠ 0:=fun hz=>by have:=hN i hi;rw [hz] at this;grind
  have h2 : f i * (f i)⁻¹ = 1:=by grind
  have h3 : ((1 : Nat) : Rat) = 1:=rfl
  simp only [h2,h3]
  constructor <;> grind
theorem RR.has_inv {x : RR} (h : x ≠ 0) : ∃ y,x * y = 1:=by
  by_cases h1 : RR.nn x
  · by_cases h2 : RR.nn (-x)
    · exact absurd (RR.nn_anti h1 h2) h
    · obtain ⟨y,hy⟩:=RR.has_inv_neg h2
      exact ⟨-y,by rw [RR.mul_neg,← RR.neg_mul,hy]⟩
  · exact RR.has_inv_neg h1
theorem RR.mul_pos {x y : RR} (h : 0 < x) (k : 0 < y) : 0 < x * y:=by
  refine RR.lt_of_ne (RR.mul_nn (RR.le_of_lt h) (RR.le_of_lt k)) fun e=>?_
  obtain ⟨z,hz⟩:=RR.has_inv (Ne.symm (RR.ne_of_lt h))
  have : y = 0:=by rw [← RR.one_mul y,← hz,RR.mul_comm x z,RR.mul_assoc,← e,RR.mul_zero]
  exact RR.ne_of_lt k this.symm
theorem RR.mul_eq_zero {x y : RR} : x * y = 0 ↔ x = 0 ∨ y = 0:=by
  constructor
  · intro h
    by_cases hx : x = 0
    · exact .inl hx
    · obtain ⟨z,hz⟩:=RR.has_inv hx
      exact .inr (by rw [← RR.one_mul y,← hz,RR.mul_comm x z,RR.mul_assoc,h,RR.mul_zero])
  · rintro (h | h)
    · rw [h,RR.zero_mul]
    · rw [h,RR.mul_zero]
open Classical in
noncomputable def RR.inv (x : RR) : RR:=if h : x = 0 then 0 else (RR.has_inv h).choose
theorem rat_arch (q : Rat) : ∃ n : Nat,q < n:=by
  refine ⟨(q.floor + 1).toNat,?_⟩
  have h:=Rat.lt_floor_add_one q
  have h2 : q.floor + 1 ≤ (((q.floor + 1).toNat : Nat) : Int):=Int.self_le_toNat _
  have h3 : ((q.floor + 1 : Int) : Rat) ≤ ((((q.floor + 1).toNat : Nat) : Int) : Rat):=Rat.intCast_le_intCast.2 h2
  have h4 : ((((q.floor + 1).toNat : Nat) : Int) : Rat) = (((q.floor + 1).toNat : Nat) : Rat):=rfl
  grind
theorem nat_step {p : Nat → Prop} (h0 : p 0) {m : Nat} (hm : ¬ p m) : ∃ k,p k ∧ ¬ p (k + 1):=by
  induction m with
  | zero=>exact absurd h0 hm
  | succ m ih =>
    by_cases h : p m
    · exact ⟨m,h,hm⟩
    · exact ih h
theorem root_near (q : Rat) (hq : 0 ≤ q) (n : Nat) : ∃ y : Rat,0 ≤ y ∧ y * y ≤ q ∧ q < (y + 1 / ((n : Rat) + 1)) * (y + 1 / ((n : Rat) + 1)):=by
  have hn : (0 : Rat) < (n : Rat) + 1:=by have : (0 : Rat) ≤ (n : Rat):=Rat.natCast_nonneg;grind
  generalize (n : Rat) + 1 = m at *
  clear n
  obtain ⟨M,hM⟩:=rat_arch (q * (m * m) + 1)
  have hmm:=rmul_pos hn hn
  obtain ⟨k,h1,h2⟩:=nat_step (p:=fun k=>(k : Rat) * k ≤ q * (m * m)) (by show ((0 : Nat) : Rat) * ((0 : Nat) : Rat) ≤ _;have:=Rat.mul_nonneg hq (Rat.le_of_lt hmm);have e : ((0 : Nat) : Rat) = 0:=rfl;rw [e];grind) (m:=M) (by
    intro h
    have h : (M : Rat) * M ≤ q * (m * m):=h
    have hM1 : (1 : Rat) < M:=by have:=Rat.mul_nonneg hq (Rat.le_of_lt hmm);grind
    have:=rmul_le (a:=1) (b:=M) (c:=(M : Rat)) (d:=M) (by decide) (Rat.le_of_lt hM1) (by grind) (by grind)
    grind)
  have h2_1:=h2
  have h2 : ¬ ((k + 1 : Nat) : Rat) * ((k + 1 : Nat) : Rat) ≤ q * (m * m):=h2
  have ek : ((k + 1 : Nat) : Rat) = (k : Rat) + 1:=by push_cast;rfl
  rw [ek] at h2
  have hk : (0 : Rat) ≤ (k : Rat):=Rat.natCast_nonneg
  generalize (k : Rat) = K at *
  clear ek hM
  refine ⟨K / m,?_,?_,?_⟩
  · rw [Rat.div_def];exact Rat.mul_nonneg hk (Rat.le_of_lt (Rat.inv_pos.2 hn))
  · refine Rat.not_lt.1 fun h=>?_
    have:=rmul_pos (show 0 < K / m * (K / m) - q by grind) hmm
    have e1 : K / m * m = K:=rmul_div hn
    generalize K / m = r at *
    have e3 : r * m * (r * m) = K * K:=by rw [e1]
    clear h2_1 h2
    grind
  · refine Rat.not_le.1 fun h=>?_
    have:=Rat.mul_nonneg (show 0 ≤ q - (K / m + 1 / m) * (K / m + 1 / m) by grind) (Rat.le_of_lt hmm)
    have e1 : K / m * m = K:=rmul_div hn
    have e2 : 1 / m * m = 1:=rmul_div hn
    generalize K / m = r at *
    generalize 1 / m = s at *
    have e3 : (r + s) * m * ((r + s) * m) = (K + 1) * (K + 1):=by rw [show (r + s) * m = K + 1 by grind]
    clear h2_1 h1
    grind
theorem inv_small {e : Rat} (he : 0 < e) : ∃ N : Nat,∀ n : Nat,N ≤ n → 0 < 1 / ((n : Rat) + 1) ∧ 1 / ((n : Rat) + 1) < e:=by
  obtain ⟨N,hN⟩:=rat_arch (1 / e)
  refine ⟨N,fun n hn=>?_⟩
  have h0 : (N : Rat) ≤ (n : Rat):=Rat.natCast_le_natCast.2 hn
  have h1:=rdiv_pos (a:=1) (by decide) he
  have h2 : 1 / e * e = 1:=rmul_div he
  have h3 : (0 : Rat) < (n : Rat) + 1:=by grind
  refine ⟨rdiv_pos (by decide) h3,?_⟩
  have h4 : 1 / ((n : Rat) + 1) * ((n : Rat) + 1) = 1:=rmul_div h3
  have h5:=rdiv_pos (a:=1) (by decide) h3
  generalize 1 / ((n : Rat) + 1) = u at *
  generalize 1 / e = v at *
  refine Rat.not_le.1 fun hle=>?_
  have:=rmul_pos (show 0 < (n : Rat) + 1 - v by grind) he
  have:=Rat.mul_nonneg (show 0 ≤ u - e by grind) (Rat.le_of_lt h3)
  grind
theorem max0_cau {f : Nat → Rat} (h : Cau f) : Cau fun n=>if 0 ≤ f n then f n else 0:=fun e he=>by
  obtain ⟨N,hN⟩:=h e he
  refine ⟨N,fun i j hi hj=>?_⟩
  have:=hN i j hi hj
  simp only
  split <;> split <;> grind
theorem max0_eq {f : Nat → Rat} (h : Cnn f) : Ceq (fun n=>if 0 ≤ f n then f n else 0) f:=fun e he=>by
  obtain ⟨N,hN⟩:=h e he
  refine ⟨N,fun i hi=>?_⟩
  have:=hN i hi
  simp only
  split <;> constructor <;> grind
theorem RR.has_root {x : RR} : RR.nn x → ∃ y,RR.nn y ∧ y * y = x:=by
  obtain ⟨f,hf,rfl⟩:=RR.rep x
  intro h
  have h : Cnn f:=h
  have hg:=max0_cau hf
  have he:=max0_eq h
  have hg0 : ∀ n,0 ≤ (fun n=>if 0 ≤ f n then f n else 0) n:=fun n=>by simp only;split <;> grind
  generalize (fun n=>if 0 ≤ f n then f n else 0) = g at *
  have hy : ∀ n,∃ y : Rat,0 ≤ y ∧ y * y ≤ g n ∧ g n < (y + 1 / ((n : Rat) + 1)) * (y + 1 / ((n : Rat) + 1)):=fun n=>root_near (g n) (hg0 n) n
  obtain ⟨y,hy⟩ : ∃ y : Nat → Rat,∀ n,0 ≤ y n ∧ y n * y n ≤ g n ∧ g n < (y n + 1 / ((n : Rat) + 1)) * (y n + 1 / ((n : Rat) + 1)):=⟨fun n=>(hy n).choose,fun n=>(hy n).choose_spec⟩
  have hc : Cau y:=fun e he=>by
    have hE:=rmul_pos (half_pos he) (half_pos he)
    obtain ⟨N,hN⟩:=hg _ hE
    obtain ⟨M,hM⟩:=inv_small (half_pos he)
    refine ⟨max N M,fun i j hi hj=>?_⟩
    have a:=hN i j (by omega) (by omega)
    obtain ⟨u0,u1⟩:=hM j (by omega)
    obtain ⟨p1,p2,p3⟩:=hy i
    obtain ⟨q1,q2,q3⟩:=hy j
    generalize 1 / ((j : Rat) + 1) = u at *
    generalize y i = Y at *
    generalize y j = Z at *
    generalize g i = A at *
    generalize g j = B at *
    refine Rat.not_le.1 fun hle=>?_
    have r1:=rmul_le (a:=Z + e) (b:=Y) (c:=Z + e) (d:=Y) (by grind) (by grind) (by grind) (by grind)
    have r2:=rmul_le (a:=Z + u) (b:=Z + e / 2) (c:=Z + u) (d:=Z + e / 2) (by grind) (by grind) (by grind) (by grind)
    have r3:=Rat.mul_nonneg q1 (Rat.le_of_lt he)
    have r4:=rmul_pos he he
    grind
  obtain ⟨B,hB,hb⟩:=hc.bound
  refine ⟨RR.mk y hc,fun e he=>⟨0,fun i _=>by have:=(hy i).1;grind⟩,RR.sound (Ceq.trans ?_ he)⟩
  intro e he'
  have hd:=rdiv_pos he' (show 0 < 2 * B + 1 by grind)
  obtain ⟨M,hM⟩:=inv_small hd
  obtain ⟨M2,hM2⟩:=inv_small (show (0 : Rat) < 1 by decide)
  refine ⟨max M M2,fun i hi=>?_⟩
  obtain ⟨u0,u1⟩:=hM i (by omega)
  obtain ⟨_,u2⟩:=hM2 i (by omega)
  obtain ⟨q1,q2,q3⟩:=hy i
  have hbi:=hb i
  have e1 : e / (2 * B + 1) * (2 * B + 1) = e:=rmul_div (by grind)
  generalize e / (2 * B + 1) = d at *
  generalize 1 / ((i : Rat) + 1) = u at *
  simp only
  generalize y i = Y at *
  generalize g i = A at *
  have r1:=Rat.mul_nonneg (show 0 ≤ B - Y by grind) (Rat.le_of_lt u0)
  have r2:=Rat.mul_nonneg (show 0 ≤ 1 - u by grind) (Rat.le_of_lt u0)
  have r3:=rmul_pos (show 0 < d - u by grind) (show 0 < 2 * B + 1 by grind)
  constructor <;> grind
open Classical in
noncomputable def RR.sq (x : RR) : RR:=if h : 0 ≤ x then (RR.has_root (RR.nn_iff.2 h)).choose else 0
theorem RR.sq_nonneg (x : RR) : 0 ≤ x.sq:=by
  unfold RR.sq;split
  · rename_i h;exact RR.nn_iff.1 (RR.has_root (RR.nn_iff.2 h)).choose_spec.1
  · exact RR.le_refl 0
theorem RR.sq_sq {x : RR} (h : 0 ≤ x) : x.sq * x.sq = x:=by
  unfold RR.sq;rw [dif_pos h];exact (RR.has_root (RR.nn_iff.2 h)).choose_spec.2
end Go.Proofs.YtboicjlbbbodgaaGreatDoor
namespace Go.Proofs.YtboicjlbbbodgaaGreatDoor
open Classical in
noncomputable def sgR (x : RR) : Int:=if x < 0 then -1 else if 0 < x then 1 else 0
theorem RR.lt_asymm {x y : RR} (h : x < y) : ¬ y < x:=fun k=>RR.lt_irrefl x (RR.lt_trans h k)
theorem sgR_cases (x : RR) : (x < 0 ∧ sgR x = -1) ∨ (x = 0 ∧ sgR x = 0) ∨ (0 < x ∧ sgR x = 1):=by
  rcases RR.lt_tri x 0 with h | h | h
  · exact .inl ⟨h,by unfold sgR;rw [if_pos h]⟩
  · subst h;exact .inr (.inl ⟨rfl,by unfold sgR;rw [if_neg (RR.lt_irrefl 0),if_neg (RR.lt_irrefl 0)]⟩)
  · exact .inr (.inr ⟨h,by unfold sgR;rw [if_neg (RR.lt_asymm h),if_pos h]⟩)
theorem sgR_pos {x : RR} (h : 0 < x) : sgR x = 1:=by
  unfold sgR;rw [if_neg (RR.lt_asymm h),if_pos h]
theorem sgR_neg {x : RR} (h : x < 0) : sgR x = -1:=by unfold sgR;rw [if_pos h]
theorem sgR_zero : sgR 0 = 0:=by unfold sgR;rw [if_neg (RR.lt_irrefl 0),if_neg (RR.lt_irrefl 0)]
theorem sgR_negate (x : RR) : sgR (-x) = -sgR x:=by
  rcases sgR_cases x with ⟨h,e⟩ | ⟨h,e⟩ | ⟨h,e⟩
  · rw [e,sgR_pos (RR.neg_pos.2 h)];rfl
  · subst h;rw [RR.neg_zero,sgR_zero];rfl
  · rw [e,sgR_neg];rw [← RR.neg_pos,RR.neg_neg];exact h
theorem sgR_mul (x y : RR) : sgR (x * y) = sgR x * sgR y:=by
  have pp : ∀ {x y : RR},0 < x → 0 < y → sgR (x * y) = sgR x * sgR y:=fun h k=>by rw [sgR_pos h,sgR_pos k,sgR_pos (RR.mul_pos h k)];rfl
  have np : ∀ {x y : RR},x < 0 → 0 < y → sgR (x * y) = sgR x * sgR y:=fun {x y} h k=>by
    have:=pp (RR.neg_pos.2 h) k
    rw [RR.neg_mul,sgR_negate,sgR_negate] at this
    rw [Int.neg_mul] at this;omega
  rcases RR.lt_tri x 0 with h | h | h
  · rcases RR.lt_tri y 0 with k | k | k
    · have:=np h (RR.neg_pos.2 k)
      rw [RR.mul_neg,sgR_negate,sgR_negate,Int.mul_neg] at this;omega
    · subst k;rw [RR.mul_zero,sgR_zero,Int.mul_zero]
    · exact np h k
  · subst h;rw [RR.zero_mul,sgR_zero,Int.zero_mul]
  · rcases RR.lt_tri y 0 with k | k | k
    · rw [RR.mul_comm,Int.mul_comm];exact np k h
    · subst k;rw [RR.mul_zero,sgR_zero,Int.mul_zero]
    · exact pp h k
theorem sgR_of (q : Rat) : sgR (RR.of q) = q.num.sign:=by
  rcases sgn_cases q.num with ⟨h,e⟩ | ⟨h,e⟩ | ⟨h,e⟩
  all_goals first
    | (rw [e];exact sgR_pos (RR.of_lt (p:=0) |>.2 (rat_pos_iff.2 (by omega))))
    | (rw [e]; have : q = 0 := (@Rat.num_eq_zero q).1 (by omega)
       subst this;exact sgR_zero)
    | (rw [e]; refine sgR_neg (RR.of_lt (q := 0) |>.2 ?_)
       have h1:=@Rat.num_nonneg q
       rcases Classical.em (0 ≤ q) with h2 | h2
       · have:=h1.2 h2;omega
       · exact Rat.not_le.1 h2)
theorem RR.sub_def (x y : RR) : x - y = x + -y:=rfl
theorem sgR_mono {x y : RR} (h : x ≤ y) : sgR x ≤ sgR y:=by
  rcases sgR_cases x with ⟨h1,e⟩ | ⟨h1,e⟩ | ⟨h1,e⟩
  · rcases sgR_cases y with ⟨_,e2⟩ | ⟨_,e2⟩ | ⟨_,e2⟩ <;> rw [e,e2] <;> decide
  · rcases sgR_cases y with ⟨h2,e2⟩ | ⟨_,e2⟩ | ⟨_,e2⟩
    · subst h1;exact absurd h h2
    · rw [e,e2];decide
    · rw [e,e2];decide
  · rcases sgR_cases y with ⟨h2,e2⟩ | ⟨h2,e2⟩ | ⟨_,e2⟩
    · exact absurd (RR.le_trans (RR.le_of_lt h1) h) h2
    · subst h2;exact absurd h h1
    · rw [e,e2];decide
theorem sgR_add {u v : RR} : sgR (u + v) = if sgR u = 0 ∨ sgR u = sgR v then sgR v else if sgR v = 0 then sgR u else sgR u * sgR (u * u - v * v):=by
  have hf : u * u - v * v = (u + v) * (u - v):=by
    obtain ⟨f,hf,rfl⟩:=RR.rep u;obtain ⟨g,hg,rfl⟩:=RR.rep v
    exact RR.ext fun n=>by grind
  have hm:=sgR_mul (u + v) (u - v)
  rw [← hf] at hm
  rcases sgR_cases u with ⟨h,e⟩ | ⟨h,e⟩ | ⟨h,e⟩
  · rcases sgR_cases v with ⟨k,e2⟩ | ⟨k,e2⟩ | ⟨k,e2⟩
    · rw [e,e2,if_pos (.inr rfl)]
      refine sgR_neg ?_
      have h1:=RR.add_pos (RR.neg_pos.2 h) (RR.le_of_lt (RR.neg_pos.2 k))
      rw [← RR.neg_add] at h1
      exact RR.neg_pos.1 h1
    · subst k;rw [RR.add_zero,e,sgR_zero,if_neg (by decide),if_pos rfl]
    · rw [e,e2,if_neg (by decide),if_neg (by decide)]
      have h1 : sgR (u - v) = -1:=by
        refine sgR_neg ?_
        have h1:=RR.add_pos (RR.neg_pos.2 h) (RR.le_of_lt k)
        rw [← RR.neg_pos,RR.neg_sub,RR.sub_def,RR.add_comm];exact h1
      rw [h1] at hm;omega
  · subst h;rw [RR.zero_add,sgR_zero,if_pos (.inl rfl)]
  · rcases sgR_cases v with ⟨k,e2⟩ | ⟨k,e2⟩ | ⟨k,e2⟩
    · rw [e,e2,if_neg (by decide),if_neg (by decide)]
      have h1 : sgR (u - v) = 1:=by
        refine sgR_pos ?_
        exact RR.add_pos h (RR.le_of_lt (RR.neg_pos.2 k))
      rw [h1] at hm;omega
    · subst k;rw [RR.add_zero,e,sgR_zero,if_neg (by decide),if_pos rfl]
    · rw [e,e2,if_pos (.inr rfl)];exact sgR_pos (RR.add_pos h (RR.le_of_lt k))
theorem sgR_sq {w t : RR} (hw : 0 ≤ w) (ht : 0 ≤ t) : sgR (w - t) = sgR (w * w - t * t):=by
  have hf : w * w - t * t = (w - t) * (w + t):=by
    obtain ⟨f,hf,rfl⟩:=RR.rep w;obtain ⟨g,hg,rfl⟩:=RR.rep t
    exact RR.ext fun n=>by grind
  rw [hf,sgR_mul]
  rcases sgR_cases (w + t) with ⟨h,e⟩ | ⟨h,e⟩ | ⟨h,e⟩
  · exact absurd (RR.add_nn hw ht) h
  · have hw0 : w = 0 := by
      refine RR.le_antisymm ?_ hw
      refine RR.not_lt.1 fun k=>?_
      have:=RR.add_pos k ht
      rw [h] at this;exact RR.lt_irrefl 0 this
    have ht0 : t = 0:=by rw [hw0,RR.zero_add] at h;exact h
    rw [hw0,ht0,RR.sub_self,sgR_zero,Int.zero_mul]
  · rw [e,Int.mul_one]
noncomputable def rt (q : Rat) : RR:=(RR.of q).sq
theorem rt_eq {a b : RR} (ha : 0 ≤ a) (hb : 0 ≤ b) (h : a * a = b * b) : a = b:=by
  have h1:=sgR_sq ha hb
  rw [h,RR.sub_self,sgR_zero] at h1
  rcases sgR_cases (a - b) with ⟨k,e⟩ | ⟨k,e⟩ | ⟨k,e⟩
  · omega
  · rw [← RR.sub_add a b,k,RR.zero_add]
  · omega
noncomputable def rs (l : List Rat) : RR:=rt ((pairF l).getD 0 default) + rt ((pairF l).getD 1 default)
theorem RR.add_le_add_right {x y : RR} (h : x ≤ y) (z : RR) : x + z ≤ y + z:=by
  rw [RR.le_iff_sub] at h ⊢
  have : y + z - (x + z) = y - x:=by
    obtain ⟨f,hf,rfl⟩:=RR.rep x;obtain ⟨g,hg,rfl⟩:=RR.rep y;obtain ⟨k,hk,rfl⟩:=RR.rep z
    exact RR.ext fun n=>by grind
  rw [this];exact h
end Go.Proofs.YtboicjlbbbodgaaGreatDoor
namespace Go.Proofs.YtboicjlbbbodgaaGreatDoor
def El : Nat → Type
  | 0=>Rat
  | k + 1=>El k × El k
namespace El
def zero : (k : Nat) → El k
  | 0=>(0 : Rat)
  | k + 1=>(zero k,zero k)
def add : {k : Nat} → El k → El k → El k
  | 0,x,y=>Rat.add x y
  | _ + 1,x,y=>(add x.1 y.1,add x.2 y.2)
def neg : {k : Nat} → El k → El k
  | 0,x=>Rat.neg x
  | _ + 1,x=>(neg x.1,neg x.2)
def Rts : Type:=(k : Nat) → El k
def mul (d : Rts) : {k : Nat} → El k → El k → El k
  | 0,x,y=>Rat.mul x y
  | k + 1,x,y=>(add (mul d x.1 y.1) (mul d (mul d x.2 y.2) (d k)),add (mul d x.1 y.2) (mul d x.2 y.1))
variable {d : Rts} {k : Nat}
theorem add_comm : ∀ {k : Nat} (x y : El k),add x y = add y x
  | 0,x,y=>Rat.add_comm x y
  | _ + 1,x,y=>Prod.ext (add_comm x.1 y.1) (add_comm x.2 y.2)
theorem add_assoc : ∀ {k : Nat} (x y z : El k),add (add x y) z = add x (add y z)
  | 0,x,y,z=>Rat.add_assoc x y z
  | _ + 1,x,y,z=>Prod.ext (add_assoc x.1 y.1 z.1) (add_assoc x.2 y.2 z.2)
theorem add_zero : ∀ {k : Nat} (x : El k),add x (zero k) = x
  | 0,x=>Rat.add_zero x
  | _ + 1,x=>Prod.ext (add_zero x.1) (add_zero x.2)
theorem zero_add (x : El k) : add (zero k) x = x:=by rw [add_comm,add_zero]
theorem add_neg : ∀ {k : Nat} (x : El k),add x (neg x) = zero k
  | 0,x=>Rat.add_neg_cancel x
  | _ + 1,x=>Prod.ext (add_neg x.1) (add_neg x.2)
theorem add_left_comm (x y z : El k) : add x (add y z) = add y (add x z):=by rw [← add_assoc,add_comm x y,add_assoc]
theorem swap4 (x y z u : El k) : add (add x y) (add z u) = add (add x z) (add y u):=by rw [add_assoc,add_assoc,add_left_comm y z u]
theorem zero_mul : ∀ {k : Nat} (x : El k),mul d (zero k) x = zero k
  | 0,x=>Rat.zero_mul x
  | k + 1,x=>by
    have h1:=zero_mul x.1;have h2:=zero_mul x.2
    have h3 : mul d (zero k) (d k) = zero k:=zero_mul (d k)
    exact Prod.ext (by show add (mul d (zero k) x.1) (mul d (mul d (zero k) x.2) (d k)) = zero k;rw [h1,h2,h3,add_zero]) (by show add (mul d (zero k) x.2) (mul d (zero k) x.1) = zero k;rw [h1,h2,add_zero])
theorem mul_comm : ∀ {k : Nat} (x y : El k),mul d x y = mul d y x
  | 0,x,y=>Rat.mul_comm x y
  | k + 1,x,y=>Prod.ext (by show add _ _ = add _ _;rw [mul_comm x.1 y.1,mul_comm x.2 y.2]) (by show add _ _ = add _ _;rw [mul_comm x.1 y.2,mul_comm x.2 y.1,add_comm])
theorem mul_zero (x : El k) : mul d x (zero k) = zero k:=by rw [mul_comm,zero_mul]
theorem mul_add : ∀ {k : Nat} (x y z : El k),mul d x (add y z) = add (mul d x y) (mul d x z)
  | 0,x,y,z=>Rat.mul_add x y z
  | k + 1,x,y,z=>by
    refine Prod.ext ?_ ?_
    · show add (mul d x.1 (add y.1 z.1)) (mul d (mul d x.2 (add y.2 z.2)) (d k)) = add (add _ _) (add _ _)
      rw [mul_add,mul_add,mul_comm (add _ _) (d k),mul_add,mul_comm (d k),mul_comm (d k)]
      exact swap4 _ _ _ _
    · show add (mul d x.1 (add y.2 z.2)) (mul d x.2 (add y.1 z.1)) = add (add _ _) (add _ _)
      rw [mul_add,mul_add]
      exact swap4 _ _ _ _
theorem add_mul (x y z : El k) : mul d (add x y) z = add (mul d x z) (mul d y z):=by rw [mul_comm,mul_add,mul_comm z,mul_comm z]
theorem mul_assoc : ∀ {k : Nat} (x y z : El k),mul d (mul d x y) z = mul d x (mul d y z)
  | 0,x,y,z=>Rat.mul_assoc x y z
  | k + 1,x,y,z=>by
    have as_:=fun x y z : El k=>mul_assoc x y z
    have e : ∀ x y : El (k + 1),mul d x y = (add (mul d x.1 y.1) (mul d (mul d x.2 y.2) (d k)),add (mul d x.1 y.2) (mul d x.2 y.1)):=fun _ _=>rfl
    have cm:=fun x y : El k=>mul_comm (d:=d) x y
    let i1 : Std.Associative (mul d (k:=k)):=⟨as_⟩
    let i2 : Std.Commutative (mul d (k:=k)):=⟨cm⟩
    let i3 : Std.Associative (add (k:=k)):=⟨add_assoc⟩
    let i4 : Std.Commutative (add (k:=k)):=⟨add_comm⟩
    rw [e (mul d x y) z,e x (mul d y z),e x y,e y z]
    simp only [mul_add,add_mul]
    refine Prod.ext ?_ ?_ <;> simp only <;> ac_rfl
theorem neg_add : ∀ {k : Nat} (x y : El k),neg (add x y) = add (neg x) (neg y)
  | 0,x,y=>Rat.neg_add
  | _ + 1,x,y=>Prod.ext (neg_add x.1 y.1) (neg_add x.2 y.2)
theorem neg_neg : ∀ {k : Nat} (x : El k),neg (neg x) = x
  | 0,x=>Rat.neg_neg x
  | _ + 1,x=>Prod.ext (neg_neg x.1) (neg_neg x.2)
theorem neg_zero : ∀ {k : Nat},neg (zero k) = zero k
  | 0=>Rat.neg_zero
  | _ + 1=>Prod.ext neg_zero neg_zero
theorem add_cancel {x y z : El k} (h : add x y = add x z) : y = z:=by
  have:=congrArg (add (neg x)) h
  rwa [← add_assoc,← add_assoc,add_comm (neg x),add_neg,zero_add,zero_add] at this
theorem mul_neg (x y : El k) : mul d x (neg y) = neg (mul d x y):=add_cancel (x:=mul d x y) (by rw [← mul_add,add_neg,mul_zero,add_neg])
theorem neg_mul (x y : El k) : mul d (neg x) y = neg (mul d x y):=by rw [mul_comm,mul_neg,mul_comm]
def ofQ (q : Rat) : (k : Nat) → El k
  | 0=>q
  | k + 1=>(ofQ q k,zero k)
theorem one_mul : ∀ {k : Nat} (x : El k),mul d (ofQ 1 k) x = x
  | 0,x=>Rat.one_mul x
  | k + 1,x=>by
    have h1:=one_mul x.1;have h2:=one_mul x.2
    exact Prod.ext (by show add (mul d (ofQ 1 k) x.1) (mul d (mul d (zero k) x.2) (d k)) = x.1;rw [h1,zero_mul,zero_mul,add_zero]) (by show add (mul d (ofQ 1 k) x.2) (mul d (zero k) x.1) = x.2;rw [h2,zero_mul,add_zero])
def conj (x : El (k + 1)) : El (k + 1):=(x.1,neg x.2)
def norm (d : Rts) (x : El (k + 1)) : El k:=add (mul d x.1 x.1) (neg (mul d (mul d x.2 x.2) (d k)))
noncomputable def vl (d : Rts) : {k : Nat} → El k → RR
  | 0,x=>RR.of x
  | k + 1,x=>vl d x.1 + vl d x.2 * (vl d (d k)).sq
def ok (d : Rts) (k : Nat) : Prop:=∀ j,j < k → 0 ≤ vl d (d j)
theorem ok.mono {j : Nat} (h : ok d k) (hj : j ≤ k) : ok d j:=fun i hi=>h i (by omega)
theorem vl_zero : ∀ {k : Nat},vl d (zero k) = 0
  | 0=>rfl
  | k + 1=>by show vl d (zero k) + vl d (zero k) * _ = 0;rw [vl_zero,RR.zero_mul,RR.add_zero]
theorem vl_add : ∀ {k : Nat} (x y : El k),vl d (add x y) = vl d x + vl d y
  | 0,x,y=>RR.of_add x y
  | k + 1,x,y=>by
    show vl d (add x.1 y.1) + vl d (add x.2 y.2) * _ = (vl d x.1 + vl d x.2 * _) + (vl d y.1 + vl d y.2 * _)
    rw [vl_add,vl_add]
    generalize vl d x.1 = a;generalize vl d x.2 = b;generalize vl d y.1 = c;generalize vl d y.2 = e;generalize (vl d (d k)).sq = f
    obtain ⟨a,ha,rfl⟩:=RR.rep a;obtain ⟨b,hb,rfl⟩:=RR.rep b;obtain ⟨c,hc,rfl⟩:=RR.rep c;obtain ⟨e,he,rfl⟩:=RR.rep e;obtain ⟨f,hf,rfl⟩:=RR.rep f
    exact RR.ext fun n=>by grind
theorem vl_neg : ∀ {k : Nat} (x : El k),vl d (neg x) = -vl d x
  | 0,x=>RR.of_neg x
  | k + 1,x=>by
    show vl d (neg x.1) + vl d (neg x.2) * _ = -(vl d x.1 + vl d x.2 * _)
    rw [vl_neg,vl_neg,RR.neg_mul,RR.neg_add]
theorem vl_mul : ∀ {k : Nat} (_ : ok d k) (x y : El k),vl d (mul d x y) = vl d x * vl d y
  | 0,_,x,y=>RR.of_mul x y
  | k + 1,h,x,y=>by
    have hk:=h.mono (Nat.le_succ k)
    have hs : (vl d (d k)).sq * (vl d (d k)).sq = vl d (d k):=RR.sq_sq (h k (Nat.lt_succ_self k))
    show vl d (add (mul d x.1 y.1) (mul d (mul d x.2 y.2) (d k))) + vl d (add (mul d x.1 y.2) (mul d x.2 y.1)) * _ = (vl d x.1 + vl d x.2 * _) * (vl d y.1 + vl d y.2 * _)
    rw [vl_add,vl_add,vl_mul hk,vl_mul hk,vl_mul hk,vl_mul hk,vl_mul hk]
    generalize (vl d (d k)).sq = f at hs ⊢
    rw [← hs]
    generalize vl d x.1 = a;generalize vl d x.2 = b;generalize vl d y.1 = c;generalize vl d y.2 = e
    obtain ⟨a,ha,rfl⟩:=RR.rep a;obtain ⟨b,hb,rfl⟩:=RR.rep b;obtain ⟨c,hc,rfl⟩:=RR.rep c;obtain ⟨e,he,rfl⟩:=RR.rep e;obtain ⟨f,hf,rfl⟩:=RR.rep f
    exact RR.ext fun n=>by grind
theorem vl_norm (h : ok d (k + 1)) (x : El (k + 1)) : vl d (norm d x) = vl d x.1 * vl d x.1 - vl d x.2 * (vl d (d k)).sq * (vl d x.2 * (vl d (d k)).sq):=by
  have hk:=h.mono (Nat.le_succ k)
  have hs : (vl d (d k)).sq * (vl d (d k)).sq = vl d (d k):=RR.sq_sq (h k (Nat.lt_succ_self k))
  unfold norm
  rw [vl_add,vl_neg,vl_mul hk,vl_mul hk,vl_mul hk]
  generalize (vl d (d k)).sq = f at hs ⊢
  rw [← hs]
  generalize vl d x.1 = a;generalize vl d x.2 = b
  obtain ⟨a,ha,rfl⟩:=RR.rep a;obtain ⟨b,hb,rfl⟩:=RR.rep b;obtain ⟨f,hf,rfl⟩:=RR.rep f
  exact RR.ext fun n=>by grind
noncomputable def sg (d : Rts) (x : El k) : Int:=sgR (vl d x)
theorem sgR_root {x : RR} (h : 0 ≤ x) : sgR x.sq = sgR x:=by
  have h1:=RR.sq_sq h;have h2:=RR.sq_nonneg x
  have:=sgR_mul x.sq x.sq
  rw [h1] at this
  rcases sgR_cases x.sq with ⟨h3,h4⟩ | ⟨h3,h4⟩ | ⟨h3,h4⟩
  · exact absurd h3 (RR.not_lt.2 h2)
  · rw [this,h4];rfl
  · rw [this,h4];rfl
theorem sg_step (h : ok d (k + 1)) (x : El (k + 1)) : sg d x = if sg d (d k) = 0 then sg d x.1 else if sg d x.1 = sg d x.2 ∨ sg d x.2 = 0 then sg d x.1 else if sg d x.1 = 0 then sg d x.2 else sg d x.1 * sg d (norm d x):=by
  have e:=sgR_add (u:=vl d x.1) (v:=vl d x.2 * (vl d (d k)).sq)
  have hr:=sgR_root (h k (Nat.lt_succ_self k))
  have hm:=sgR_mul (vl d x.2) (vl d (d k)).sq
  rw [hr] at hm
  have hn:=vl_norm h x
  show sgR (vl d x.1 + vl d x.2 * (vl d (d k)).sq) = _
  rw [e,← hn,hm]
  unfold sg
  have hd : 0 ≤ sgR (vl d (d k)):=by
    rcases sgR_cases (vl d (d k)) with ⟨h3,h4⟩ | ⟨h3,h4⟩ | ⟨h3,h4⟩
    · exact absurd h3 (RR.not_lt.2 (h k (Nat.lt_succ_self k)))
    · omega
    · omega
  have h1:=sgR_cases (vl d (d k));have h2:=sgR_cases (vl d x.1);have h3:=sgR_cases (vl d x.2)
  generalize sgR (vl d (d k)) = r at *;generalize sgR (vl d x.1) = s at *;generalize sgR (vl d x.2) = t at *
  clear hm e hn hr h
  generalize sgR (vl d (norm d x)) = n
  rcases (show r = 0 ∨ r = 1 by omega) with rfl | rfl
  · rw [Int.mul_zero];grind
  · rw [Int.mul_one];grind
end El
end Go.Proofs.YtboicjlbbbodgaaGreatDoor
namespace Go.Proofs.YtboicjlbbbodgaaGreatDoor
abbrev cf (l : List Rat) (i : Nat) : Rat:=l.getD i 0
namespace El
def toF : (k : Nat) → (Nat → Rat) → El k
  | 0,f=>f 0
  | k + 1,f=>(toF k f,toF k fun i=>f (2 ^ k + i))
abbrev toE (k : Nat) (l : List Rat) : El k:=toF k (cf l)
theorem toF_ext : ∀ {k : Nat} {f g : Nat → Rat},(∀ i,i < 2 ^ k → f i = g i) → toF k f = toF k g
  | 0,f,g,h=>h 0 (by decide)
  | k + 1,f,g,h=>by
    have e : 2 ^ (k + 1) = 2 ^ k + 2 ^ k:=by rw [Nat.pow_succ];omega
    exact Prod.ext (toF_ext fun i hi=>h i (by omega)) (toF_ext fun i hi=>h (2 ^ k + i) (by omega))
theorem toF_zero : ∀ {k : Nat},toF k (fun _=>0) = zero k
  | 0=>rfl
  | k + 1=>Prod.ext toF_zero toF_zero
theorem toF_add : ∀ {k : Nat} (f g : Nat → Rat),toF k (fun i=>f i + g i) = add (toF k f) (toF k g)
  | 0,f,g=>rfl
  | k + 1,f,g=>Prod.ext (toF_add f g) (toF_add (fun i=>f (2 ^ k + i)) (fun i=>g (2 ^ k + i)))
theorem toF_neg : ∀ {k : Nat} (f : Nat → Rat),toF k (fun i=>-f i) = neg (toF k f)
  | 0,f=>rfl
  | k + 1,f=>Prod.ext (toF_neg f) (toF_neg (fun i=>f (2 ^ k + i)))
theorem toF_inj : ∀ {k : Nat} {f g : Nat → Rat},toF k f = toF k g → ∀ i,i < 2 ^ k → f i = g i
  | 0,f,g,h,i,hi=>by
    obtain rfl : i = 0:=by simpa using hi
    exact h
  | k + 1,f,g,h,i,hi=>by
    have e : 2 ^ (k + 1) = 2 ^ k + 2 ^ k:=by rw [Nat.pow_succ];omega
    have h1:=congrArg Prod.fst h;have h2:=congrArg Prod.snd h
    rcases Nat.lt_or_ge i (2 ^ k) with hl | hl
    · exact toF_inj h1 i hl
    · have:=toF_inj h2 (i - 2 ^ k) (by omega)
      rwa [show 2 ^ k + (i - 2 ^ k) = i by omega] at this
end El
def zeroF (a : List Rat) : Bool:=a.all fun x=>decide (x.num.sign = 0)
def wideF (a : List Rat) (n : Nat) : List Rat:=a.take n ++ (List.replicate n 0).drop a.length
def plusF (a b : List Rat) : List Rat:=(List.range (max a.length b.length)).map fun i=>cf a i + cf b i
def minusF (a : List Rat) : List Rat:=a.map fun x=>-x
def joinF (a b : List Rat) (n : Nat) : List Rat:=wideF a n ++ wideF b n
def lev : Nat → Nat
  | n=>Nat.log2 n
def stepF (rs : List (List Rat)) (r : List Rat → List Rat → List Rat) (a b : List Rat) : List Rat :=
  if zeroF a || zeroF b then [] else if a.length = 1 then [cf a 0 * cf b 0] else
  if b.length ≤ a.length / 2 then joinF (r (a.take (a.length / 2)) b) (r (a.drop (a.length / 2)) b) (a.length / 2)
  else joinF (plusF (r (a.take (a.length / 2)) (b.take (a.length / 2))) (r (r (a.drop (a.length / 2)) (b.drop (a.length / 2))) (rs.getD (lev a.length - 1) [])))
    (plusF (r (a.take (a.length / 2)) (b.drop (a.length / 2))) (r (a.drop (a.length / 2)) (b.take (a.length / 2)))) (a.length / 2)
def timesF (rs : List (List Rat)) : Nat → List Rat → List Rat → List Rat
  | 0,_,_=>[]
  | n + 1,a,b=>if a.length < b.length then stepF rs (timesF rs n) b a else stepF rs (timesF rs n) a b
theorem cf_wide {a : List Rat} {n i : Nat} (hi : i < n) (ha : a.length ≤ n) : cf (wideF a n) i = cf a i:=by
  unfold wideF cf
  rw [List.take_of_length_le ha,List.getD_eq_getElem?_getD,List.getD_eq_getElem?_getD]
  rcases Nat.lt_or_ge i a.length with h | h
  · rw [List.getElem?_append_left h]
  · rw [List.getElem?_append_right h,List.getElem?_eq_none h,List.getElem?_drop,List.getElem?_replicate]
    split <;> rfl
theorem wide_len {a : List Rat} {n : Nat} (ha : a.length ≤ n) : (wideF a n).length = n:=by unfold wideF;simp;omega
theorem cf_plus {a b : List Rat} {i : Nat} : cf (plusF a b) i = cf a i + cf b i:=by
  unfold plusF cf
  rw [List.getD_eq_getElem?_getD,List.getElem?_map]
  rcases Nat.lt_or_ge i (max a.length b.length) with h | h
  · rw [List.getElem?_range h];rfl
  · rw [List.getElem?_eq_none (by simpa using h),List.getD_eq_getElem?_getD,List.getD_eq_getElem?_getD,List.getElem?_eq_none (by omega),List.getElem?_eq_none (by omega)]
    exact (Rat.add_zero 0).symm
theorem cf_minus {a : List Rat} {i : Nat} : cf (minusF a) i = -cf a i:=by
  unfold minusF cf
  rw [List.getD_eq_getElem?_getD,List.getD_eq_getElem?_getD,List.getElem?_map]
  cases a[i]? <;> rfl
theorem cf_take {a : List Rat} {n i : Nat} (hi : i < n) : cf (a.take n) i = cf a i:=by
  unfold cf;rw [List.getD_eq_getElem?_getD,List.getD_eq_getElem?_getD,List.getElem?_take_of_lt hi]
theorem cf_drop {a : List Rat} {n i : Nat} : cf (a.drop n) i = cf a (n + i):=by
  unfold cf;rw [List.getD_eq_getElem?_getD,List.getD_eq_getElem?_getD,List.getElem?_drop]
theorem cf_join {a b : List Rat} {n i : Nat} (ha : a.length ≤ n) (hb : b.length ≤ n) (hi : i < n) : cf (joinF a b n) i = cf a i ∧ cf (joinF a b n) (n + i) = cf b i:=by
  have h1:=wide_len ha
  constructor
  · rw [← cf_wide hi ha]
    unfold joinF cf
    rw [List.getD_eq_getElem?_getD,List.getD_eq_getElem?_getD,List.getElem?_append_left (by omega)]
  · rw [← cf_wide hi hb]
    unfold joinF cf
    rw [List.getD_eq_getElem?_getD,List.getD_eq_getElem?_getD,List.getElem?_append_right (by omega),h1,Nat.add_sub_cancel_left]
theorem zero_iff {a : List Rat} : zeroF a = true ↔ ∀ i,cf a i = 0:=by
  unfold zeroF
  rw [List.all_eq_true]
  constructor
  · intro h i
    unfold cf
    rw [List.getD_eq_getElem?_getD]
    cases hx : a[i]? with
    | none=>rfl
    | some x =>
      have:=h x (List.mem_of_getElem? hx)
      rw [decide_eq_true_eq,Int.sign_eq_zero_iff_zero,Rat.num_eq_zero] at this
      exact this
  · intro h x hx
    obtain ⟨i,hi⟩:=List.mem_iff_getElem?.1 hx
    have:=h i
    unfold cf at this
    rw [List.getD_eq_getElem?_getD,hi] at this
    rw [decide_eq_true_eq,Int.sign_eq_zero_iff_zero,Rat.num_eq_zero]
    exact this
namespace El
theorem toE_low {k : Nat} {l : List Rat} (h : l.length ≤ 2 ^ k) : toE (k + 1) l = (toE k l,zero k):=by
  refine Prod.ext rfl ?_
  show toF k (fun i=>cf l (2 ^ k + i)) = zero k
  rw [← toF_zero]
  exact toF_ext fun i _=>by unfold cf;rw [List.getD_eq_getElem?_getD,List.getElem?_eq_none (by omega)];rfl
theorem toE_take (k : Nat) (l : List Rat) : toE k (l.take (2 ^ k)) = toE k l:=toF_ext fun i hi=>cf_take hi
theorem toE_halves (k : Nat) (l : List Rat) : toE (k + 1) l = (toE k (l.take (2 ^ k)),toE k (l.drop (2 ^ k))) :=
  Prod.ext (toE_take k l).symm (toF_ext fun i _=>cf_drop.symm)
theorem toE_plus (k : Nat) (a b : List Rat) : toE k (plusF a b) = add (toE k a) (toE k b):=by rw [← toF_add];exact toF_ext fun i _=>cf_plus
theorem toE_minus (k : Nat) (a : List Rat) : toE k (minusF a) = neg (toE k a):=by rw [← toF_neg];exact toF_ext fun i _=>cf_minus
theorem toE_join {k : Nat} {a b : List Rat} (ha : a.length ≤ 2 ^ k) (hb : b.length ≤ 2 ^ k) : toE (k + 1) (joinF a b (2 ^ k)) = (toE k a,toE k b) :=
  Prod.ext (toF_ext fun i hi=>(cf_join ha hb hi).1) (toF_ext fun i hi=>(cf_join ha hb hi).2)
theorem toE_zero {k : Nat} {a : List Rat} (h : zeroF a = true) : toE k a = zero k:=by rw [← toF_zero];exact toF_ext fun i _=>zero_iff.1 h i
theorem toE_nil {k : Nat} : toE k [] = zero k:=toE_zero rfl
end El
def PW (k : Nat) (a : List Rat) : Prop:=a.length = 0 ∨ ∃ j,j ≤ k ∧ a.length = 2 ^ j
theorem PW.le {k : Nat} {a : List Rat} (h : PW k a) : a.length ≤ 2 ^ k:=by
  rcases h with h | ⟨j,hj,h⟩
  · rw [h];exact Nat.zero_le _
  · rw [h];exact Nat.pow_le_pow_right (by decide) hj
theorem PW.low {k : Nat} {a : List Rat} (h : PW (k + 1) a) (h2 : a.length ≤ 2 ^ k) : PW k a:=by
  rcases h with h | ⟨j,hj,h⟩
  · exact .inl h
  · refine .inr ⟨j,?_,h⟩
    rcases Nat.lt_or_ge k j with h3 | h3
    · have : 2 ^ k < 2 ^ j:=Nat.pow_lt_pow_right (by decide) h3
      omega
    · exact h3
theorem PW.top {k : Nat} {a : List Rat} (h : PW (k + 1) a) (h2 : ¬ a.length ≤ 2 ^ k) : a.length = 2 ^ (k + 1):=by
  rcases h with h | ⟨j,hj,h⟩
  · exact absurd (h ▸ Nat.zero_le _) h2
  · rcases Nat.lt_or_ge k j with h3 | h3
    · rw [h,show j = k + 1 by omega]
    · have : 2 ^ j ≤ 2 ^ k:=Nat.pow_le_pow_right (by decide) h3
      omega
theorem PW.pow {k : Nat} {a : List Rat} (h : a.length = 2 ^ k) : PW k a:=.inr ⟨k,Nat.le_refl _,h⟩
theorem PW.of {k : Nat} {a : List Rat} (h : a.length = 0 ∨ a.length = 2 ^ k) : PW k a:=h.imp id fun h=>⟨k,Nat.le_refl _,h⟩
theorem lev_pow (k : Nat) : lev (2 ^ k) = k:=Nat.log2_two_pow
theorem plus_len {a b : List Rat} : (plusF a b).length = max a.length b.length:=by simp [plusF]
theorem join_len {a b : List Rat} {n : Nat} (ha : a.length ≤ n) (hb : b.length ≤ n) : (joinF a b n).length = n + n:=by unfold joinF;rw [List.length_append,wide_len ha,wide_len hb]
open El in
theorem times_E {rs : List (List Rat)} {d : Rts} {K : Nat} (hd : ∀ j, j < K → (rs.getD j []).length = 2 ^ j ∧ toE j (rs.getD j []) = d j) :
    ∀ (k n : Nat),k ≤ K → k < n → ∀ a b : List Rat,PW k a → PW k b → toE k (timesF rs n a b) = mul d (toE k a) (toE k b) ∧ ((timesF rs n a b).length = 0 ∨ (timesF rs n a b).length = max a.length b.length):=by
  intro k
  induction k with
  | zero =>
    intro n _ hn a b ha hb
    obtain ⟨n,rfl⟩ : ∃ m,n = m + 1:=⟨n - 1,by omega⟩
    have key : ∀ a b : List Rat,a.length ≤ 1 → b.length ≤ a.length → toE 0 (stepF rs (timesF rs n) a b) = mul d (toE 0 a) (toE 0 b) ∧ ((stepF rs (timesF rs n) a b).length = 0 ∨ (stepF rs (timesF rs n) a b).length = a.length):=by
      intro a b ha hb
      unfold stepF
      split
      · rename_i h
        refine ⟨?_,.inl rfl⟩
        rw [toE_nil]
        rcases Bool.or_eq_true_iff.1 h with h | h
        · rw [toE_zero h,zero_mul]
        · rw [toE_zero h,mul_zero]
      · rename_i h
        have h1 : a.length = 1:=by
          rcases Nat.lt_or_ge a.length 1 with h2 | h2
          · exfalso;apply h;rw [List.length_eq_zero_iff.1 (show a.length = 0 by omega)];rfl
          · omega
        rw [if_pos h1]
        exact ⟨rfl,.inr h1.symm⟩
    have h1:=ha.le;have h2:=hb.le
    simp only [Nat.pow_zero] at h1 h2
    unfold timesF
    split
    · rw [mul_comm,Nat.max_eq_right (by omega)];exact key b a h2 (by omega)
    · rw [Nat.max_eq_left (by omega)];exact key a b h1 (by omega)
  | succ k ih =>
    intro n hK hn a b ha hb
    by_cases hlow : a.length ≤ 2 ^ k ∧ b.length ≤ 2 ^ k
    · obtain ⟨h1,h2⟩:=ih n (by omega) (by omega) a b (ha.low hlow.1) (hb.low hlow.2)
      refine ⟨?_,h2⟩
      rw [toE_low (by omega),toE_low hlow.1,toE_low hlow.2,h1]
      refine Prod.ext ?_ ?_
      · show _ = add (mul d _ _) (mul d (mul d (zero k) (zero k)) (d k))
        rw [zero_mul,zero_mul,add_zero]
      · show _ = add (mul d _ (zero k)) (mul d (zero k) _)
        rw [mul_zero,zero_mul,add_zero]
    · obtain ⟨n,rfl⟩ : ∃ m,n = m + 1:=⟨n - 1,by omega⟩
      have e2 : 2 ^ (k + 1) = 2 ^ k + 2 ^ k:=by rw [Nat.pow_succ];omega
      have ep:=Nat.two_pow_pos k
      have key : ∀ a b : List Rat,a.length = 2 ^ (k + 1) → PW (k + 1) b → toE (k + 1) (stepF rs (timesF rs n) a b) = mul d (toE (k + 1) a) (toE (k + 1) b) ∧ ((stepF rs (timesF rs n) a b).length = 0 ∨ (stepF rs (timesF rs n) a b).length = a.length):=by
        intro a b ha hb
        have hh : a.length / 2 = 2 ^ k:=by omega
        unfold stepF
        split
        · rename_i h
          refine ⟨?_,.inl rfl⟩
          rw [toE_nil]
          rcases Bool.or_eq_true_iff.1 h with h | h
          · rw [toE_zero h,zero_mul]
          · rw [toE_zero h,mul_zero]
        · rw [if_neg (by omega),hh]
          have hx : PW k (a.take (2 ^ k)):=.pow (by rw [List.length_take];omega)
          have hy : PW k (a.drop (2 ^ k)):=.pow (by rw [List.length_drop];omega)
          have ihk:=ih n (by omega) (by omega)
          split
          · rename_i hbl
            have hb':=hb.low hbl
            obtain ⟨h1,h2⟩:=ihk _ b hx hb'
            obtain ⟨h3,h4⟩:=ihk _ b hy hb'
            have l1:=hx.le;have l2:=hy.le
            refine ⟨?_,.inr (by rw [join_len (by omega) (by omega),ha,e2])⟩
            rw [toE_join (by omega) (by omega),h1,h3,toE_halves k a,toE_low hbl]
            refine Prod.ext ?_ ?_
            · show _ = add (mul d _ _) (mul d (mul d _ (zero k)) (d k))
              rw [mul_zero,zero_mul,add_zero]
            · show _ = add (mul d _ (zero k)) (mul d _ _)
              rw [mul_zero,zero_add]
          · rename_i hbl
            have hbt:=hb.top hbl
            have hu : PW k (b.take (2 ^ k)):=.pow (by rw [List.length_take];omega)
            have hv : PW k (b.drop (2 ^ k)):=.pow (by rw [List.length_drop];omega)
            have hdk:=hd k (by omega)
            rw [ha,lev_pow,Nat.add_sub_cancel]
            obtain ⟨p1,q1⟩:=ihk _ _ hx hu
            obtain ⟨p2,q2⟩:=ihk _ _ hy hv
            obtain ⟨p3,q3⟩:=ihk _ _ hx hv
            obtain ⟨p4,q4⟩:=ihk _ _ hy hu
            have m1 : (a.take (2 ^ k)).length = 2 ^ k:=by rw [List.length_take];omega
            have m2 : (a.drop (2 ^ k)).length = 2 ^ k:=by rw [List.length_drop];omega
            have m3 : (b.take (2 ^ k)).length = 2 ^ k:=by rw [List.length_take];omega
            have m4 : (b.drop (2 ^ k)).length = 2 ^ k:=by rw [List.length_drop];omega
            rw [m1,m3,Nat.max_self] at q1;rw [m2,m4,Nat.max_self] at q2;rw [m1,m4,Nat.max_self] at q3;rw [m2,m3,Nat.max_self] at q4
            obtain ⟨p5,q5⟩:=ihk _ _ (PW.of q2) (PW.pow hdk.1)
            rw [hdk.1] at q5
            rw [p2,hdk.2] at p5
            have g1:=plus_len (a:=timesF rs n (a.take (2 ^ k)) (b.take (2 ^ k))) (b:=timesF rs n (timesF rs n (a.drop (2 ^ k)) (b.drop (2 ^ k))) (rs.getD k []))
            have g2:=plus_len (a:=timesF rs n (a.take (2 ^ k)) (b.drop (2 ^ k))) (b:=timesF rs n (a.drop (2 ^ k)) (b.take (2 ^ k)))
            refine ⟨?_,.inr (by rw [join_len (by omega) (by omega),e2])⟩
            rw [toE_join (by omega) (by omega),toE_plus,toE_plus,p1,p5,p3,p4,toE_halves k a,toE_halves k b]
            rfl
      have h1:=ha.le;have h2:=hb.le
      unfold timesF
      split
      · have hbt : b.length = 2 ^ (k + 1):=hb.top (by omega)
        rw [mul_comm,Nat.max_eq_right (by omega)];exact key b a hbt ha
      · have hat : a.length = 2 ^ (k + 1):=ha.top (by omega)
        rw [Nat.max_eq_left (by omega)];exact key a b hat hb
end Go.Proofs.YtboicjlbbbodgaaGreatDoor
namespace Go.Proofs.YtboicjlbbbodgaaGreatDoor
def clg (n : Nat) : Nat:=if n ≤ 1 then 0 else Nat.log2 (n - 1) + 1
def levI (n : Nat) : Int:=if 2 ^ clg n = n then (clg n : Int) else -1
theorem clg_of {n k : Nat} (h : ∀ j,j < k → 2 ^ j < n) (h2 : n ≤ 2 ^ k) : clg n = k:=by
  unfold clg
  cases k with
  | zero=>rw [if_pos (by simpa using h2)]
  | succ k =>
    have h3:=h k (Nat.lt_succ_self k)
    have h4:=Nat.two_pow_pos k
    have h5:=h 0 (Nat.succ_pos k)
    rw [Nat.pow_succ] at h2
    have e : Nat.log2 (n - 1) = k:=(Nat.log2_eq_iff (by omega)).2 ⟨by omega,by rw [Nat.pow_succ];omega⟩
    rw [if_neg (by simp at h5;omega),e]
theorem clg_pow (k : Nat) : clg (2 ^ k) = k:=clg_of (fun j hj=>Nat.pow_lt_pow_right (by decide) hj) (Nat.le_refl _)
theorem levI_pow (k : Nat) : levI (2 ^ k) = k:=by unfold levI;rw [clg_pow,if_pos rfl]
theorem lev_lt {n k : Nat} (hk : ∀ j,j < k → 2 ^ j < n) (h : 2 ^ k < n) : ∀ j,j < k + 1 → 2 ^ j < n:=fun j hj=>by
  rcases Nat.lt_or_ge j k with h1 | h1
  · exact hk j h1
  · rw [show j = k by omega];exact h
theorem lev_le {n k : Nat} (hk : ∀ j,j < k → 2 ^ j < n) (hn : n ≤ 35184372088832) : k ≤ 45 ∧ 2 ^ k ≤ 35184372088832:=by
  have e : 2 ^ 45 = 35184372088832:=by decide
  have h : k ≤ 45:=by
    rcases Nat.lt_or_ge 45 k with h | h
    · have:=hk 45 h;omega
    · exact h
  refine ⟨h,?_⟩
  rw [← e];exact Nat.pow_le_pow_right (by decide) h
theorem levI_n {n k : Nat} (hk : ∀ j,j < k → 2 ^ j < n) (h : n ≤ 2 ^ k) (hn : 2 ^ k ≠ n) : levI n = -1:=by unfold levI;rw [clg_of hk h,if_neg hn]
theorem levI_y {n k : Nat} (h : 2 ^ k = n) : levI n = k:=by rw [← h,levI_pow]
def shN (a : List Rat) : Nat → Nat → Nat
  | 0,n=>n
  | f + 1,n=>if 1 < n ∧ zeroF ((a.take n).drop (n / 2)) = true then shN a f (n / 2) else n
theorem shN_fuel {a : List Rat} : ∀ {f g n : Nat},n ≤ f → n ≤ g → shN a f n = shN a g n
  | 0,0,_,_,_=>rfl
  | 0,g + 1,n,h,_=>by
    obtain rfl : n = 0:=by omega
    unfold shN;rw [if_neg (by omega)]
  | f + 1,0,n,_,h=>by
    obtain rfl : n = 0:=by omega
    unfold shN;rw [if_neg (by omega)]
  | f + 1,g + 1,n,h1,h2=>by
    unfold shN
    split
    · exact shN_fuel (by omega) (by omega)
    · rfl
def shL (a : List Rat) (n : Nat) : Nat:=shN a n n
theorem shL_go {a : List Rat} {n : Nat} (h : 1 < n) (hz : zeroF ((a.take n).drop (n / 2)) = true) : shL a n = shL a (n / 2):=by
  unfold shL
  obtain ⟨m,rfl⟩ : ∃ m,n = m + 1:=⟨n - 1,by omega⟩
  conv=>lhs;unfold shN
  rw [if_pos ⟨h,hz⟩]
  exact shN_fuel (by omega) (Nat.le_refl _)
theorem shL_end {a : List Rat} {n : Nat} (h : ¬ (1 < n ∧ zeroF ((a.take n).drop (n / 2)) = true)) : shL a n = n:=by
  unfold shL
  cases n with
  | zero=>rfl
  | succ m=>unfold shN;rw [if_neg h]
def shoF (a : List Rat) : List Rat :=
  if 0 < a.length ∧ (levI a.length < 0 ∨ 5 < levI a.length) then a else if shL a a.length = 1 ∧ zeroF (a.take 1) = true then [] else a.take (shL a a.length)
theorem cf_cut {a : List Rat} {m n i : Nat} : cf ((a.take n).drop m) i = if m + i < n then cf a (m + i) else 0:=by
  rw [cf_drop]
  split
  · rename_i h;exact cf_take h
  · unfold cf;rw [List.getD_eq_getElem?_getD,List.getElem?_eq_none (by rw [List.length_take];omega)];rfl
theorem cf_out {a : List Rat} {i : Nat} (h : a.length ≤ i) : cf a i = 0:=by
  unfold cf;rw [List.getD_eq_getElem?_getD,List.getElem?_eq_none h];rfl
theorem shL_pow {a : List Rat} : ∀ j : Nat,∃ i,i ≤ j ∧ shL a (2 ^ j) = 2 ^ i ∧ (∀ x,2 ^ i ≤ x → x < 2 ^ j → cf a x = 0) ∧ (i = 0 ∨ ∃ x,2 ^ (i - 1) ≤ x ∧ x < 2 ^ i ∧ cf a x ≠ 0)
  | 0=>⟨0,Nat.le_refl _,shL_end (by simp),fun x h1 h2=>absurd h1 (by omega),.inl rfl⟩
  | j + 1=>by
    have e : 2 ^ (j + 1) = 2 ^ j + 2 ^ j:=by rw [Nat.pow_succ];omega
    have hp:=Nat.two_pow_pos j
    have hh : 2 ^ (j + 1) / 2 = 2 ^ j:=by omega
    by_cases hz : zeroF ((a.take (2 ^ (j + 1))).drop (2 ^ (j + 1) / 2)) = true
    · obtain ⟨i,h1,h2,h3,h4⟩:=shL_pow (a:=a) j
      refine ⟨i,by omega,by rw [shL_go (by omega) hz,hh,h2],fun x hx hx2=>?_,h4⟩
      rcases Nat.lt_or_ge x (2 ^ j) with h5 | h5
      · exact h3 x hx h5
      · have:=zero_iff.1 hz (x - 2 ^ j)
        rw [cf_cut,hh,if_pos (by omega),show 2 ^ j + (x - 2 ^ j) = x by omega] at this
        exact this
    · refine ⟨j + 1,Nat.le_refl _,shL_end (fun h=>hz h.2),fun x h1 h2=>absurd h1 (by omega),.inr ?_⟩
      rw [hh,zero_iff] at hz
      rw [Nat.add_sub_cancel]
      obtain ⟨i,hi⟩:=Classical.not_forall.1 hz
      rw [cf_cut] at hi
      split at hi
      · rename_i h;exact ⟨2 ^ j + i,by omega,h,hi⟩
      · exact absurd rfl hi
def SHP (s : List Rat) : Prop:=s = [] ∨ (s.length = 1 ∧ cf s 0 ≠ 0) ∨ ∃ i,s.length = 2 ^ (i + 1) ∧ ∃ x,2 ^ i ≤ x ∧ x < 2 ^ (i + 1) ∧ cf s x ≠ 0
theorem sho_nil : shoF [] = []:=by
  unfold shoF
  rw [if_neg (by simp),if_neg (by decide)];rfl
theorem sho_ok {k : Nat} {a : List Rat} (hk : k ≤ 5) (h : PW k a) : SHP (shoF a) ∧ PW k (shoF a) ∧ (∀ x,cf (shoF a) x = cf a x) ∧ (shoF a).length ≤ a.length:=by
  rcases h with h | ⟨j,hj,h⟩
  · obtain rfl : a = []:=List.length_eq_zero_iff.1 h
    rw [sho_nil];exact ⟨.inl rfl,.inl rfl,fun _=>rfl,Nat.le_refl _⟩
  · obtain ⟨i,h1,h2,h3,h4⟩:=shL_pow (a:=a) j
    unfold shoF
    rw [h,levI_pow,if_neg (by omega),h2]
    have hle : 2 ^ i ≤ 2 ^ j:=Nat.pow_le_pow_right (by decide) h1
    have hlen : (a.take (2 ^ i)).length = 2 ^ i:=by rw [List.length_take];omega
    have hcf : ∀ x,cf (a.take (2 ^ i)) x = cf a x:=fun x=>by
      rcases Nat.lt_or_ge x (2 ^ i) with h5 | h5
      · exact cf_take h5
      · rw [cf_out (by omega)]
        rcases Nat.lt_or_ge x (2 ^ j) with h6 | h6
        · exact (h3 x h5 h6).symm
        · exact (cf_out (by omega)).symm
    split
    · rename_i hz
      have e : ∀ x,cf a x = 0:=fun x=>by
        rw [← hcf,hz.1];exact zero_iff.1 hz.2 x
      exact ⟨.inl rfl,.inl rfl,fun x=>by rw [e,cf_out (by simp)],Nat.zero_le _⟩
    · rename_i hz
      refine ⟨?_,.inr ⟨i,by omega,hlen⟩,hcf,by omega⟩
      rcases h4 with h4 | ⟨x,h5,h6,h7⟩
      · subst h4
        refine .inr (.inl ⟨by rw [hlen],fun e=>hz ⟨rfl,zero_iff.2 fun x=>?_⟩⟩)
        cases x with
        | zero=>exact e
        | succ x=>exact cf_out (by rw [List.length_take];omega)
      · cases i with
        | zero =>
          exfalso
          simp at h5 h6
          omega
        | succ i=>exact .inr (.inr ⟨i,hlen,x,by simpa using h5,h6,by rw [hcf];exact h7⟩)
theorem cf_ext {a b : List Rat} (hl : a.length = b.length) (h : ∀ x,cf a x = cf b x) : a = b:=List.ext_getElem hl fun i h1 h2=>by
  have:=h i
  unfold cf at this
  rwa [List.getD_eq_getElem?_getD,List.getD_eq_getElem?_getD,List.getElem?_eq_getElem h1,List.getElem?_eq_getElem h2] at this
theorem SHP.le {s s' : List Rat} (h : SHP s) (h' : SHP s') (e : ∀ x,cf s x = cf s' x) : s.length ≤ s'.length:=by
  rcases Nat.lt_or_ge s'.length s.length with hl | hl
  · exfalso
    rcases h with rfl | ⟨h1,h2⟩ | ⟨i,h1,x,h2,h3,h4⟩
    · simp at hl
    · exact h2 ((e 0).trans (cf_out (by omega)))
    · have hp:=Nat.two_pow_pos i
      have e2 : 2 ^ (i + 1) = 2 ^ i + 2 ^ i:=by rw [Nat.pow_succ];omega
      refine h4 ((e x).trans (cf_out ?_))
      rcases h' with rfl | ⟨h5,_⟩ | ⟨m,h5,_⟩
      · exact Nat.zero_le _
      · omega
      · rw [h5,h1] at hl
        have h6 : m + 1 < i + 1:=(Nat.pow_lt_pow_iff_right (by decide)).1 hl
        have : 2 ^ (m + 1) ≤ 2 ^ i:=Nat.pow_le_pow_right (by decide) (by omega)
        omega
  · exact hl
theorem SHP.uniq {s s' : List Rat} (h : SHP s) (h' : SHP s') (e : ∀ x,cf s x = cf s' x) : s = s' :=
  cf_ext (Nat.le_antisymm (h.le h' e) (h'.le h fun x=>(e x).symm)) e
theorem sho_of {k : Nat} {s : List Rat} (hk : k ≤ 5) (h : PW k s) (hs : SHP s) : shoF s = s:=by
  obtain ⟨h1,_,h2,_⟩:=sho_ok hk h
  exact h1.uniq hs h2
def tmF (rs : List (List Rat)) (a b : List Rat) : List Rat:=timesF rs (rs.length + 1) a b
def normF (rs : List (List Rat)) (a : List Rat) : List Rat :=
  plusF (tmF rs (a.take (a.length / 2)) (a.take (a.length / 2))) (minusF (tmF rs (tmF rs (a.drop (a.length / 2)) (a.drop (a.length / 2))) (rs.getD (lev a.length - 1) [])))
def dR (rs : List (List Rat)) : El.Rts:=fun k=>El.toE k (rs.getD k [])
def RLN (rs : List (List Rat)) : Prop:=∀ j,j < rs.length → (rs.getD j []).length = 2 ^ j
noncomputable def vlL (rs : List (List Rat)) (a : List Rat) : RR:=El.vl (dR rs) (El.toE 5 a)
noncomputable def sgL (rs : List (List Rat)) (a : List Rat) : Int:=sgR (vlL rs a)
def TOK (rs : List (List Rat)) : Prop:=rs.length ≤ 5 ∧ RLN rs ∧ ∀ j,j < rs.length → 0 ≤ vlL rs (rs.getD j [])
namespace El
theorem vl_low {d : Rts} {k : Nat} {l : List Rat} (h : l.length ≤ 2 ^ k) : vl d (toE (k + 1) l) = vl d (toE k l):=by
  rw [toE_low h]
  show vl d (toE k l) + vl d (zero k) * _ = _
  rw [vl_zero,RR.zero_mul,RR.add_zero]
theorem vl_ups {d : Rts} {l : List Rat} {k : Nat} (h : l.length ≤ 2 ^ k) : ∀ j,vl d (toE (k + j) l) = vl d (toE k l)
  | 0=>rfl
  | j + 1=>(vl_low (Nat.le_trans h (Nat.pow_le_pow_right (by decide) (Nat.le_add_right k j)))).trans (vl_ups h j)
theorem vl_at {rs : List (List Rat)} {l : List Rat} {k : Nat} (hk : k ≤ 5) (h : l.length ≤ 2 ^ k) : vlL rs l = vl (dR rs) (toE k l):=by
  have:=vl_ups (d:=dR rs) h (5 - k)
  rwa [show k + (5 - k) = 5 by omega] at this
theorem vl_congr {d d' : Rts} : ∀ {k : Nat} (x : El k),(∀ j,j < k → d j = d' j) → vl d x = vl d' x
  | 0,_,_=>rfl
  | k + 1,x,h=>by
    show vl d x.1 + vl d x.2 * (vl d (d k)).sq = vl d' x.1 + vl d' x.2 * (vl d' (d' k)).sq
    rw [vl_congr x.1 fun j hj=>h j (by omega),vl_congr x.2 fun j hj=>h j (by omega),vl_congr (d k) fun j hj=>h j (by omega),h k (Nat.lt_succ_self k)]
theorem toE_cf {k : Nat} {a b : List Rat} (h : ∀ x,cf a x = cf b x) : toE k a = toE k b:=toF_ext fun i _=>h i
end El
theorem TOK.ok {rs : List (List Rat)} (h : TOK rs) : El.ok (dR rs) rs.length:=fun j hj=>by
  have:=h.2.2 j hj
  have hl:=h.2.1 j hj
  rwa [El.vl_at (k:=j) (by have:=h.1;omega) (by rw [hl];exact Nat.le_refl _)] at this
theorem RLN.at {rs : List (List Rat)} (h : RLN rs) {j : Nat} (hj : j < rs.length) : (rs.getD j []).length = 2 ^ j:=h j hj
theorem RLN.hd {rs : List (List Rat)} (h : RLN rs) : ∀ j,j < rs.length → (rs.getD j []).length = 2 ^ j ∧ El.toE j (rs.getD j []) = dR rs j:=fun j hj=>⟨h j hj,rfl⟩
theorem tm_ok {rs : List (List Rat)} {k : Nat} {a b : List Rat} (hr : RLN rs) (hk : k ≤ rs.length) (ha : PW k a) (hb : PW k b) :
    El.toE k (tmF rs a b) = El.mul (dR rs) (El.toE k a) (El.toE k b) ∧ ((tmF rs a b).length = 0 ∨ (tmF rs a b).length = max a.length b.length):=times_E hr.hd k (rs.length + 1) hk (by omega) a b ha hb
theorem PW.mono {k m : Nat} {a : List Rat} (h : PW k a) (hk : k ≤ m) : PW m a:=by
  rcases h with h | ⟨j,hj,h⟩
  · exact .inl h
  · exact .inr ⟨j,by omega,h⟩
theorem PW.tmn {rs : List (List Rat)} {k m : Nat} {a b : List Rat} (hr : RLN rs) (hk : k ≤ rs.length) (hm : k < m) (ha : PW k a) (hb : PW k b) : PW k (timesF rs m a b):=by
  rcases (times_E hr.hd k m hk hm a b ha hb).2 with h | h
  · exact .inl h
  · rcases Nat.le_total a.length b.length with hl | hl
    · rw [Nat.max_eq_right hl] at h
      exact hb.imp (fun hb=>h.trans hb) fun ⟨j,hj,hb⟩=>⟨j,hj,h.trans hb⟩
    · rw [Nat.max_eq_left hl] at h
      exact ha.imp (fun ha=>h.trans ha) fun ⟨j,hj,ha⟩=>⟨j,hj,h.trans ha⟩
theorem PW.tm {rs : List (List Rat)} {k : Nat} {a b : List Rat} (hr : RLN rs) (hk : k ≤ rs.length) (ha : PW k a) (hb : PW k b) : PW k (tmF rs a b):=PW.tmn hr hk (by omega) ha hb
theorem PW.half {k : Nat} {a : List Rat} (ha : PW k a) (hz : ¬ zeroF a = true) (h1 : ¬ a.length = 1) : ∃ j,j < k ∧ a.length = 2 ^ (j + 1) ∧ a.length / 2 = 2 ^ j ∧ (a.take (2 ^ j)).length = 2 ^ j ∧ (a.drop (2 ^ j)).length = 2 ^ j:=by
  rcases ha with ha | ⟨i,hi,ha⟩
  · exfalso;apply hz;rw [List.length_eq_zero_iff.1 ha];rfl
  · cases i with
    | zero=>exact absurd ha h1
    | succ j =>
      have e2 : 2 ^ (j + 1) = 2 ^ j + 2 ^ j:=by rw [Nat.pow_succ];omega
      exact ⟨j,by omega,ha,by omega,by rw [List.length_take];omega,by rw [List.length_drop];omega⟩
theorem PW.pos {k : Nat} {b : List Rat} {j : Nat} (hb : PW k b) (hz : ¬ b.length ≤ 2 ^ j) (hl : b.length ≤ 2 ^ (j + 1)) : b.length = 2 ^ (j + 1):=by
  rcases hb with hb | ⟨i,hi,hb⟩
  · exact absurd (Nat.zero_le _) (by rw [← hb];exact hz)
  · have h1 : j < i := by
      rcases Nat.lt_or_ge j i with h | h
      · exact h
      · exact absurd (by rw [hb];exact Nat.pow_le_pow_right (by decide) h) hz
    have h2 : i ≤ j + 1:=by
      rcases Nat.lt_or_ge (j + 1) i with h | h
      · have:=Nat.pow_lt_pow_right (a:=2) (by decide) h;omega
      · exact h
    rw [hb,show i = j + 1 by omega]
theorem times_fuel {rs : List (List Rat)} (hr : RLN rs) : ∀ k : Nat,k ≤ rs.length → ∀ m m' : Nat,k < m → k < m' → ∀ a b : List Rat,PW k a → PW k b → timesF rs m a b = timesF rs m' a b:=by
  intro k
  induction k with
  | zero =>
    intro _ m m' hm hm' a b ha hb
    obtain ⟨m,rfl⟩ : ∃ i,m = i + 1:=⟨m - 1,by omega⟩
    obtain ⟨m',rfl⟩ : ∃ i,m' = i + 1:=⟨m' - 1,by omega⟩
    have key : ∀ a b : List Rat,PW 0 a → stepF rs (timesF rs m) a b = stepF rs (timesF rs m') a b:=fun a b ha=>by
      unfold stepF
      by_cases hz : (zeroF a || zeroF b) = true
      · rw [if_pos hz,if_pos hz]
      · rw [if_neg hz,if_neg hz]
        by_cases h1 : a.length = 1
        · rw [if_pos h1,if_pos h1]
        · obtain ⟨j,hj,_⟩:=ha.half (fun e=>hz (by rw [e];rfl)) h1
          omega
    unfold timesF
    split
    · exact key b a hb
    · exact key a b ha
  | succ k ih =>
    intro hk m m' hm hm' a b ha hb
    obtain ⟨m,rfl⟩ : ∃ i,m = i + 1:=⟨m - 1,by omega⟩
    obtain ⟨m',rfl⟩ : ∃ i,m' = i + 1:=⟨m' - 1,by omega⟩
    have IH:=ih (by omega) m m' (by omega) (by omega)
    have key : ∀ a b : List Rat,PW (k + 1) a → PW (k + 1) b → b.length ≤ a.length → stepF rs (timesF rs m) a b = stepF rs (timesF rs m') a b:=fun a b ha hb hab=>by
      unfold stepF
      by_cases hz : (zeroF a || zeroF b) = true
      · rw [if_pos hz,if_pos hz]
      · rw [if_neg hz,if_neg hz]
        by_cases h1 : a.length = 1
        · rw [if_pos h1,if_pos h1]
        · obtain ⟨j,hj,hla,hh,hx,hy⟩:=ha.half (fun e=>hz (by rw [e];rfl)) h1
          rw [if_neg h1,if_neg h1,hh,hla,lev_pow,Nat.add_sub_cancel]
          have px : PW k (a.take (2 ^ j)):=(PW.pow hx).mono (by omega)
          have py : PW k (a.drop (2 ^ j)):=(PW.pow hy).mono (by omega)
          by_cases hbl : b.length ≤ 2 ^ j
          · have pb : PW k b:=hb.low (Nat.le_trans hbl (Nat.pow_le_pow_right (by decide) (by omega)))
            rw [if_pos hbl,if_pos hbl,IH _ _ px pb,IH _ _ py pb]
          · have hb2:=hb.pos hbl (by omega)
            have e2 : 2 ^ (j + 1) = 2 ^ j + 2 ^ j:=by rw [Nat.pow_succ];omega
            have pu : PW k (b.take (2 ^ j)):=(PW.pow (k:=j) (by rw [List.length_take];omega)).mono (by omega)
            have pv : PW k (b.drop (2 ^ j)):=(PW.pow (k:=j) (by rw [List.length_drop];omega)).mono (by omega)
            have pd : PW k (rs.getD j []):=(PW.pow (hr j (by omega))).mono (by omega)
            rw [if_neg hbl,if_neg hbl,IH _ _ px pu,IH _ _ py pv,IH _ _ (PW.tmn hr (by omega) (by omega) py pv) pd,IH _ _ px pv,IH _ _ py pu]
    unfold timesF
    split
    · exact key b a hb ha (by omega)
    · exact key a b ha hb (by omega)
theorem PW.plus {k : Nat} {a b : List Rat} (ha : PW k a) (hb : PW k b) : PW k (plusF a b):=by
  have h:=plus_len (a:=a) (b:=b)
  rcases Nat.le_total a.length b.length with hl | hl
  · rw [Nat.max_eq_right hl] at h
    exact hb.imp (fun hb=>h.trans hb) fun ⟨j,hj,hb⟩=>⟨j,hj,h.trans hb⟩
  · rw [Nat.max_eq_left hl] at h
    exact ha.imp (fun ha=>h.trans ha) fun ⟨j,hj,ha⟩=>⟨j,hj,h.trans ha⟩
theorem minus_len {a : List Rat} : (minusF a).length = a.length:=by simp [minusF]
theorem PW.minus {k : Nat} {a : List Rat} (ha : PW k a) : PW k (minusF a):=by
  unfold PW;rw [minus_len];exact ha
theorem norm_ok {rs : List (List Rat)} {k : Nat} {a : List Rat} (hr : RLN rs) (hk : k < rs.length) (ha : a.length = 2 ^ (k + 1)) :
    El.toE k (normF rs a) = El.norm (dR rs) (El.toE (k + 1) a) ∧ PW k (normF rs a):=by
  have e2 : 2 ^ (k + 1) = 2 ^ k + 2 ^ k:=by rw [Nat.pow_succ];omega
  have hh : a.length / 2 = 2 ^ k:=by omega
  have hx : PW k (a.take (2 ^ k)):=.pow (by rw [List.length_take];omega)
  have hy : PW k (a.drop (2 ^ k)):=.pow (by rw [List.length_drop];omega)
  have hd : PW k (rs.getD k []):=.pow (hr k hk)
  have hyy:=PW.tm hr (by omega) hy hy
  unfold normF
  rw [hh,ha,lev_pow,Nat.add_sub_cancel]
  refine ⟨?_,(PW.tm hr (by omega) hx hx).plus (PW.tm hr (by omega) hyy hd).minus⟩
  rw [El.toE_plus,El.toE_minus,(tm_ok hr (by omega) hx hx).1,(tm_ok hr (by omega) hyy hd).1,(tm_ok hr (by omega) hy hy).1,El.toE_halves k a]
  rfl
theorem sgL_nil {rs : List (List Rat)} : sgL rs [] = 0:=by
  unfold sgL
  rw [El.vl_at (k:=0) (by decide) (by simp)]
  show sgR (RR.of 0) = 0
  rw [sgR_of];rfl
theorem sgL_one {rs : List (List Rat)} {a : List Rat} (h : a.length = 1) : sgL rs a = (cf a 0).num.sign:=by
  unfold sgL
  rw [El.vl_at (k:=0) (by decide) (by rw [h];decide)]
  exact sgR_of _
theorem sgL_cf {rs : List (List Rat)} {a b : List Rat} (h : ∀ x,cf a x = cf b x) : sgL rs a = sgL rs b:=by unfold sgL vlL;rw [El.toE_cf h]
theorem sgL_short {rs : List (List Rat)} {k : Nat} {a : List Rat} (hk : k ≤ 5) (h : PW k a) : sgL rs (shoF a) = sgL rs a:=sgL_cf (sho_ok hk h).2.2.1
theorem sgL_step {rs : List (List Rat)} (ht : TOK rs) {k : Nat} {a : List Rat} (hk : k < rs.length) (ha : a.length = 2 ^ (k + 1)) :
    sgL rs a = if sgL rs (rs.getD k []) = 0 then sgL rs (a.take (a.length / 2)) else if sgL rs (a.take (a.length / 2)) = sgL rs (a.drop (a.length / 2)) ∨ sgL rs (a.drop (a.length / 2)) = 0 then sgL rs (a.take (a.length / 2)) else
      if sgL rs (a.take (a.length / 2)) = 0 then sgL rs (a.drop (a.length / 2)) else sgL rs (a.take (a.length / 2)) * sgL rs (normF rs a):=by
  have e2 : 2 ^ (k + 1) = 2 ^ k + 2 ^ k:=by rw [Nat.pow_succ];omega
  have h5:=ht.1
  have hh : a.length / 2 = 2 ^ k:=by omega
  have hx : (a.take (2 ^ k)).length = 2 ^ k:=by rw [List.length_take];omega
  have hy : (a.drop (2 ^ k)).length = 2 ^ k:=by rw [List.length_drop];omega
  obtain ⟨n1,n2⟩:=norm_ok ht.2.1 hk ha
  have hr:=ht.2.1 k hk
  rw [hh]
  unfold sgL
  rw [El.vl_at (k:=k + 1) (by omega) (by omega),El.vl_at (l:=rs.getD k []) (k:=k) (by omega) (by omega),El.vl_at (l:=a.take (2 ^ k)) (k:=k) (by omega) (by omega),El.vl_at (l:=a.drop (2 ^ k)) (k:=k) (by omega) (by omega),El.vl_at (l:=normF rs a) (k:=k) (by omega) n2.le,n1]
  have:=El.sg_step (ht.ok.mono (Nat.succ_le_of_lt hk)) (El.toE (k + 1) a)
  unfold El.sg at this
  rw [this,El.toE_halves k a]
  rfl
theorem sgL_bd (rs : List (List Rat)) (a : List Rat) : -1 ≤ sgL rs a ∧ sgL rs a ≤ 1:=by
  unfold sgL
  rcases sgR_cases (vlL rs a) with ⟨_,h⟩ | ⟨_,h⟩ | ⟨_,h⟩ <;> omega
theorem sgL_mul_bd (rs : List (List Rat)) (a b : List Rat) : -9223372036854775808 ≤ sgL rs a * sgL rs b ∧ sgL rs a * sgL rs b ≤ 9223372036854775807:=by
  have h1:=sgL_bd rs a;have h2:=sgL_bd rs b
  generalize sgL rs a = x at *;generalize sgL rs b = y at *
  rcases (show x = -1 ∨ x = 0 ∨ x = 1 by omega) with rfl | rfl | rfl <;> omega
theorem TOK.take {rs : List (List Rat)} (h : TOK rs) (j : Nat) : TOK (rs.take j) ∧ ∀ l : List Rat,PW (rs.take j).length l → sgL (rs.take j) l = sgL rs l:=by
  have hlen : (rs.take j).length ≤ rs.length:=by rw [List.length_take];omega
  have hget : ∀ i,i < (rs.take j).length → (rs.take j).getD i [] = rs.getD i []:=fun i hi=>by
    rw [List.length_take] at hi
    rw [List.getD_eq_getElem?_getD,List.getD_eq_getElem?_getD,List.getElem?_take_of_lt (by omega)]
  have h5:=h.1
  have hv : ∀ (k : Nat) (l : List Rat),k ≤ (rs.take j).length → l.length ≤ 2 ^ k → vlL (rs.take j) l = vlL rs l:=fun k l hk hl=>by
    rw [El.vl_at (k:=k) (by omega) hl,El.vl_at (k:=k) (by omega) hl]
    exact El.vl_congr _ fun i hi=>by unfold dR;rw [hget i (by omega)]
  refine ⟨⟨by omega,fun i hi=>by rw [hget i hi];exact h.2.1 i (by omega),fun i hi=>?_⟩,fun l hl=>by unfold sgL;rw [hv _ l (Nat.le_refl _) hl.le]⟩
  rw [hget i hi,hv i _ (by omega) (by rw [h.2.1 i (by omega)];exact Nat.le_refl _)]
  exact h.2.2 i (by omega)
theorem TOK.nn {rs : List (List Rat)} (h : TOK rs) {j : Nat} (hj : j < rs.length) : 0 ≤ sgL rs (rs.getD j []):=by
  have:=h.2.2 j hj
  unfold sgL
  rcases sgR_cases (vlL rs (rs.getD j [])) with ⟨h3,h4⟩ | ⟨h3,h4⟩ | ⟨h3,h4⟩
  · exact absurd h3 (RR.not_lt.2 this)
  · omega
  · omega
def tB : Nat → Nat → Nat → Nat
  | 0,n,_=>n
  | k + 1,n,r=>tB k n r + tB k (tB k n r + r) r + 1
def sB : Nat → Nat → Nat → Nat
  | 0,n,_=>n
  | k + 1,n,r=>sB k (tB (k + 1) (n + n) r) r
theorem tB_add {r : Nat} : ∀ {k n m : Nat},tB k n r + m ≤ tB k (n + m) r
  | 0,_,_=>Nat.le_refl _
  | k + 1,n,m=>by
    have h1:=tB_add (r:=r) (k:=k) (n:=n) (m:=m)
    have h2:=tB_add (r:=r) (k:=k) (n:=tB k n r + r) (m:=tB k (n + m) r - tB k n r)
    rw [show tB k n r + r + (tB k (n + m) r - tB k n r) = tB k (n + m) r + r by omega] at h2
    unfold tB;omega
theorem tB_mono {r k n m : Nat} (h : n ≤ m) : tB k n r ≤ tB k m r:=by
  have:=tB_add (r:=r) (k:=k) (n:=n) (m:=m - n)
  rw [show n + (m - n) = m by omega] at this;omega
theorem tB_le {r k n : Nat} : n ≤ tB k n r:=by
  have:=tB_add (r:=r) (k:=k) (n:=0) (m:=n)
  rw [Nat.zero_add] at this;omega
theorem tB_up {r : Nat} : ∀ {k m n : Nat},k ≤ m → tB k n r ≤ tB m n r:=fun {k m n} h=>by
  induction m with
  | zero=>rw [show k = 0 by omega];exact Nat.le_refl _
  | succ m ih =>
    rcases Nat.lt_or_ge k (m + 1) with h1 | h1
    · exact Nat.le_trans (ih (by omega)) (by conv => rhs; unfold tB
                                             omega)
    · rw [show k = m + 1 by omega];exact Nat.le_refl _
theorem sB_mono {r : Nat} : ∀ {k n m : Nat},n ≤ m → sB k n r ≤ sB k m r
  | 0,_,_,h=>h
  | k + 1,n,m,h=>by
    unfold sB;exact sB_mono (tB_mono (by omega))
theorem sB_le {r : Nat} : ∀ {k n : Nat},n ≤ sB k n r
  | 0,n=>Nat.le_refl _
  | k + 1,n=>Nat.le_trans (by have:=tB_le (r:=r) (k:=k + 1) (n:=n + n);omega) (sB_le (k:=k) (n:=tB (k + 1) (n + n) r))
theorem sB_up {r : Nat} {k n : Nat} : sB k n r ≤ sB (k + 1) n r:=by
  unfold sB
  have:=tB_le (r:=r) (k:=k + 1) (n:=n + n)
  cases k with
  | zero=>show n ≤ tB (0 + 1) (n + n) r;omega
  | succ k=>exact sB_mono (k:=k + 1) (by omega)
theorem sB_ups {r : Nat} {k m n : Nat} (h : k ≤ m) : sB k n r ≤ sB m n r:=by
  induction m with
  | zero=>rw [show k = 0 by omega];exact Nat.le_refl _
  | succ m ih =>
    rcases Nat.lt_or_ge k (m + 1) with h1 | h1
    · exact Nat.le_trans (ih (by omega)) sB_up
    · rw [show k = m + 1 by omega];exact Nat.le_refl _
end Go.Proofs.YtboicjlbbbodgaaGreatDoor
set_option maxHeartbeats 4000000
set_option maxRecDepth 100000
set_option synthInstance.maxSize 100000
set_option synthInstance.maxHeartbeats 400000
namespace Go.Proofs.YtboicjlbbbodgaaGreatDoor
open Go.RowKit (Below)
attribute [local irreducible] Go.Code.wp Go.wpList Go.bodyPost
private theorem gS_ {W0 : World} {G0 : Gh} {N : Nat} {L : List (Nat × MT)} {B : List BX} {a : Act} {w : World} {G : Gh} {q : Prop} (h : St W0 G0 N L B a w G → q) : St W0 G0 N L B a w G → q:=h
private theorem gL_ {p : Prop} {P : Program} {arr : Array Oper} {Q : Exit → Act → World → Prop} {l : List Oper} {a : Act} {w : World} (h : p → wpList P arr Q l a w) : p → wpList P arr Q l a w:=h
private theorem gC_ {p : Prop} {P : Program} {c : Code} {Q : Exit → Act → World → Prop} {a : Act} {w : World} (h : p → c.wp P Q a w) : p → c.wp P Q a w:=h
private theorem mixedOrders : Tryz.prog.follows .mixedOrders = true:=by kernel_rfl
def mnP (l : List Rat) (j : Nat) : List Rat:=(List.range l.length).map fun i=>if i < j then -cf l i else 0
def plP (n m : Nat) (l k : List Rat) (j : Nat) : List (Nat × Rat):=(List.range (max l.length k.length)).map fun i=>if i < j then (n + m + 1,cf l i + cf k i) else (n,cf l i)
theorem emp_z {x : Rat} : ((FR.of x).s || decide ((((FR.of x).p.length : Nat) : Int) > 0) || decide ((((FR.of x).q.length : Nat) : Int) > 0)) = !decide (x.num.sign = 0):=by
  by_cases h : x = 0
  · subst h
    have e1 : (FR.of 0).p = []:=words_zero
    have e2 : (FR.of 0).q = []:=by show dwords 0 = [];simp [dwords]
    rw [e1,e2]
    decide
  · have h2 : x.num.sign ≠ 0:=fun e=>h (Rat.num_eq_zero.1 (Int.sign_eq_zero_iff_zero.1 e))
    have h3 : 0 < (FR.of x).p.length:=by
      rcases Nat.eq_zero_or_pos (FR.of x).p.length with e | e
      · exfalso
        have e1 : words x.num.natAbs = []:=List.length_eq_zero_iff.1 e
        have e2:=val_words x.num.natAbs
        rw [e1] at e2
        exact h (Rat.num_eq_zero.1 (Int.natAbs_eq_zero.1 e2.symm))
      · exact e
    rw [decide_eq_false h2,decide_eq_true (show (((FR.of x).p.length : Nat) : Int) > 0 by omega)]
    simp
theorem mnP_0 {l : List Rat} : List.replicate l.length 0 = mnP l 0:=by
  unfold mnP
  refine List.ext_getElem (by simp) fun i h1 h2=>?_
  simp
theorem mnP_len {l : List Rat} {j : Nat} : (mnP l j).length = l.length:=by simp [mnP]
theorem mnP_s {l : List Rat} {j : Nat} (h : j < l.length) : (mnP l j).set j (-l.getD j default) = mnP l (j + 1):=by
  refine List.ext_getElem (by simp [mnP]) fun i h1 h2=>?_
  simp only [mnP,List.getElem_set,List.getElem_map,List.getElem_range]
  by_cases e : j = i
  · subst e;rw [if_pos rfl,if_pos (Nat.lt_succ_self j)];rfl
  · rw [if_neg e]
    by_cases h3 : i < j
    · rw [if_pos h3,if_pos (by omega)]
    · rw [if_neg h3,if_neg (by omega)]
theorem mnP_e {l : List Rat} {j : Nat} (h : l.length ≤ j) : mnP l j = minusF l:=by
  refine List.ext_getElem (by simp [mnP,minusF]) fun i h1 h2=>?_
  have hi : i < l.length:=by simpa [mnP] using h1
  simp only [mnP,minusF,List.getElem_map,List.getElem_range]
  rw [if_pos (by omega)]
  simp [cf,List.getD_eq_getElem?_getD,hi]
theorem plP_len {n m : Nat} {l k : List Rat} {j : Nat} : (plP n m l k j).length = max l.length k.length:=by simp [plP]
theorem wide_get {l : List Rat} {M i : Nat} (h : i < M) : (wideF l M).getD i default = cf l i ∧ ∀ h2 : i < (wideF l M).length,(wideF l M)[i] = cf l i:=by
  have key : (wideF l M)[i]? = some (cf l i):=by
    unfold wideF cf
    rcases Nat.lt_or_ge i l.length with h3 | h3
    · rw [List.getElem?_append_left (by rw [List.length_take];omega),List.getElem?_take_of_lt h,List.getElem?_eq_getElem h3,List.getD_eq_getElem?_getD,List.getElem?_eq_getElem h3];rfl
    · have e : (l.take M).length = l.length:=by rw [List.length_take];omega
      rw [List.getElem?_append_right (by omega),e,List.getElem?_drop,List.getElem?_replicate,if_pos (by omega),List.getD_eq_getElem?_getD,List.getElem?_eq_none h3];rfl
  refine ⟨by rw [List.getD_eq_getElem?_getD,key];rfl,fun h2=>?_⟩
  rw [List.getElem?_eq_getElem h2] at key;exact Option.some.inj key
theorem wide_ln {l : List Rat} {M : Nat} : (wideF l M).length = M:=by unfold wideF;simp;omega
theorem plP_0 {n m : Nat} {l k : List Rat} : plP n m l k 0 = (wideF l (max l.length k.length)).map fun x=>(n,x):=by
  refine List.ext_getElem (by simp [plP,wide_ln]) fun i h1 h2=>?_
  have hi : i < max l.length k.length:=by simpa [plP] using h1
  simp only [plP,List.getElem_map,List.getElem_range]
  rw [if_neg (by omega),(wide_get hi).2]
theorem plP_s {n m : Nat} {l k : List Rat} {j : Nat} (h : j < max l.length k.length) : (plP n m l k j).set j (((plP n m l k j).getD j default).1 + m + 1,((plP n m l k j).getD j default).2 + (wideF k (max l.length k.length)).getD j default) = plP n m l k (j + 1):=by
  have e0 : (plP n m l k j).getD j default = (n,cf l j):=by
    rw [List.getD_eq_getElem?_getD,List.getElem?_eq_getElem (by rw [plP_len];exact h)]
    simp [plP]
  rw [e0,(wide_get h).1]
  refine List.ext_getElem (by simp [plP]) fun i h1 h2=>?_
  simp only [plP,List.getElem_set,List.getElem_map,List.getElem_range]
  by_cases e : j = i
  · subst e;rw [if_pos rfl,if_pos (Nat.lt_succ_self j)]
  · rw [if_neg e]
    by_cases h3 : i < j
    · rw [if_pos h3,if_pos (by omega)]
    · rw [if_neg h3,if_neg (by omega)]
theorem plP_g {n m : Nat} {l k : List Rat} {j : Nat} (h : j < max l.length k.length) : ((plP n m l k j).getD j default).1 = n:=by
  rw [List.getD_eq_getElem?_getD,List.getElem?_eq_getElem (by rw [plP_len];exact h)]
  simp [plP]
theorem plP_e {n m : Nat} {l k : List Rat} {j : Nat} (h : max l.length k.length ≤ j) : (plP n m l k j).map Prod.snd = plusF l k ∧ ∀ p ∈ plP n m l k j,p.1 ≤ n + m + 1:=by
  constructor
  · refine List.ext_getElem (by simp [plP,plusF]) fun i h1 h2=>?_
    have hi : i < max l.length k.length:=by simpa [plP] using h1
    simp only [plP,plusF,List.getElem_map,List.getElem_range]
    rw [if_pos (by omega)]
  · intro p hp
    unfold plP at hp
    obtain ⟨i,_,rfl⟩:=List.mem_map.1 hp
    split <;> simp <;> omega
instance {α : Type} {T : α → MT} {l : List α} : Con Tryz.prog 89 [LS (some 3) (l.map T)] (True) (IT (levI l.length)):=.o1 fun hok h1 hp=>by
  refine St.enter (N:=17) Tryz.func89 rfl rfl rfl hok (enter1 h1) fun a=>?_
  have hlim:=LS.lenM h1
  simp only [LIM] at hlim
  repeat' (first|((with_reducible refine gS_ ?_);first|((with_reducible refine gL_ ?_);first|refine W.run ?_ fun a w G=>?_|refine W.mv fun a w G=>?_|refine W.asg fun a w G=>?_|(refine W.nn hK ?_;clear hK K)|refine W.nl ?_|refine W.ste ?_ fun w=>?_)|((with_reducible refine gC_ ?_);first|refine W.reg fun K hK=>?_|refine W.reg1 ?_|refine W.sq fun K hK=>?_|refine W.sk ?_|refine W.cd (fun hc=>?_) (fun hc=>?_)|refine W.cb (fun hc=>?_) (fun hc=>?_)|refine W.bl ?_|refine W.ex ?_|refine W.rt ?_)|((with_reducible refine W.kn hK ?_);clear hK K)|(with_reducible first|refine W.bn ?_|refine W.xt ?_|refine W.xb ?_|refine W.xo ?_|refine W.tr ?_|refine W.br ?_)|refine W.rt1 rfl ?_)|refine W.lp 4 (α:=Nat) (fun j=>l.length - 2 ^ j) (fun j=>∀ i,i < j → 2 ^ i < l.length) [3,4,5,6,7,8,9,10] (fun j=>[(3,NT j)]) (fun j=>[]) (0) ?_ ?_ ?_ fun j hj a w G=>?_|refine W.ag (x:=j) (j+1) ?_ ?_ ?_ ?_|clear hK K|clear hu|exact True.intro|exact Nat.le_trans (by clear hp;omega) hp|exact Nat.le_trans (by clear hp;omega) hp.1|exact Nat.le_trans (by clear hp;omega) hp.2|(clear hp;omega)|apply And.intro|refine GI.i fun _=>?_|with_reducible rfl|decide|(simp only [List.length_cons,List.length_nil];omega))
  all_goals (obtain ⟨hl,hl2⟩:=lev_le hj hlim;have e2 : 2 ^ (j + 1) = 2 * 2 ^ j:=by rw [Nat.pow_succ,Nat.mul_comm])
  all_goals have hpj:=Nat.two_pow_pos j
  all_goals first
    | omega
    | exact fun i hi=>lev_lt hj (by omega) i hi
    | exact (levI_n hj (by omega) (by omega)).symm
    | exact (levI_y (by omega)).symm
theorem w120 {n : Nat} {l : List Rat} : Con Tryz.prog 120 [NM n l] (n ≤ BIG) (BT (zeroF l)):=.o1 fun hok h1 hp=>by
  refine St.enter (N:=15) Tryz.func120 rfl rfl rfl hok (enter1 h1) fun a=>?_
  have hlim:=LS.lenM h1
  simp only [LIM] at hlim
  repeat' (first|((with_reducible refine gS_ ?_);first|((with_reducible refine gL_ ?_);first|refine W.run ?_ fun a w G=>?_|refine W.mv fun a w G=>?_|refine W.asg fun a w G=>?_|(refine W.nn hK ?_;clear hK K)|refine W.nl ?_|refine W.al fun b a w G=>?_|refine W.st fun w=>?_|refine W.stp fun w=>?_|refine W.ste ?_ fun w=>?_)|((with_reducible refine gC_ ?_);first|refine W.reg fun K hK=>?_|refine W.reg1 ?_|refine W.sq fun K hK=>?_|refine W.sk ?_|refine W.cd (fun hc=>?_) (fun hc=>?_)|refine W.cb (fun hc=>?_) (fun hc=>?_)|refine W.bl ?_|refine W.ex ?_|refine W.rt ?_)|((with_reducible refine W.kn hK ?_);clear hK K)|(with_reducible first|refine W.bn ?_|refine W.xt ?_|refine W.xb ?_|refine W.xo ?_|refine W.tr ?_|refine W.br ?_)|refine W.rt1 rfl ?_)|refine W.lp 8 (α:=Nat) (fun j=>l.length - j) (fun j=>j ≤ l.length ∧ zeroF (l.take j) = true) [2,4,7,8,9,10,11,12,13,14] (fun j=>[(7,NT j)]) (fun j=>[]) (0) ?_ ?_ ?_ fun j hj a w G=>?_|refine W.ag (x:=j) (j+1) ?_ ?_ ?_ ?_|clear hK K|clear hu|exact True.intro|exact Nat.le_trans (by clear hp;omega) hp|exact Nat.le_trans (by clear hp;omega) hp.1|exact Nat.le_trans (by clear hp;omega) hp.2|(clear hp;omega)|apply And.intro|refine GI.i fun _=>?_|with_reducible rfl|decide|(simp only [List.length_cons,List.length_nil];omega))
  all_goals first
    | (simp [zeroF];done)
    | exact (all_not (p:=fun x : Rat=>decide (x.num.sign = 0)) (show j < l.length by omega) (by first | simpa using hc | (rw [emp_z] at hc;simpa using hc))).symm
    | exact all_snoc (p:=fun x : Rat=>decide (x.num.sign = 0)) (show j < l.length by omega) hj.2 (by first | simpa using hc | (rw [emp_z] at hc;simpa using hc))
    | exact (all_end (p:=fun x : Rat=>decide (x.num.sign = 0)) (by omega) hj.2).symm
instance {n : Nat} {l : List Rat} {τ1 : MT} [j1 : NU τ1 (NM n l)] : Con Tryz.prog 120 [τ1] (n ≤ BIG) (BT (zeroF l)):=.o1 fun hok h1 hp=>w120.c1 hok (j1.h h1) hp
theorem w90 {n : Nat} {l : List Rat} : Con Tryz.prog 90 [NM n l] (n ≤ BIG) (BT (zeroF l)):=.o1 fun hok h1 hp=>by
  refine St.enter (N:=26) Tryz.func90 rfl rfl rfl hok (enter1 h1) fun a=>?_
  have hlim:=LS.lenM h1
  simp only [LIM] at hlim
  repeat' (first|((with_reducible refine gS_ ?_);first|((with_reducible refine gL_ ?_);first|refine W.run ?_ fun a w G=>?_|refine W.mv fun a w G=>?_|refine W.asg fun a w G=>?_|(refine W.nn hK ?_;clear hK K)|refine W.nl ?_|refine W.al fun b a w G=>?_|refine W.st fun w=>?_|refine W.stp fun w=>?_|refine W.ste ?_ fun w=>?_)|((with_reducible refine gC_ ?_);first|refine W.reg fun K hK=>?_|refine W.reg1 ?_|refine W.sq fun K hK=>?_|refine W.sk ?_|refine W.cd (fun hc=>?_) (fun hc=>?_)|refine W.cb (fun hc=>?_) (fun hc=>?_)|refine W.bl ?_|refine W.ex ?_|refine W.rt ?_)|((with_reducible refine W.kn hK ?_);clear hK K)|(with_reducible first|refine W.bn ?_|refine W.xt ?_|refine W.xb ?_|refine W.xo ?_|refine W.tr ?_|refine W.br ?_)|refine W.rt1 rfl ?_)|refine W.lp 8 (α:=Nat) (fun j=>l.length - j) (fun j=>j ≤ l.length ∧ zeroF (l.take j) = true) [2,4,7,8,9,10,11,12,13,14,15,16,17,18,19,20,21,22,23,24,25] (fun j=>[(7,NT j)]) (fun j=>[]) (0) ?_ ?_ ?_ fun j hj a w G=>?_|refine W.ag (x:=j) (j+1) ?_ ?_ ?_ ?_|clear hK K|clear hu|exact True.intro|exact Nat.le_trans (by clear hp;omega) hp|exact Nat.le_trans (by clear hp;omega) hp.1|exact Nat.le_trans (by clear hp;omega) hp.2|(clear hp;omega)|apply And.intro|refine GI.i fun _=>?_|with_reducible rfl|decide|(simp only [List.length_cons,List.length_nil];omega))
  all_goals first
    | (simp [zeroF];done)
    | exact (all_not (p:=fun x : Rat=>decide (x.num.sign = 0)) (show j < l.length by omega) (by first | simpa using hc | (rw [emp_z] at hc;simpa using hc))).symm
    | exact all_snoc (p:=fun x : Rat=>decide (x.num.sign = 0)) (show j < l.length by omega) hj.2 (by first | simpa using hc | (rw [emp_z] at hc;simpa using hc))
    | exact (all_end (p:=fun x : Rat=>decide (x.num.sign = 0)) (by omega) hj.2).symm
instance {n : Nat} {l : List Rat} {τ1 : MT} [j1 : NU τ1 (NM n l)] : Con Tryz.prog 90 [τ1] (n ≤ BIG) (BT (zeroF l)):=.o1 fun hok h1 hp=>w90.c1 hok (j1.h h1) hp
theorem w80 {n m : Nat} {l : List Rat} : ConO Tryz.prog 80 [NM n l,NT m] (1 ≤ n ∧ n ≤ BIG ∧ m ≤ 64) (some 3) 57 (QC n) (wideF l m):=.o2 fun hok h1 h2 hp=>by
  obtain ⟨n,rfl⟩ : ∃ k,n = k + 1:=⟨n - 1,by omega⟩
  refine St.enter (N:=12) Tryz.func80 rfl rfl rfl hok (enter2 h1 h2) fun a=>?_
  have own7 : OwnAt 7:=⟨⟩
  have own10 : OwnAt 10:=⟨⟩
  repeat' (first|((with_reducible refine gS_ ?_);first|((with_reducible refine gL_ ?_);first|refine W.run ?_ fun a w G=>?_|refine W.mv fun a w G=>?_|refine W.asg fun a w G=>?_|(refine W.nn hK ?_;clear hK K)|refine W.nl ?_|refine W.ste ?_ fun w=>?_)|((with_reducible refine gC_ ?_);first|refine W.reg fun K hK=>?_|refine W.reg1 ?_|refine W.sq fun K hK=>?_|refine W.sk ?_|refine W.rt ?_)|((with_reducible refine W.kn hK ?_);clear hK K)|with_reducible refine W.tr ?_|with_reducible refine W.br ?_|refine W.rt1 rfl ?_)|refine W.mk (mt:=FX 1 default) (QC (n+1)) (0:Rat) ?_ fun b a w G=>?_|refine W.cp ?_ fun a w G=>?_|refine W.rto 4 rfl ?_|clear hK K|clear hu|exact True.intro|exact Nat.le_trans (by clear hp;omega) hp|exact Nat.le_trans (by clear hp;omega) hp.1|exact Nat.le_trans (by clear hp;omega) hp.2|(clear hp;omega)|apply And.intro|refine GI.i fun _=>?_|with_reducible rfl|decide|(simp only [List.length_cons,List.length_nil];omega))
  all_goals first | omega | rfl | (simp;done) | exact wide_ln.symm
instance {n m : Nat} {l : List Rat} {τ1 : MT} [j1 : NU τ1 (NM n l)] : ConO Tryz.prog 80 [τ1,NT m] (1 ≤ n ∧ n ≤ BIG ∧ m ≤ 64) (some 3) 57 (QC n) (wideF l m):=.o2 fun hok h1 h2 hp=>w80.c2 hok (j1.h h1) h2 hp
theorem w71 {n : Nat} {l : List Rat} : Con Tryz.prog 71 [NM n l] (1 ≤ n ∧ n ≤ BIG ∧ l.length ≤ 64) (NM n (minusF l)):=.o1 fun hok h1 hp=>by
  obtain ⟨n,rfl⟩ : ∃ k,n = k + 1:=⟨n - 1,by omega⟩
  refine St.enter (N:=23) Tryz.func71 rfl rfl rfl hok (enter1 h1) fun a=>?_
  have own7 : OwnAt 7:=⟨⟩
  repeat' (first|((with_reducible refine gS_ ?_);first|((with_reducible refine gL_ ?_);first|refine W.run ?_ fun a w G=>?_|refine W.mv fun a w G=>?_|refine W.asg fun a w G=>?_|(refine W.nn hK ?_;clear hK K)|refine W.nl ?_|refine W.st fun w=>?_|refine W.stp fun w=>?_|refine W.ste ?_ fun w=>?_)|((with_reducible refine gC_ ?_);first|refine W.reg fun K hK=>?_|refine W.reg1 ?_|refine W.sq fun K hK=>?_|refine W.sk ?_|refine W.cd (fun hc=>?_) (fun hc=>?_)|refine W.cb (fun hc=>?_) (fun hc=>?_)|refine W.bl ?_|refine W.ex ?_|refine W.rt ?_)|((with_reducible refine W.kn hK ?_);clear hK K)|(with_reducible first|refine W.bn ?_|refine W.xt ?_|refine W.xb ?_|refine W.xo ?_|refine W.tr ?_|refine W.br ?_)|refine W.rt1 rfl ?_)|refine W.mk (mt:=FX 1 default) (QC (n+1)) (0:Rat) ?_ fun b a w G=>?_|refine W.fz 2 ?_ fun G=>?_|refine W.lp 11 (α:=Nat) (fun j=>l.length - j) (fun j=>j ≤ l.length) [4,10,11,12,13,14,15,16,17,18,19,20,21] (fun j=>[(10,NT j)]) (fun j=>[(3,ROWS (some 3) ((mnP l j).map (QC (n+1))))]) (0) ?_ ?_ ?_ fun j hj a w G=>?_|refine W.ag (x:=j) (j+1) ?_ ?_ ?_ ?_|clear hK K|clear hu|exact True.intro|exact Nat.le_trans (by clear hp;omega) hp|exact Nat.le_trans (by clear hp;omega) hp.1|exact Nat.le_trans (by clear hp;omega) hp.2|(clear hp;omega)|apply And.intro|refine GI.i fun _=>?_|with_reducible rfl|decide|(simp only [List.length_cons,List.length_nil];omega))
  all_goals (try simp only [mnP_len] at *)
  all_goals first
    | omega
    | (simp only [LIM];omega)
    | exact mnP_0
    | exact mnP_s (by omega)
    | exact mnP_e (by omega)
instance {n : Nat} {l : List Rat} {τ1 : MT} [j1 : NU τ1 (NM n l)] : Con Tryz.prog 71 [τ1] (1 ≤ n ∧ n ≤ BIG ∧ l.length ≤ 64) (NM n (minusF l)):=.o1 fun hok h1 hp=>w71.c1 hok (j1.h h1) hp
theorem w67 {n m : Nat} {l k : List Rat} : Con Tryz.prog 67 [NM n l,NM m k] (1 ≤ n ∧ 1 ≤ m ∧ n + m + 1 ≤ BIG ∧ l.length ≤ 64 ∧ k.length ≤ 64) (NM (n + m + 1) (plusF l k)):=.o2 fun hok h1 h2 hp=>by
  refine St.enter (N:=37) Tryz.func67 rfl rfl rfl hok (enter2 h1 h2) fun a=>?_
  have own14 : OwnAt 14:=⟨⟩
  have own17 : OwnAt 17:=⟨⟩
  repeat' (first|((with_reducible refine gS_ ?_);first|((with_reducible refine gL_ ?_);first|refine W.run ?_ fun a w G=>?_|refine W.mv fun a w G=>?_|refine W.asg fun a w G=>?_|(refine W.nn hK ?_;clear hK K)|refine W.nl ?_|refine W.st fun w=>?_|refine W.stp fun w=>?_|refine W.ste ?_ fun w=>?_)|((with_reducible refine gC_ ?_);first|refine W.reg fun K hK=>?_|refine W.reg1 ?_|refine W.sq fun K hK=>?_|refine W.ds ?_ (fun β a w G hu=>W.fin ?_ hu) mixedOrders (by kernel_rfl)|refine W.sk ?_|refine W.cd (fun hc=>?_) (fun hc=>?_)|refine W.cb (fun hc=>?_) (fun hc=>?_)|refine W.bl ?_|refine W.ex ?_|refine W.rt ?_)|((with_reducible refine W.kn hK ?_);clear hK K)|(with_reducible first|refine W.bn ?_|refine W.xt ?_|refine W.xb ?_|refine W.xo ?_|refine W.tr ?_|refine W.br ?_)|refine W.rt1 rfl ?_)|refine W.co ?_ fun b c a w G hle=>?_|refine W.fz 1 ?_ fun G=>?_|refine W.fz 4 ?_ fun G=>?_|refine W.lp 21 (α:=Nat) (fun j=>max l.length k.length - j) (fun j=>j ≤ max l.length k.length) [6,20,21,22,23,24,25,26,27,28,29,30,31,32,33,34,35] (fun j=>[(20,NT j)]) (fun j=>[(0,ROWS (some 3) ((plP n m l k j).map QP))]) (0) ?_ ?_ ?_ fun j hj a w G=>?_|refine W.ag (x:=j) (j+1) ?_ ?_ ?_ ?_|clear hK K|clear hu|exact True.intro|exact Nat.le_trans (by clear hp;omega) hp|exact Nat.le_trans (by clear hp;omega) hp.1|exact Nat.le_trans (by clear hp;omega) hp.2|(clear hp;omega)|apply And.intro|refine GI.i fun _=>?_|with_reducible rfl|decide|(simp only [List.length_cons,List.length_nil];omega))
  all_goals (try simp only [wide_ln,plP_len] at *)
  all_goals first
    | omega
    | (simp only [LIM];omega)
    | exact plP_0
    | (rw [plP_g (by omega)];omega)
    | exact plP_s (by omega)
    | exact (plP_e (by omega)).1
    | exact (plP_e (by omega)).2
instance {n m : Nat} {l k : List Rat} {τ1 : MT} [j1 : NU τ1 (NM n l)] {τ2 : MT} [j2 : NU τ2 (NM m k)] : Con Tryz.prog 67 [τ1,τ2] (1 ≤ n ∧ 1 ≤ m ∧ n + m + 1 ≤ BIG ∧ l.length ≤ 64 ∧ k.length ≤ 64) (NM (n + m + 1) (plusF l k)):=.o2 fun hok h1 h2 hp=>w67.c2 hok (j1.h h1) (j2.h h2) hp
theorem w121 {n m q : Nat} {l k : List Rat} : Con Tryz.prog 121 [NM n l,NM m k,NT q] (1 ≤ n ∧ 1 ≤ m ∧ n ≤ BIG ∧ m ≤ BIG ∧ 1 ≤ q ∧ q ≤ 32) (NM (max n m) (joinF l k q)):=.o3 fun hok h1 h2 h3 hp=>by
  refine St.enter (N:=14) Tryz.func121 rfl rfl rfl hok (enter3 h1 h2 h3) fun a=>?_
  have own9 : OwnAt 9:=⟨⟩
  have own12 : OwnAt 12:=⟨⟩
  have own13 : OwnAt 13:=⟨⟩
  repeat' (first|((with_reducible refine gS_ ?_);first|((with_reducible refine gL_ ?_);first|refine W.run ?_ fun a w G=>?_|refine W.mv fun a w G=>?_|refine W.asg fun a w G=>?_|(refine W.nn hK ?_;clear hK K)|refine W.nl ?_|refine W.ste ?_ fun w=>?_)|((with_reducible refine gC_ ?_);first|refine W.reg fun K hK=>?_|refine W.reg1 ?_|refine W.sq fun K hK=>?_|refine W.sk ?_|refine W.rt ?_)|((with_reducible refine W.kn hK ?_);clear hK K)|with_reducible refine W.tr ?_|with_reducible refine W.br ?_|refine W.rt1 rfl ?_)|refine W.co ?_ fun b c a w G hle=>?_|refine W.fz 12 ?_ fun G=>?_|refine W.cast (t:=12) (τ:=NM m (wideF k q)) (τ':=NM (max n m) (wideF k q)) (fun h=>NM.up h (Nat.le_max_right _ _)) ?_|refine W.casth (τ':=ROWS (some 3) ((wideF l q).map (QC (max n m)))) (fun h=>ROWS.upq (k:=some 3) (l:=wideF l q) (n:=n) (m:=max n m) h (Nat.le_max_left _ _)) ?_|refine W.ap (mt:=FX 1 default) (T:=QC (max n m)) (xs:=wideF l q) (OWNS.ofb (by assumption)) ?_ fun V own a w G hO=>?_|refine W.fzo (T:=QC (max n m)) 6 hO ?_ fun G=>?_|clear hK K|clear hu|exact True.intro|exact Nat.le_trans (by clear hp;omega) hp|exact Nat.le_trans (by clear hp;omega) hp.1|exact Nat.le_trans (by clear hp;omega) hp.2|(clear hp;omega)|apply And.intro|refine GI.i fun _=>?_|with_reducible rfl|decide|(simp only [List.length_cons,List.length_nil];omega))
  all_goals (try simp only [wide_ln,List.length_append] at *)
  all_goals first
    | omega
    | (simp only [LIM];omega)
    | rfl
instance {n m q : Nat} {l k : List Rat} {τ1 : MT} [j1 : NU τ1 (NM n l)] {τ2 : MT} [j2 : NU τ2 (NM m k)] : Con Tryz.prog 121 [τ1,τ2,NT q] (1 ≤ n ∧ 1 ≤ m ∧ n ≤ BIG ∧ m ≤ BIG ∧ 1 ≤ q ∧ q ≤ 32) (NM (max n m) (joinF l k q)):=.o3 fun hok h1 h2 h3 hp=>w121.c3 hok (j1.h h1) (j2.h h2) h3 hp
theorem take_snoc {l : List Rat} {j : Nat} (h : j < l.length) : l.take (j + 1) = l.take j ++ [l.getD j default]:=by
  rw [List.take_add_one,List.getElem?_eq_getElem h,List.getD_eq_getElem?_getD,List.getElem?_eq_getElem h];rfl
theorem w81 {n : Nat} {l : List Rat} : Con Tryz.prog 81 [NM n l] (n ≤ BIG ∧ l.length ≤ 64) (NM n l):=.o1 fun hok h1 hp=>by
  refine St.enter (N:=28) Tryz.func81 rfl rfl rfl hok (enter1 h1) fun a=>?_
  have hlim:=LS.lenM h1
  simp only [LIM] at hlim
  have own25 : OwnAt 25:=⟨⟩
  repeat' (first|((with_reducible refine gS_ ?_);first|((with_reducible refine gL_ ?_);first|refine W.run ?_ fun a w G=>?_|refine W.mv fun a w G=>?_|refine W.asg fun a w G=>?_|(refine W.nn hK ?_;clear hK K)|refine W.nl ?_|refine W.al fun b a w G=>?_|refine W.st fun w=>?_|refine W.stp fun w=>?_|refine W.ste ?_ fun w=>?_)|((with_reducible refine gC_ ?_);first|refine W.reg fun K hK=>?_|refine W.reg1 ?_|refine W.sq fun K hK=>?_|refine W.ds ?_ (fun β a w G hu=>W.fin ?_ hu) mixedOrders (by kernel_rfl)|refine W.sk ?_|refine W.cd (fun hc=>?_) (fun hc=>?_)|refine W.cb (fun hc=>?_) (fun hc=>?_)|refine W.bl ?_|refine W.ex ?_|refine W.rt ?_)|((with_reducible refine W.kn hK ?_);clear hK K)|(with_reducible first|refine W.bn ?_|refine W.xt ?_|refine W.xb ?_|refine W.xo ?_|refine W.tr ?_|refine W.br ?_)|refine W.rt1 rfl ?_)|refine W.lpo 9 (OWNS.nil (k:=some 3) (e:=57)) (T:=QC n) (xs0:=[]) (fun j=>l.length - j) (fun j=>j ≤ l.length) (fun j=>l.take j) [3,8,9] (fun j V=>[(8,NT j),(3,.ex V)]) (fun j=>[]) 0 ?_ ?_ ?_ ?_ fun j hj V own a w G hO=>?_|refine W.ds ?_ (fun β a w G hu=>W.fing ?_) mixedOrders (by kernel_rfl)|refine W.ap (mt:=FX 1 default) (T:=QC n) hO ?_ fun V own a w G hO=>?_|refine W.ago (K:=fun _ _=>True) (T:=QC n) hO (x:=j) (j+1) ?_ ?_ ?_ ?_ ?_|refine W.fzo (T:=QC n) 2 hO ?_ fun G=>?_|clear hK K|clear hu|exact True.intro|exact Nat.le_trans (by clear hp;omega) hp|exact Nat.le_trans (by clear hp;omega) hp.1|exact Nat.le_trans (by clear hp;omega) hp.2|(clear hp;omega)|apply And.intro|refine GI.i fun _=>?_|with_reducible rfl|decide|(simp only [List.length_cons,List.length_nil];omega))
  all_goals (try simp only [List.length_take,List.length_append,List.length_cons,List.length_nil,LIM] at *)
  all_goals first
    | rfl
    | omega
    | exact List.take_of_length_le (by omega)
    | exact (take_snoc (by omega)).symm
    | exact take_snoc (by omega)
instance {n : Nat} {l : List Rat} {τ1 : MT} [j1 : NU τ1 (NM n l)] : Con Tryz.prog 81 [τ1] (n ≤ BIG ∧ l.length ≤ 64) (NM n l):=.o1 fun hok h1 hp=>w81.c1 hok (j1.h h1) hp
theorem sho_g {l : List Rat} (hc : (decide (((l.length : Nat) : Int) > 0) && (decide (levI l.length < 0) || decide (levI l.length > 5))) = true) : l = shoF l:=by
  simp only [Bool.and_eq_true,Bool.or_eq_true,decide_eq_true_eq] at hc
  unfold shoF;rw [if_pos ⟨by omega,by omega⟩]
theorem sho_ng {l : List Rat} (hc : (decide (((l.length : Nat) : Int) > 0) && (decide (levI l.length < 0) || decide (levI l.length > 5))) = false) : ¬ (0 < l.length ∧ (levI l.length < 0 ∨ 5 < levI l.length)):=fun e=>by
  rw [decide_eq_true (show ((l.length : Nat) : Int) > 0 by omega),Bool.true_and,Bool.or_eq_false_iff,decide_eq_false_iff_not,decide_eq_false_iff_not] at hc
  omega
theorem sho_go {l : List Rat} {q : Nat} (hc : (decide (((q : Nat) : Int) > 1) && zeroF (List.drop (q / 2) (List.take q l))) = true) : q / 2 < q ∧ shL l q = shL l (q / 2):=by
  simp only [Bool.and_eq_true,decide_eq_true_eq] at hc
  exact ⟨by omega,shL_go (by omega) hc.2⟩
theorem sho_q {l : List Rat} {q : Nat} (hq : shL l q = shL l l.length) (hc : (decide (((q : Nat) : Int) > 1) && zeroF (List.drop (q / 2) (List.take q l))) = false) : shL l l.length = q:=by
  rw [← hq]
  refine shL_end fun e=>?_
  rw [decide_eq_true (show ((q : Nat) : Int) > 1 by omega),Bool.true_and,e.2] at hc
  cases hc
theorem sho_n {l : List Rat} {q : Nat} (h0 : (decide (((l.length : Nat) : Int) > 0) && (decide (levI l.length < 0) || decide (levI l.length > 5))) = false) (hq : shL l q = shL l l.length) (hc : (decide (((q : Nat) : Int) > 1) && zeroF (List.drop (q / 2) (List.take q l))) = false)
    (h1 : (decide (((q : Nat) : Int) = 1) && zeroF (List.take 1 l)) = true) : shoF l = []:=by
  simp only [Bool.and_eq_true,decide_eq_true_eq] at h1
  unfold shoF;rw [if_neg (sho_ng h0),sho_q hq hc,if_pos ⟨by omega,h1.2⟩]
theorem sho_t {l : List Rat} {q : Nat} (h0 : (decide (((l.length : Nat) : Int) > 0) && (decide (levI l.length < 0) || decide (levI l.length > 5))) = false) (hq : shL l q = shL l l.length) (hc : (decide (((q : Nat) : Int) > 1) && zeroF (List.drop (q / 2) (List.take q l))) = false)
    (h1 : (decide (((q : Nat) : Int) = 1) && zeroF (List.take 1 l)) = false) : List.take q l = shoF l:=by
  unfold shoF;rw [if_neg (sho_ng h0),sho_q hq hc,if_neg fun e=>by rw [decide_eq_true (show ((q : Nat) : Int) = 1 by omega),Bool.true_and,e.2] at h1;cases h1]
theorem w47 {n : Nat} {l : List Rat} : Con Tryz.prog 47 [NM n l] (n ≤ BIG ∧ l.length ≤ 64) (NM n (shoF l)):=.o1 fun hok h1 hp=>by
  refine St.enter (N:=45) Tryz.func47 rfl rfl rfl hok (enter1 h1) fun a=>?_
  have hlim:=LS.lenM h1
  simp only [LIM] at hlim
  repeat' (first|((with_reducible refine gS_ ?_);first|((with_reducible refine gL_ ?_);first|refine W.run ?_ fun a w G=>?_|refine W.mv fun a w G=>?_|refine W.asg fun a w G=>?_|(refine W.nn hK ?_;clear hK K)|refine W.nl ?_|refine W.ste ?_ fun w=>?_)|((with_reducible refine gC_ ?_);first|refine W.reg fun K hK=>?_|refine W.reg1 ?_|refine W.sq fun K hK=>?_|refine W.sk ?_|refine W.cd (fun hc=>?_) (fun hc=>?_)|refine W.cb (fun hc=>?_) (fun hc=>?_)|refine W.bl ?_|refine W.ex ?_|refine W.rt ?_)|((with_reducible refine W.kn hK ?_);clear hK K)|(with_reducible first|refine W.bn ?_|refine W.xt ?_|refine W.xb ?_|refine W.xo ?_|refine W.tr ?_|refine W.br ?_)|refine W.rt1 rfl ?_)|refine W.lp 22 (α:=Nat) (fun q=>q) (fun q=>q ≤ l.length ∧ shL l q = shL l l.length) [4,22,23,24,25,26,27,28,29,30,31,32,33] (fun q=>[(4,NT q)]) (fun q=>[]) (l.length) ?_ ?_ ?_ fun q hq a w G=>?_|refine W.ag (x:=q) (q / 2) ?_ ?_ ?_ ?_|clear hK K|clear hu|exact True.intro|exact Nat.le_trans (by clear hp;omega) hp|exact Nat.le_trans (by clear hp;omega) hp.1|exact Nat.le_trans (by clear hp;omega) hp.2|(clear hp;omega)|apply And.intro|refine GI.i fun _=>?_|with_reducible rfl|decide|(simp only [List.length_cons,List.length_nil];omega))
  all_goals first
    | omega
    | exact sho_g (by assumption)
    | exact (sho_go (by assumption)).1
    | (rw [← (sho_go (by assumption)).2];exact hq.2)
    | exact sho_n (by assumption) hq.2 (by assumption) (by assumption)
    | exact sho_t (by assumption) hq.2 (by assumption) (by assumption)
    | (rw [List.length_take];omega)
    | (have h1 : decide (((q : Nat) : Int) = 1) = true := by assumption
       simp only [decide_eq_true_eq] at h1;omega)
instance {n : Nat} {l : List Rat} {τ1 : MT} [j1 : NU τ1 (NM n l)] : Con Tryz.prog 47 [τ1] (n ≤ BIG ∧ l.length ≤ 64) (NM n (shoF l)):=.o1 fun hok h1 hp=>w47.c1 hok (j1.h h1) hp
end Go.Proofs.YtboicjlbbbodgaaGreatDoor
namespace Go.Proofs.YtboicjlbbbodgaaGreatDoor
open Go.RowKit (Below)
attribute [local irreducible] Go.Code.wp Go.wpList Go.bodyPost
attribute [local irreducible] plusF minusF joinF levI lev PW RLN
theorem PW.l32 {k : Nat} {l : List Rat} (h : PW k l) (hk : k ≤ 5) : l.length ≤ 32:=Nat.le_trans h.le (Nat.le_trans (Nat.pow_le_pow_right (by decide) hk) (by decide))
theorem nz_pos {l : List Rat} (h : zeroF l = false) : 0 < l.length:=by
  rcases Nat.eq_zero_or_pos l.length with e | e
  · rw [List.length_eq_zero_iff.1 e] at h;cases h
  · exact e
theorem PW.d0 {k : Nat} {l : List Rat} (h : PW k l) (hz : zeroF l = false) (h1 : ¬ l.length = 1) : ∃ j,j < k ∧ l.length = 2 ^ (j + 1) ∧ l.length / 2 = 2 ^ j ∧ (l.take (2 ^ j)).length = 2 ^ j ∧ (l.drop (2 ^ j)).length = 2 ^ j:=h.half (by rw [hz];decide) h1
theorem lv_facts {rs : List (List Rat)} {K : Nat} {l : List Rat} (hr : RLN rs) (hK : K ≤ rs.length) {j : Nat} (hj : j < K) (hl : l.length = 2 ^ (j + 1)) :
    0 ≤ levI l.length - 1 ∧ levI l.length - 1 < (rs.length : Int) ∧ levI l.length - 1 ≤ 9223372036854775807 - 9223372036854775700 + rs.length ∧ rs.getD (levI l.length - 1).toNat default = rs.getD (lev l.length - 1) [] ∧ rs.getD (lev l.length - 1) [] = rs.getD j []:=by
  rw [hl,levI_pow,lev_pow]
  have e : (((j + 1 : Nat) : Int) - 1).toNat = j:=by omega
  rw [e]
  exact ⟨by omega,by omega,by omega,rfl,rfl⟩
theorem PW.rt {rs : List (List Rat)} (hr : RLN rs) {j k : Nat} (hj : j < rs.length) (hk : j ≤ k) : PW k (rs.getD j []):=(PW.pow (hr.at hj)).mono hk
theorem tm_facts {kk : Nat} {rs : List (List Rat)} {l k : List Rat} (p1 : kk ≤ rs.length) (p2 : rs.length ≤ 5) (p3 : RLN rs) (p4 : PW kk l) (p5 : PW kk k) (hz : (zeroF l || zeroF k) = false) (h1 : ¬ ((l.length : Nat) : Int) = 1) (hle : k.length ≤ l.length) :
    kk ≠ 0 ∧ PW (kk - 1) (l.take (l.length / 2)) ∧ PW (kk - 1) (l.drop (l.length / 2)) ∧ (1 ≤ l.length / 2 ∧ l.length / 2 ≤ 16) ∧ (0 ≤ levI l.length - 1 ∧ levI l.length - 1 < (rs.length : Int)) ∧ (rs.getD (levI l.length - 1).toNat default = rs.getD (lev l.length - 1) [] ∧ PW (kk - 1) (rs.getD (levI l.length - 1).toNat default)) ∧
    (k.length ≤ l.length / 2 → PW (kk - 1) k) ∧ (¬ k.length ≤ l.length / 2 → PW (kk - 1) (k.take (l.length / 2)) ∧ PW (kk - 1) (k.drop (l.length / 2)) ∧ l.length / 2 ≤ k.length):=by
  rw [Bool.or_eq_false_iff] at hz
  obtain ⟨j,hj,hl,hh,hx,hy⟩:=p4.d0 hz.1 (by omega)
  obtain ⟨e1,e2,_,e3,e4⟩:=lv_facts p3 p1 hj hl
  have hp:=Nat.two_pow_pos j
  have h16 : 2 ^ j ≤ 2 ^ 4:=Nat.pow_le_pow_right (by decide) (by omega)
  have e5 : 2 ^ (j + 1) = 2 ^ j + 2 ^ j:=by rw [Nat.pow_succ];omega
  rw [hh,e3,e4]
  refine ⟨by omega,(PW.pow hx).mono (by omega),(PW.pow hy).mono (by omega),⟨by omega,by omega⟩,⟨e1,e2⟩,⟨e4.symm ▸ rfl,PW.rt p3 (by omega) (by omega)⟩,fun hb=>?_,fun hb=>?_⟩
  · obtain ⟨i,rfl⟩ : ∃ i,kk = i + 1:=⟨kk - 1,by omega⟩
    exact p5.low (Nat.le_trans hb (Nat.pow_le_pow_right (by decide) (by omega)))
  · have hk2:=p5.pos hb (by omega)
    exact ⟨(PW.pow (k:=j) (by rw [List.length_take];omega)).mono (by omega),(PW.pow (k:=j) (by rw [List.length_drop];omega)).mono (by omega),by omega⟩
theorem tB_facts {kk N r : Nat} (h : kk ≠ 0) : tB kk N r = tB (kk - 1) N r + tB (kk - 1) (tB (kk - 1) N r + r) r + 1 ∧ N ≤ tB (kk - 1) N r ∧ tB (kk - 1) N r + r ≤ tB (kk - 1) (tB (kk - 1) N r + r) r:=by
  obtain ⟨i,rfl⟩ : ∃ i,kk = i + 1:=⟨kk - 1,by omega⟩
  exact ⟨rfl,tB_le,tB_le⟩
section
variable {rs : List (List Rat)} {q : List Rat → List Rat → List Rat} {l k : List Rat}
theorem tm_ns {kk : Nat} (h : ¬ ((l.length : Nat) : Int) < k.length) : timesF rs (kk + 1) l k = stepF rs (timesF rs kk) l k:=by show (if _ then _ else _) = _;rw [if_neg (by omega)]
theorem tm_sw {kk : Nat} (h : ((l.length : Nat) : Int) < k.length) : timesF rs (kk + 1) l k = stepF rs (timesF rs kk) k l:=by show (if _ then _ else _) = _;rw [if_pos (by omega)]
theorem st_1 (h : (zeroF l || zeroF k) = true) : stepF rs q l k = []:=by unfold stepF;rw [if_pos h]
theorem st_2 (h : (zeroF l || zeroF k) = false) (h1 : ((l.length : Nat) : Int) = 1) : stepF rs q l k = [l.getD 0 default * k.getD 0 default]:=by unfold stepF;rw [if_neg (by rw [h];decide),if_pos (by omega)];rfl
theorem st_3 (h : (zeroF l || zeroF k) = false) (h1 : ¬ ((l.length : Nat) : Int) = 1) (h2 : ((k.length : Nat) : Int) ≤ ((l.length / 2 : Nat) : Int)) : stepF rs q l k = joinF (q (l.take (l.length / 2)) k) (q (l.drop (l.length / 2)) k) (l.length / 2):=by
  unfold stepF;rw [if_neg (by rw [h];decide),if_neg (by omega),if_pos (by omega)]
theorem st_4 (h : (zeroF l || zeroF k) = false) (h1 : ¬ ((l.length : Nat) : Int) = 1) (h2 : ¬ ((k.length : Nat) : Int) ≤ ((l.length / 2 : Nat) : Int)) (h3 : rs.getD (levI l.length - 1).toNat default = rs.getD (lev l.length - 1) []) :
    stepF rs q l k = joinF (plusF (q (l.take (l.length / 2)) (k.take (l.length / 2))) (q (q (l.drop (l.length / 2)) (k.drop (l.length / 2))) (rs.getD (levI l.length - 1).toNat default))) (plusF (q (l.take (l.length / 2)) (k.drop (l.length / 2))) (q (l.drop (l.length / 2)) (k.take (l.length / 2)))) (l.length / 2):=by
  rw [h3];unfold stepF;rw [if_neg (by rw [h];decide),if_neg (by omega),if_neg (by omega)]
end
theorem tmStep {kk : Nat} (ih : ∀ {n m r : Nat} {rs : List (List Rat)} {l k : List Rat},Con Tryz.prog 66 [TWR r rs,NM n l,NM m k] (kk ≠ 0 ∧ (kk - 1) ≤ rs.length ∧ rs.length ≤ 5 ∧ RLN rs ∧ PW (kk - 1) l ∧ PW (kk - 1) k ∧ 1 ≤ n ∧ 1 ≤ m ∧ 1 ≤ r ∧ tB (kk - 1) (n + m) r ≤ BIG) (NM (tB (kk - 1) (n + m) r) (timesF rs kk l k))) {n m r : Nat} {rs : List (List Rat)} {l k : List Rat} : Con Tryz.prog 66 [TWR r rs,NM n l,NM m k] (kk ≤ rs.length ∧ rs.length ≤ 5 ∧ RLN rs ∧ PW kk l ∧ PW kk k ∧ 1 ≤ n ∧ 1 ≤ m ∧ 1 ≤ r ∧ tB kk (n + m) r ≤ BIG) (NM (tB kk (n + m) r) (timesF rs (kk + 1) l k)):=.o3 fun hok h1 h2 h3 hp=>by
  refine St.enter (N:=100) Tryz.func66 rfl rfl rfl hok (enter3 h1 h2 h3) fun a=>?_
  repeat' (first|((with_reducible refine gS_ ?_);first|((with_reducible refine gL_ ?_);first|refine W.run ?_ fun a w G=>?_|refine W.mv fun a w G=>?_|refine W.asg fun a w G=>?_|refine W.bx fun b a w G=>?_|(refine W.nn hK ?_;clear hK K)|refine W.nl ?_|refine W.ste ?_ fun w=>?_)|((with_reducible refine gC_ ?_);first|refine W.reg fun K hK=>?_|refine W.reg1 ?_|refine W.sq fun K hK=>?_|refine W.ds ?_ (fun β a w G hu=>W.fin ?_ hu) mixedOrders (by kernel_rfl)|refine W.sk ?_|refine W.cd (fun hc=>?_) (fun hc=>?_)|refine W.cb (fun hc=>?_) (fun hc=>?_)|refine W.bl ?_|refine W.ex ?_|refine W.rt ?_)|((with_reducible refine W.kn hK ?_);clear hK K)|(with_reducible first|refine W.bn ?_|refine W.xt ?_|refine W.xb ?_|refine W.xo ?_|refine W.tr ?_|refine W.br ?_)|refine W.rt1 rfl ?_)|clear hK K|clear hu|exact True.intro|exact Nat.le_trans (by clear hp;omega) hp|exact Nat.le_trans (by clear hp;omega) hp.1|exact Nat.le_trans (by clear hp;omega) hp.2|(clear hp;omega)|apply And.intro|refine GI.i fun _=>?_|with_reducible rfl|decide|(simp only [List.length_cons,List.length_nil];omega))
  all_goals obtain ⟨p1,p2,p3,p4,p5,p6,p7,p8,p9⟩:=hp
  all_goals have hN:=tB_le (r:=r) (k:=kk) (n:=n + m)
  all_goals first
    | omega
    | (have hls : ¬ ((l.length : Nat) : Int) < k.length := by assumption
       first
       | (have hz : (zeroF l || zeroF k) = true := by assumption
          rw [tm_ns (by assumption)];exact st_1 hz)
       | (have hz : (zeroF l || zeroF k) = false := by assumption
          have hz2:=hz
          rw [Bool.or_eq_false_iff] at hz2
          have z1:=nz_pos hz2.1
          have z2:=nz_pos hz2.2
          first
          | exact z1
          | exact z2
          | (have h1 : ((l.length : Nat) : Int) = 1 := by assumption
             first
             | omega
             | (rw [tm_ns (by assumption)];exact (st_2 hz h1).symm))
          | (have h1 : ¬ ((l.length : Nat) : Int) = 1 := by assumption
             have hle : k.length ≤ l.length:=by omega
             obtain ⟨f1,f2,f3,f4,f5,f6,f7,f8⟩:=tm_facts p1 p2 p3 p4 p5 hz h1 hle
             obtain ⟨g1,g2,g3⟩:=tB_facts (N:=n + m) (r:=r) f1
             have hkk : kk - 1 < kk:=by omega
             have hk5 : kk - 1 ≤ 5:=by omega
             have hkr : kk - 1 ≤ rs.length:=by omega
             first
             | omega
             | assumption
             | exact f6.2
             | (have hs : ((k.length : Nat) : Int) ≤ ((l.length / 2 : Nat) : Int) := by assumption
                have f7:=f7 (by omega)
                first
                | assumption
                | (rw [tm_ns (by assumption)];exact (st_3 hz h1 hs).symm))
             | (have hs : ¬ ((k.length : Nat) : Int) ≤ ((l.length / 2 : Nat) : Int) := by assumption
                obtain ⟨u1,u2,u3⟩:=f8 (by omega)
                have w1:=PW.tmn (m:=kk) p3 hkr hkk f2 u1
                have w2:=PW.tmn (m:=kk) p3 hkr hkk f3 u2
                have w3:=PW.tmn (m:=kk) p3 hkr hkk w2 f6.2
                have w4:=PW.tmn (m:=kk) p3 hkr hkk f2 u2
                have w5:=PW.tmn (m:=kk) p3 hkr hkk f3 u1
                have v1:=w1.l32 hk5
                have v3:=w3.l32 hk5
                have v4:=w4.l32 hk5
                have v5:=w5.l32 hk5
                first
                | omega
                | assumption
                | (rw [tm_ns (by assumption)];exact (st_4 hz h1 hs f6.1).symm))
             | (have hl32:=PW.l32 p4 (by omega);omega))))
    | (have hls : ((l.length : Nat) : Int) < k.length := by assumption
       (try simp only [Nat.add_comm n m] at *)
       first
       | (have hz : (zeroF k || zeroF l) = true := by assumption
          rw [tm_sw (by assumption)];exact st_1 hz)
       | (have hz : (zeroF k || zeroF l) = false := by assumption
          have hz2:=hz
          rw [Bool.or_eq_false_iff] at hz2
          have z1:=nz_pos hz2.1
          have z2:=nz_pos hz2.2
          first
          | exact z1
          | exact z2
          | (have h1 : ((k.length : Nat) : Int) = 1 := by assumption
             first
             | omega
             | (rw [tm_sw (by assumption)];exact (st_2 hz h1).symm))
          | (have h1 : ¬ ((k.length : Nat) : Int) = 1 := by assumption
             have hle : l.length ≤ k.length:=by omega
             obtain ⟨f1,f2,f3,f4,f5,f6,f7,f8⟩:=tm_facts p1 p2 p3 p5 p4 hz h1 hle
             obtain ⟨g1,g2,g3⟩:=tB_facts (N:=m + n) (r:=r) f1
             have hkk : kk - 1 < kk:=by omega
             have hk5 : kk - 1 ≤ 5:=by omega
             have hkr : kk - 1 ≤ rs.length:=by omega
             first
             | omega
             | assumption
             | exact f6.2
             | (have hs : ((l.length : Nat) : Int) ≤ ((k.length / 2 : Nat) : Int) := by assumption
                have f7:=f7 (by omega)
                first
                | assumption
                | (rw [tm_sw (by assumption)];exact (st_3 hz h1 hs).symm))
             | (have hs : ¬ ((l.length : Nat) : Int) ≤ ((k.length / 2 : Nat) : Int) := by assumption
                obtain ⟨u1,u2,u3⟩:=f8 (by omega)
                have w1:=PW.tmn (m:=kk) p3 hkr hkk f2 u1
                have w2:=PW.tmn (m:=kk) p3 hkr hkk f3 u2
                have w3:=PW.tmn (m:=kk) p3 hkr hkk w2 f6.2
                have w4:=PW.tmn (m:=kk) p3 hkr hkk f2 u2
                have w5:=PW.tmn (m:=kk) p3 hkr hkk f3 u1
                have v1:=w1.l32 hk5
                have v3:=w3.l32 hk5
                have v4:=w4.l32 hk5
                have v5:=w5.l32 hk5
                first
                | omega
                | assumption
                | (rw [tm_sw (by assumption)];exact (st_4 hz h1 hs f6.1).symm))
             | (have hl32:=PW.l32 p5 (by omega);omega))))
    | skip
theorem tmK : ∀ (kk : Nat) {n m r : Nat} {rs : List (List Rat)} {l k : List Rat},Con Tryz.prog 66 [TWR r rs,NM n l,NM m k] (kk ≤ rs.length ∧ rs.length ≤ 5 ∧ RLN rs ∧ PW kk l ∧ PW kk k ∧ 1 ≤ n ∧ 1 ≤ m ∧ 1 ≤ r ∧ tB kk (n + m) r ≤ BIG) (NM (tB kk (n + m) r) (timesF rs (kk + 1) l k)):=fun kk=>by
  induction kk with
  | zero=>exact tmStep (kk:=0) ⟨fun _ _ hp=>absurd rfl hp.1⟩
  | succ kk ih=>exact tmStep (kk:=kk + 1) ⟨fun hok ha hp=>ih.h hok ha hp.2⟩
def lvM (l k : List Rat) : Nat:=lev (max l.length k.length)
instance {n m r : Nat} {rs : List (List Rat)} {l k : List Rat} {τ1 : MT} [j1 : NU τ1 (TWR r rs)] {τ2 : MT} [j2 : NU τ2 (NM n l)] {τ3 : MT} [j3 : NU τ3 (NM m k)] : Con Tryz.prog 66 [τ1,τ2,τ3] (lvM l k ≤ rs.length ∧ rs.length ≤ 5 ∧ RLN rs ∧ PW (lvM l k) l ∧ PW (lvM l k) k ∧ 1 ≤ n ∧ 1 ≤ m ∧ 1 ≤ r ∧ tB (lvM l k) (n + m) r ≤ BIG) (NM (tB (lvM l k) (n + m) r) (tmF rs l k)):=.o3 fun hok h1 h2 h3 hp=>by
  have e : tmF rs l k = timesF rs (lvM l k + 1) l k:=times_fuel hp.2.2.1 (lvM l k) hp.1 _ _ (by have:=hp.1;omega) (by omega) l k hp.2.2.2.1 hp.2.2.2.2.1
  rw [e];exact (tmK (lvM l k)).c3 hok (j1.h h1) (j2.h h2) (j3.h h3) hp
end Go.Proofs.YtboicjlbbbodgaaGreatDoor
namespace Go.Proofs.YtboicjlbbbodgaaGreatDoor
open Go.RowKit (Below)
attribute [local irreducible] Go.Code.wp Go.wpList Go.bodyPost
attribute [local irreducible] plusF minusF joinF levI lev PW RLN tB sB timesF stepF tmF normF shoF TOK
theorem lvM_eq {l k : List Rat} {j : Nat} (hl : l.length = 2 ^ j) (hk : k.length = 2 ^ j) : lvM l k = j:=by unfold lvM;rw [hl,hk,Nat.max_self,lev_pow]
theorem lvM_r {l k : List Rat} {j : Nat} (hl : l.length ≤ 2 ^ j) (hk : k.length = 2 ^ j) : lvM l k = j:=by unfold lvM;rw [hk,Nat.max_eq_right hl,lev_pow]
theorem nm_facts {rs : List (List Rat)} {l : List Rat} {j : Nat} (p2 : rs.length ≤ 5) (p3 : RLN rs) (hj : j < rs.length) (hl : l.length = 2 ^ (j + 1)) :
    l.length / 2 = 2 ^ j ∧ (2 ^ j ≤ 16 ∧ 1 ≤ 2 ^ j ∧ 2 ^ (j + 1) = 2 ^ j + 2 ^ j) ∧ lvM (l.take (l.length / 2)) (l.take (l.length / 2)) = j ∧ lvM (l.drop (l.length / 2)) (l.drop (l.length / 2)) = j ∧ lvM (tmF rs (l.drop (l.length / 2)) (l.drop (l.length / 2))) (rs.getD (levI l.length - 1).toNat default) = j ∧
    PW j (l.take (l.length / 2)) ∧ PW j (l.drop (l.length / 2)) ∧ PW j (tmF rs (l.drop (l.length / 2)) (l.drop (l.length / 2))) ∧ PW j (rs.getD (levI l.length - 1).toNat default) ∧ (0 ≤ levI l.length - 1 ∧ levI l.length - 1 < (rs.length : Int)) ∧ rs.getD (levI l.length - 1).toNat default = rs.getD (lev l.length - 1) [] ∧ rs.getD (lev l.length - 1) [] = rs.getD j []:=by
  obtain ⟨e1,e2,_,e3,e4⟩:=lv_facts p3 (Nat.le_refl _) hj hl
  have hp:=Nat.two_pow_pos j
  have h16 : 2 ^ j ≤ 2 ^ 4:=Nat.pow_le_pow_right (by decide) (by omega)
  have e5 : 2 ^ (j + 1) = 2 ^ j + 2 ^ j:=by rw [Nat.pow_succ];omega
  have hh : l.length / 2 = 2 ^ j:=by omega
  have hx : (l.take (2 ^ j)).length = 2 ^ j:=by rw [List.length_take];omega
  have hy : (l.drop (2 ^ j)).length = 2 ^ j:=by rw [List.length_drop];omega
  have hd:=PW.rt p3 hj (Nat.le_refl j)
  have hyy:=PW.tm p3 (by omega : j ≤ rs.length) (PW.pow hy) (PW.pow hy)
  rw [hh,e3,e4]
  exact ⟨rfl,⟨h16,hp,e5⟩,lvM_eq hx hx,lvM_eq hy hy,lvM_r hyy.le (p3.at hj),PW.pow hx,PW.pow hy,hyy,hd,⟨e1,e2⟩,e4.symm ▸ rfl,rfl⟩
theorem w85 {n r : Nat} {rs : List (List Rat)} {l : List Rat} : Con Tryz.prog 85 [TWR r rs,NM n l] (l.length = 2 ^ (lev l.length - 1 + 1) ∧ lev l.length - 1 < rs.length ∧ rs.length ≤ 5 ∧ RLN rs ∧ 1 ≤ n ∧ 1 ≤ r ∧ tB (lev l.length - 1 + 1) (n + n) r ≤ BIG) (NM (tB (lev l.length - 1 + 1) (n + n) r) (normF rs l)):=.o2 fun hok h1 h2 hp=>by
  refine St.enter (N:=36) Tryz.func85 rfl rfl rfl hok (enter2 h1 h2) fun a=>?_
  repeat' (first|((with_reducible refine gS_ ?_);first|((with_reducible refine gL_ ?_);first|refine W.run ?_ fun a w G=>?_|refine W.mv fun a w G=>?_|refine W.asg fun a w G=>?_|refine W.bx fun b a w G=>?_|(refine W.nn hK ?_;clear hK K)|refine W.nl ?_|refine W.ste ?_ fun w=>?_)|((with_reducible refine gC_ ?_);first|refine W.reg fun K hK=>?_|refine W.reg1 ?_|refine W.sq fun K hK=>?_|refine W.ds ?_ (fun β a w G hu=>W.fin ?_ hu) mixedOrders (by kernel_rfl)|refine W.sk ?_|refine W.rt ?_)|((with_reducible refine W.kn hK ?_);clear hK K)|with_reducible refine W.tr ?_|with_reducible refine W.br ?_|refine W.rt1 rfl ?_)|clear hK K|clear hu|exact True.intro|exact Nat.le_trans (by clear hp;omega) hp|exact Nat.le_trans (by clear hp;omega) hp.1|exact Nat.le_trans (by clear hp;omega) hp.2|(clear hp;omega)|apply And.intro|refine GI.i fun _=>?_|with_reducible rfl|decide|(simp only [List.length_cons,List.length_nil];omega))
  all_goals obtain ⟨p1,p2,p3,p4,p5,p6,p7⟩:=hp
  all_goals obtain ⟨f1,⟨f2,f3,f3'⟩,f4,f5,f6,f7,f8,f9,f10,f11,f12,f13⟩:=nm_facts p3 p4 p2 p1
  all_goals have hb : tB (lev l.length - 1 + 1) (n + n) r = tB (lev l.length - 1) (n + n) r + tB (lev l.length - 1) (tB (lev l.length - 1) (n + n) r + r) r + 1:=tB_facts (kk:=lev l.length - 1 + 1) (Nat.succ_ne_zero _) |>.1
  all_goals have hb2:=tB_le (r:=r) (k:=lev l.length - 1) (n:=n + n)
  all_goals have hb3:=tB_le (r:=r) (k:=lev l.length - 1) (n:=tB (lev l.length - 1) (n + n) r + r)
  all_goals have q1:=(PW.tm p4 (by omega) f7 f7).l32 (by omega)
  all_goals have q2:=(PW.tm p4 (by omega) f9 f10).l32 (by omega)
  all_goals have q3:=(PW.tm p4 (by omega) f9 f10).minus.l32 (by omega)
  all_goals (try simp only [f4,f5,f6])
  all_goals first
    | omega
    | assumption
    | (show _ = normF rs l;unfold normF;rw [f12])
    | skip
instance {n r : Nat} {rs : List (List Rat)} {l : List Rat} {τ1 : MT} [j1 : NU τ1 (TWR r rs)] {τ2 : MT} [j2 : NU τ2 (NM n l)] : Con Tryz.prog 85 [τ1,τ2] (l.length = 2 ^ (lev l.length - 1 + 1) ∧ lev l.length - 1 < rs.length ∧ rs.length ≤ 5 ∧ RLN rs ∧ 1 ≤ n ∧ 1 ≤ r ∧ tB (lev l.length - 1 + 1) (n + n) r ≤ BIG) (NM (tB (lev l.length - 1 + 1) (n + n) r) (normF rs l)):=.o2 fun hok h1 h2 hp=>w85.c2 hok (j1.h h1) (j2.h h2) hp
end Go.Proofs.YtboicjlbbbodgaaGreatDoor
namespace Go.Proofs.YtboicjlbbbodgaaGreatDoor
open Go.RowKit (Below)
attribute [local irreducible] Go.Code.wp Go.wpList Go.bodyPost
theorem sB_s {k n r : Nat} : sB (k + 1) n r = sB k (tB (k + 1) (n + n) r) r:=rfl
attribute [local irreducible] plusF minusF joinF levI lev PW RLN tB sB timesF stepF tmF normF shoF TOK
theorem TOK.rl {rs : List (List Rat)} (h : TOK rs) : RLN rs ∧ rs.length ≤ 5:=by unfold TOK at h;exact ⟨h.2.1,h.1⟩
theorem sg_facts {kk n r : Nat} {rs : List (List Rat)} {l : List Rat} (p1 : kk ≤ rs.length) (p2 : TOK rs) (p3 : PW kk l) (p4 : 1 ≤ n) (p5 : 1 ≤ r) (p6 : sB kk (n + r) r ≤ BIG) (h0 : ¬ (((shoF l).length : Nat) : Int) = 0) (h1 : ¬ (((shoF l).length : Nat) : Int) = 1) :
    kk ≠ 0 ∧ ∃ j,j + 1 ≤ kk ∧ (shoF l).length = 2 ^ (j + 1) ∧ lev (shoF l).length - 1 = j ∧ PW (kk - 1) ((shoF l).take ((shoF l).length / 2)) ∧ PW (kk - 1) ((shoF l).drop ((shoF l).length / 2)) ∧ ((shoF l).length / 2 ≤ (shoF l).length ∧ (shoF l).length ≤ 32) ∧ (0 ≤ levI (shoF l).length - 1 ∧ levI (shoF l).length - 1 < (rs.length : Int)) ∧
    rs.getD (levI (shoF l).length - 1).toNat default = rs.getD j [] ∧ PW (kk - 1) (rs.getD j []) ∧ PW (kk - 1) (normF rs (shoF l)) ∧ tB (j + 1) (n + n) r ≤ BIG ∧ sB (kk - 1) (n + r) r ≤ BIG ∧ sB (kk - 1) (r + r) r ≤ BIG ∧ sB (kk - 1) (tB (j + 1) (n + n) r + r) r ≤ BIG ∧ 1 ≤ tB (j + 1) (n + n) r:=by
  obtain ⟨p7,p8⟩:=p2.rl
  obtain ⟨s1,s2,s3,s4⟩:=sho_ok (by omega) p3
  have hj : ∃ j,j < kk ∧ (shoF l).length = 2 ^ (j + 1):=by
    unfold PW at s2
    rcases s2 with h | ⟨i,hi,h⟩
    · omega
    · cases i with
      | zero=>simp at h;omega
      | succ j=>exact ⟨j,by omega,h⟩
  obtain ⟨j,hj,hl⟩:=hj
  obtain ⟨f1,⟨f2,f3,f3'⟩,f4,f5,f6,f7,f8,f9,f10,f11,f12,f13⟩:=nm_facts p8 p7 (by omega : j < rs.length) hl
  have hn:=norm_ok p7 (by omega : j < rs.length) hl
  obtain ⟨i,rfl⟩ : ∃ i,kk = i + 1:=⟨kk - 1,by omega⟩
  have hs : sB (i + 1) (n + r) r = sB i (tB (i + 1) (n + r + (n + r)) r) r:=sB_s
  have hle : tB (j + 1) (n + n) r + r ≤ tB (i + 1) (n + r + (n + r)) r:=by
    have h1:=tB_up (r:=r) (n:=n + n) (show j + 1 ≤ i + 1 by omega)
    have h2:=tB_add (r:=r) (k:=i + 1) (n:=n + n) (m:=r + r)
    rw [show n + n + (r + r) = n + r + (n + r) by omega] at h2
    omega
  have hbig:=tB_le (r:=r) (k:=i + 1) (n:=n + r + (n + r))
  have hS:=sB_le (r:=r) (k:=i) (n:=tB (i + 1) (n + r + (n + r)) r)
  have m1:=sB_mono (r:=r) (k:=i) hle
  have m2:=sB_mono (r:=r) (k:=i) (n:=n + r) (m:=tB (i + 1) (n + r + (n + r)) r) (by omega)
  have m3:=sB_mono (r:=r) (k:=i) (n:=r + r) (m:=tB (i + 1) (n + r + (n + r)) r) (by omega)
  have hb1:=tB_le (r:=r) (k:=j + 1) (n:=n + n)
  rw [Nat.add_sub_cancel]
  exact ⟨Nat.succ_ne_zero _,j,hj,hl,by rw [hl,lev_pow];rfl,f7.mono (by omega),f8.mono (by omega),⟨by omega,by omega⟩,f11,f12.trans f13,PW.rt p7 (by omega) (by omega),hn.2.mono (by omega),by omega,by omega,by omega,by omega,by omega⟩
theorem sg_short {kk : Nat} {rs : List (List Rat)} {l : List Rat} (p1 : kk ≤ rs.length) (p2 : TOK rs) (p3 : PW kk l) : sgL rs l = sgL rs (shoF l):=(sgL_short (by have:=p2.rl.2;omega) p3).symm
theorem sgStep {kk : Nat} (ih : ∀ {n r : Nat} {rs : List (List Rat)} {l : List Rat},Con Tryz.prog 69 [TWR r rs,NM n l] (kk ≠ 0 ∧ (kk - 1) ≤ rs.length ∧ TOK rs ∧ PW (kk - 1) l ∧ 1 ≤ n ∧ 1 ≤ r ∧ sB (kk - 1) (n + r) r ≤ BIG) (IT (sgL rs l))) {n r : Nat} {rs : List (List Rat)} {l : List Rat} : Con Tryz.prog 69 [TWR r rs,NM n l] (kk ≤ rs.length ∧ TOK rs ∧ PW kk l ∧ 1 ≤ n ∧ 1 ≤ r ∧ sB kk (n + r) r ≤ BIG) (IT (sgL rs l)):=.o2 fun hok h1 h2 hp=>by
  refine St.enter (N:=64) Tryz.func69 rfl rfl rfl hok (enter2 h1 h2) fun a=>?_
  repeat' (first|((with_reducible refine gS_ ?_);first|((with_reducible refine gL_ ?_);first|refine W.run ?_ fun a w G=>?_|refine W.mv fun a w G=>?_|refine W.asg fun a w G=>?_|refine W.bx fun b a w G=>?_|(refine W.nn hK ?_;clear hK K)|refine W.nl ?_|refine W.ste ?_ fun w=>?_)|((with_reducible refine gC_ ?_);first|refine W.reg fun K hK=>?_|refine W.reg1 ?_|refine W.sq fun K hK=>?_|refine W.ds ?_ (fun β a w G hu=>W.fin ?_ hu) mixedOrders (by kernel_rfl)|refine W.sk ?_|refine W.cd (fun hc=>?_) (fun hc=>?_)|refine W.cb (fun hc=>?_) (fun hc=>?_)|refine W.bl ?_|refine W.ex ?_|refine W.rt ?_)|((with_reducible refine W.kn hK ?_);clear hK K)|(with_reducible first|refine W.bn ?_|refine W.xt ?_|refine W.xb ?_|refine W.xo ?_|refine W.tr ?_|refine W.br ?_)|refine W.rt1 rfl ?_)|clear hK K|clear hu|exact True.intro|exact Nat.le_trans (by clear hp;omega) hp|exact Nat.le_trans (by clear hp;omega) hp.1|exact Nat.le_trans (by clear hp;omega) hp.2|(clear hp;omega)|apply And.intro|refine GI.i fun _=>?_|with_reducible rfl|decide|(simp only [List.length_cons,List.length_nil];omega))
  all_goals obtain ⟨p1,p2,p3,p4,p5,p6⟩:=hp
  all_goals have hn:=sB_le (r:=r) (k:=kk) (n:=n + r)
  all_goals have hl32:=p3.l32 (by have:=p2.rl.2;omega)
  all_goals have e0:=sg_short p1 p2 p3
  all_goals have hsl : (shoF l).length ≤ l.length:=(sho_ok (by have:=p2.rl.2;omega) p3).2.2.2
  all_goals first
    | omega
    | (have h0 : (((shoF l).length : Nat) : Int) = 0 := by assumption
       rw [e0,List.length_eq_zero_iff.1 (show (shoF l).length = 0 by omega),sgL_nil])
    | (have h1 : (((shoF l).length : Nat) : Int) = 1 := by assumption
       rw [e0,sgL_one (by omega)];rfl)
    | (obtain ⟨g1, j, g2, g3, g4, g5, g6, ⟨g7, g7'⟩, g8, g9, g10, g11, g12, g13, g14, g15, g16⟩ := sg_facts p1 p2 p3 p4 p5 p6 (by assumption) (by assumption)
       have g17:=p2.rl
       have g18:=sgL_step p2 (by omega : j < rs.length) g3
       have g19:=sgL_mul_bd rs ((shoF l).take ((shoF l).length / 2)) (normF rs (shoF l))
       (try simp only [g9] at *)
       (try rw [g4])
       first
       | omega
       | assumption
       | exact g17.1
       | exact g19.1
       | exact g19.2
       | (rw [e0,g18];simp only [Bool.or_eq_true,Bool.or_eq_false_iff,decide_eq_true_eq,decide_eq_false_iff_not] at *;grind)
       | skip)
    | skip
theorem sgK : ∀ (kk : Nat) {n r : Nat} {rs : List (List Rat)} {l : List Rat},Con Tryz.prog 69 [TWR r rs,NM n l] (kk ≤ rs.length ∧ TOK rs ∧ PW kk l ∧ 1 ≤ n ∧ 1 ≤ r ∧ sB kk (n + r) r ≤ BIG) (IT (sgL rs l)):=fun kk=>by
  induction kk with
  | zero=>exact sgStep (kk:=0) ⟨fun _ _ hp=>absurd rfl hp.1⟩
  | succ kk ih=>exact sgStep (kk:=kk + 1) ⟨fun hok ha hp=>ih.h hok ha hp.2⟩
instance {n r : Nat} {rs : List (List Rat)} {l : List Rat} {τ1 : MT} [j1 : NU τ1 (TWR r rs)] {τ2 : MT} [j2 : NU τ2 (NM n l)] : Con Tryz.prog 69 [τ1,τ2] (TOK rs ∧ PW rs.length l ∧ 1 ≤ n ∧ 1 ≤ r ∧ sB rs.length (n + r) r ≤ BIG) (IT (sgL rs l)):=.o2 fun hok h1 h2 hp=>(sgK rs.length).c2 hok (j1.h h1) (j2.h h2) ⟨Nat.le_refl _,hp.1,hp.2.1,hp.2.2.1,hp.2.2.2.1,hp.2.2.2.2⟩
theorem num_f {K : Nat} {l : List Rat} {z : Int} (h : PW K l) (hz : z = K) (hl : 0 < l.length) (hc : (decide (levI l.length < 0) || decide (levI l.length > z)) = true) : False:=by
  have key : ∃ j : Nat,j ≤ K ∧ levI l.length = j:=by
    unfold PW at h
    rcases h with h | ⟨j,hj,h⟩
    · omega
    · exact ⟨j,hj,by rw [h,levI_pow]⟩
  obtain ⟨j,hj,e⟩:=key
  rw [e] at hc
  simp only [Bool.or_eq_true,decide_eq_true_eq] at hc
  omega
theorem w87 {n r : Nat} {rs : List (List Rat)} {l : List Rat} : Con Tryz.prog 87 [TWR r rs,NM n l] (n ≤ BIG ∧ rs.length ≤ 5 ∧ PW rs.length l) (.ex (errV 41 (0))):=.o2 fun hok h1 h2 hp=>by
  refine St.enter (N:=34) Tryz.func87 rfl rfl rfl hok (enter2 h1 h2) fun a=>?_
  have hl32:=hp.2.2.l32 hp.2.1
  repeat' (first|((with_reducible refine gS_ ?_);first|((with_reducible refine gL_ ?_);first|refine W.run ?_ fun a w G=>?_|refine W.mv fun a w G=>?_|refine W.asg fun a w G=>?_|refine W.bx fun b a w G=>?_|(refine W.nn hK ?_;clear hK K)|refine W.nl ?_|refine W.al fun b a w G=>?_|refine W.st fun w=>?_|refine W.stp fun w=>?_|refine W.ste ?_ fun w=>?_)|((with_reducible refine gC_ ?_);first|refine W.reg fun K hK=>?_|refine W.reg1 ?_|refine W.sq fun K hK=>?_|refine W.sk ?_|refine W.cd (fun hc=>?_) (fun hc=>?_)|refine W.cb (fun hc=>?_) (fun hc=>?_)|refine W.bl ?_|refine W.ex ?_|refine W.rt ?_)|((with_reducible refine W.kn hK ?_);clear hK K)|(with_reducible first|refine W.bn ?_|refine W.xt ?_|refine W.xb ?_|refine W.xo ?_|refine W.tr ?_|refine W.br ?_)|refine W.rt1 rfl ?_)|refine W.lp 26 (α:=Nat) (fun j=>l.length - j) (fun j=>j ≤ l.length) [4,7,25,26,27,28,29,30,31,32,33] (fun j=>[(25,NT j)]) (fun j=>[]) (0) ?_ ?_ ?_ fun j hj a w G=>?_|refine W.ag (x:=j) (j+1) ?_ ?_ ?_ ?_|clear hK K|clear hu|exact True.intro|exact Nat.le_trans (by clear hp;omega) hp|exact Nat.le_trans (by clear hp;omega) hp.1|exact Nat.le_trans (by clear hp;omega) hp.2|(clear hp;omega)|apply And.intro|refine GI.i fun _=>?_|with_reducible rfl|decide|(simp only [List.length_cons,List.length_nil];omega))
  all_goals first
    | omega
    | (exfalso;exact num_f hp.2.2 rfl (by omega) (by assumption))
    | (exfalso;rw [FR.of_ok] at *;contradiction)
    | (exfalso;simp only [FR.of_ok,Bool.not_true] at *;contradiction)
    | skip
instance {n r : Nat} {rs : List (List Rat)} {l : List Rat} {τ1 : MT} [j1 : NU τ1 (TWR r rs)] {τ2 : MT} [j2 : NU τ2 (NM n l)] : Con Tryz.prog 87 [τ1,τ2] (n ≤ BIG ∧ rs.length ≤ 5 ∧ PW rs.length l) (.ex (errV 41 (0))):=.o2 fun hok h1 h2 hp=>w87.c2 hok (j1.h h1) (j2.h h2) hp
theorem w42 {r : Nat} {rs : List (List Rat)} : Con Tryz.prog 42 [TWR r rs] (TOK rs ∧ 1 ≤ r ∧ sB rs.length (r + r) r ≤ BIG) (.ex (errV 41 (0))):=.o1 fun hok h1 hp=>by
  refine St.enter (N:=43) Tryz.func42 rfl rfl rfl hok (enter1 h1) fun a=>?_
  have h5:=hp.1.rl
  have hbg:=sB_le (r:=r) (k:=rs.length) (n:=r + r)
  repeat' (first|((with_reducible refine gS_ ?_);first|((with_reducible refine gL_ ?_);first|refine W.run ?_ fun a w G=>?_|refine W.mv fun a w G=>?_|refine W.asg fun a w G=>?_|refine W.bx fun b a w G=>?_|(refine W.nn hK ?_;clear hK K)|refine W.nl ?_|refine W.al fun b a w G=>?_|refine W.st fun w=>?_|refine W.stp fun w=>?_|refine W.ste ?_ fun w=>?_)|((with_reducible refine gC_ ?_);first|refine W.reg fun K hK=>?_|refine W.reg1 ?_|refine W.sq fun K hK=>?_|refine W.sk ?_|refine W.cd (fun hc=>?_) (fun hc=>?_)|refine W.cb (fun hc=>?_) (fun hc=>?_)|refine W.bl ?_|refine W.ex ?_|refine W.rt ?_)|((with_reducible refine W.kn hK ?_);clear hK K)|(with_reducible first|refine W.bn ?_|refine W.xt ?_|refine W.xb ?_|refine W.xo ?_|refine W.tr ?_|refine W.br ?_)|refine W.rt1 rfl ?_)|refine W.lp 16 (α:=Nat) (fun j=>rs.length - j) (fun j=>j ≤ rs.length) [2,3,4,5,6,15,16,17,18,19,20,21,22,23,24,25,26,27,28,29,30,31,32,33,34,35,36,37,38,39,40,41,42] (fun j=>[(15,NT j)]) (fun j=>[]) (0) ?_ ?_ ?_ fun j hj a w G=>?_|refine W.ag (x:=j) (j+1) ?_ ?_ ?_ ?_|clear hK K|clear hu|exact True.intro|exact Nat.le_trans (by clear hp;omega) hp|exact Nat.le_trans (by clear hp;omega) hp.1|exact Nat.le_trans (by clear hp;omega) hp.2|(clear hp;omega)|apply And.intro|refine GI.i fun _=>?_|with_reducible rfl|decide|(simp only [List.length_cons,List.length_nil];omega))
  all_goals first
    | omega
    | (have ht := hp.1.take j
       have hl:=h5.1.at (show j < rs.length by omega)
       have hs:=sB_ups (r:=r) (n:=r + r) (show (rs.take j).length ≤ rs.length by rw [List.length_take];omega)
       have hlt : (rs.take j).length = j:=by rw [List.length_take];omega
       have hpw : PW (rs.take j).length (rs.getD j []):=by rw [hlt];exact PW.pow hl
       have hj5 : 2 ^ j ≤ 2 ^ 5:=Nat.pow_le_pow_right (by decide) (by omega)
       have hnn:=hp.1.nn (show j < rs.length by omega)
       rw [← ht.2 _ hpw] at hnn
       first
       | omega
       | exact ht.1
       | exact hpw
       | (exfalso;have hd : (rs.getD j default).length = 2 ^ j:=hl;omega)
       | (exfalso;have hd : 0 ≤ sgL (List.take j rs) (rs.getD j default):=hnn;omega)
       | skip)
    | skip
instance {r : Nat} {rs : List (List Rat)} {τ1 : MT} [j1 : NU τ1 (TWR r rs)] : Con Tryz.prog 42 [τ1] (TOK rs ∧ 1 ≤ r ∧ sB rs.length (r + r) r ≤ BIG) (.ex (errV 41 (0))):=.o1 fun hok h1 hp=>w42.c1 hok (j1.h h1) hp
theorem getD_mem {l : List (List Rat)} {j : Nat} (h : j < l.length) : l.getD j default ∈ l:=by rw [List.getD_eq_getElem?_getD,List.getElem?_eq_getElem h];exact List.getElem_mem h
theorem w65 {r n : Nat} {rs ls : List (List Rat)} : Con Tryz.prog 65 [TWR r rs,RTS n ls] (TOK rs ∧ 1 ≤ r ∧ n ≤ BIG ∧ sB rs.length (r + r) r ≤ BIG ∧ ls.length ≤ 8 ∧ ∀ x ∈ ls,PW rs.length x) (.ex (errV 41 (0))):=.o2 fun hok h1 h2 hp=>by
  refine St.enter (N:=27) Tryz.func65 rfl rfl rfl hok (enter2 h1 h2) fun a=>?_
  have h5:=hp.1.rl
  repeat' (first|((with_reducible refine gS_ ?_);first|((with_reducible refine gL_ ?_);first|refine W.run ?_ fun a w G=>?_|refine W.mv fun a w G=>?_|refine W.asg fun a w G=>?_|refine W.bx fun b a w G=>?_|(refine W.nn hK ?_;clear hK K)|refine W.nl ?_|refine W.ste ?_ fun w=>?_)|((with_reducible refine gC_ ?_);first|refine W.reg fun K hK=>?_|refine W.reg1 ?_|refine W.sq fun K hK=>?_|refine W.sk ?_|refine W.cd (fun hc=>?_) (fun hc=>?_)|refine W.cb (fun hc=>?_) (fun hc=>?_)|refine W.bl ?_|refine W.ex ?_|refine W.rt ?_)|((with_reducible refine W.kn hK ?_);clear hK K)|(with_reducible first|refine W.bn ?_|refine W.xt ?_|refine W.xb ?_|refine W.xo ?_|refine W.tr ?_|refine W.br ?_)|refine W.rt1 rfl ?_)|refine W.lp 17 (α:=Nat) (fun j=>ls.length - j) (fun j=>j ≤ ls.length) [4,7,8,16,17,18,19,20,21,22,23,24,25,26] (fun j=>[(16,NT j)]) (fun j=>[]) (0) ?_ ?_ ?_ fun j hj a w G=>?_|refine W.ag (x:=j) (j+1) ?_ ?_ ?_ ?_|clear hK K|clear hu|exact True.intro|exact Nat.le_trans (by clear hp;omega) hp|exact Nat.le_trans (by clear hp;omega) hp.1|exact Nat.le_trans (by clear hp;omega) hp.2|(clear hp;omega)|apply And.intro|refine GI.i fun _=>?_|with_reducible rfl|decide|(simp only [List.length_cons,List.length_nil];omega))
  all_goals first
    | omega
    | exact hp.1
    | exact hp.2.2.2.2.2 _ (getD_mem (by omega))
    | skip
instance {r n : Nat} {rs ls : List (List Rat)} {τ1 : MT} [j1 : NU τ1 (TWR r rs)] {τ2 : MT} [j2 : NU τ2 (RTS n ls)] : Con Tryz.prog 65 [τ1,τ2] (TOK rs ∧ 1 ≤ r ∧ n ≤ BIG ∧ sB rs.length (r + r) r ≤ BIG ∧ ls.length ≤ 8 ∧ ∀ x ∈ ls,PW rs.length x) (.ex (errV 41 (0))):=.o2 fun hok h1 h2 hp=>w65.c2 hok (j1.h h1) (j2.h h2) hp
theorem w18 {n r : Nat} {rs : List (List Rat)} {l : List Rat} : Con Tryz.prog 18 [TWR r rs,NM n l] (TOK rs ∧ PW rs.length l ∧ 1 ≤ r ∧ 1 ≤ n ∧ sB rs.length (n + r) r ≤ BIG ∧ sB rs.length (r + r) r ≤ BIG) (MT.tup2 (IT (sgL rs l)) (.ex (errV 41 (0)))):=.o2 fun hok h1 h2 hp=>by
  refine St.enter (N:=17) Tryz.func18 rfl rfl rfl hok (enter2 h1 h2) fun a=>?_
  have h5:=hp.1.rl
  have hbg:=sB_le (r:=r) (k:=rs.length) (n:=n + r)
  repeat' (first|((with_reducible refine gS_ ?_);first|((with_reducible refine gL_ ?_);first|refine W.run ?_ fun a w G=>?_|refine W.mv fun a w G=>?_|refine W.asg fun a w G=>?_|refine W.bx fun b a w G=>?_|(refine W.nn hK ?_;clear hK K)|refine W.nl ?_|refine W.ste ?_ fun w=>?_)|((with_reducible refine gC_ ?_);first|refine W.reg fun K hK=>?_|refine W.reg1 ?_|refine W.sq fun K hK=>?_|refine W.sk ?_|refine W.cd (fun hc=>?_) (fun hc=>?_)|refine W.cb (fun hc=>?_) (fun hc=>?_)|refine W.rt ?_)|((with_reducible refine W.kn hK ?_);clear hK K)|with_reducible refine W.tr ?_|with_reducible refine W.br ?_|refine W.rt2 rfl ?_ ?_)|clear hK K|clear hu|exact True.intro|exact Nat.le_trans (by clear hp;omega) hp|exact Nat.le_trans (by clear hp;omega) hp.1|exact Nat.le_trans (by clear hp;omega) hp.2|(clear hp;omega)|apply And.intro|refine GI.i fun _=>?_|with_reducible rfl|decide|(simp only [List.length_cons,List.length_nil];omega))
  all_goals first
    | omega
    | exact hp.1
    | exact hp.2.1
    | (intro x hx;simp only [List.mem_cons,List.not_mem_nil,or_false] at hx;subst hx;exact hp.2.1)
    | (simp;done)
    | skip
instance {n r : Nat} {rs : List (List Rat)} {l : List Rat} {τ1 : MT} [j1 : NU τ1 (TWR r rs)] {τ2 : MT} [j2 : NU τ2 (NM n l)] : Con Tryz.prog 18 [τ1,τ2] (TOK rs ∧ PW rs.length l ∧ 1 ≤ r ∧ 1 ≤ n ∧ sB rs.length (n + r) r ≤ BIG ∧ sB rs.length (r + r) r ≤ BIG) (MT.tup2 (IT (sgL rs l)) (.ex (errV 41 (0)))):=.o2 fun hok h1 h2 hp=>w18.c2 hok (j1.h h1) (j2.h h2) hp
theorem w20 {n m r : Nat} {rs : List (List Rat)} {l k : List Rat} : Con Tryz.prog 20 [TWR r rs,NM n l,NM m k] (TOK rs ∧ PW rs.length l ∧ PW rs.length k ∧ 1 ≤ r ∧ 1 ≤ n ∧ 1 ≤ m ∧ sB rs.length (n + m + 1 + r) r ≤ BIG ∧ sB rs.length (r + r) r ≤ BIG) (MT.tup2 (IT (sgL rs (plusF l (minusF k)))) (.ex (errV 41 (0)))):=.o3 fun hok h1 h2 h3 hp=>by
  refine St.enter (N:=23) Tryz.func20 rfl rfl rfl hok (enter3 h1 h2 h3) fun a=>?_
  have h5:=hp.1.rl
  have hbg:=sB_le (r:=r) (k:=rs.length) (n:=n + m + 1 + r)
  have l1:=hp.2.1.l32 h5.2
  have l2:=hp.2.2.1.l32 h5.2
  have l3:=hp.2.2.1.minus.l32 h5.2
  repeat' (first|((with_reducible refine gS_ ?_);first|((with_reducible refine gL_ ?_);first|refine W.run ?_ fun a w G=>?_|refine W.mv fun a w G=>?_|refine W.asg fun a w G=>?_|refine W.bx fun b a w G=>?_|(refine W.nn hK ?_;clear hK K)|refine W.nl ?_|refine W.ste ?_ fun w=>?_)|((with_reducible refine gC_ ?_);first|refine W.reg fun K hK=>?_|refine W.reg1 ?_|refine W.sq fun K hK=>?_|refine W.ds ?_ (fun β a w G hu=>W.fin ?_ hu) mixedOrders (by kernel_rfl)|refine W.sk ?_|refine W.cd (fun hc=>?_) (fun hc=>?_)|refine W.cb (fun hc=>?_) (fun hc=>?_)|refine W.rt ?_)|((with_reducible refine W.kn hK ?_);clear hK K)|with_reducible refine W.tr ?_|with_reducible refine W.br ?_|refine W.rt2 rfl ?_ ?_)|clear hK K|clear hu|exact True.intro|exact Nat.le_trans (by clear hp;omega) hp|exact Nat.le_trans (by clear hp;omega) hp.1|exact Nat.le_trans (by clear hp;omega) hp.2|(clear hp;omega)|apply And.intro|refine GI.i fun _=>?_|with_reducible rfl|decide|(simp only [List.length_cons,List.length_nil];omega))
  all_goals first
    | omega
    | exact hp.1
    | exact hp.2.1.plus hp.2.2.1.minus
    | (intro x hx;simp only [List.mem_cons,List.not_mem_nil,or_false] at hx;rcases hx with hx | hx <;> subst hx <;> first | exact hp.2.1 | exact hp.2.2.1)
    | (simp;done)
    | skip
instance {n m r : Nat} {rs : List (List Rat)} {l k : List Rat} {τ1 : MT} [j1 : NU τ1 (TWR r rs)] {τ2 : MT} [j2 : NU τ2 (NM n l)] {τ3 : MT} [j3 : NU τ3 (NM m k)] : Con Tryz.prog 20 [τ1,τ2,τ3] (TOK rs ∧ PW rs.length l ∧ PW rs.length k ∧ 1 ≤ r ∧ 1 ≤ n ∧ 1 ≤ m ∧ sB rs.length (n + m + 1 + r) r ≤ BIG ∧ sB rs.length (r + r) r ≤ BIG) (MT.tup2 (IT (sgL rs (plusF l (minusF k)))) (.ex (errV 41 (0)))):=.o3 fun hok h1 h2 h3 hp=>w20.c3 hok (j1.h h1) (j2.h h2) (j3.h h3) hp
end Go.Proofs.YtboicjlbbbodgaaGreatDoor
namespace Go.Proofs.YtboicjlbbbodgaaGreatDoor
open Go.RowKit (Below)
section
variable {P : Program} {W0 : World} {a : Act} {w : World} {G : Gh} {o : Oper}
theorem OpR.lend {f b n : Nat} {ty : TypeId} {k : Option Nat} {l : List Nat} {args : Array Operand} {ats : Array TypeId} {r : Value} (hok : Gok w G) (ho : o.op = .call { callee := .value (.func f), args := args, argTypes := ats }) (hc : callable P f = true)
    (hb : BX.ok ⟨b,ty,k,.ex (.agg (ucells l).toArray)⟩ W0 w G) (hn : n = l.length) (hlim : l.length ≤ LIM) (hw : wfl l)
    (h : ∀ G1,Gle G G1 → Gok w G1 → (SL l).t (.slice (some ⟨b,0,none⟩) n n) G1 → Calls P f (args.map a.eval) w (Ret w G1 (.ex r))) : OpR P o a w G (.ex r):=by
  obtain ⟨h1,h2,v,hv,hs,hvt⟩:=hb
  simp only at h1 h2 hv hs hvt
  have hle : Gle G (Gput G b (.cells v.cells ty (0,0))):=fun c x hc=>by
    unfold Gput;split
    · rename_i e;subst e;rw [h2] at hc;cases hc
    · exact hc
  have hok1 : Gok w (Gput G b (.cells v.cells ty (0,0))):=fun c x hc=>by
    unfold Gput at hc;split at hc
    · rename_i e;subst e;cases hc;exact hv
    · exact hok c x hc
  have hsl : (SL l).t (.slice (some ⟨b,0,none⟩) n n) (Gput G b (.cells v.cells ty (0,0))):=SL_frozen (u:=v) (ty:=ty) hvt (by simp [Gput]) ⟨hn,Nat.le_refl _⟩ hlim hw
  have hlt : b < w.heap.size:=by
    rcases Nat.lt_or_ge b w.heap.size with hlt | hge
    · exact hlt
    · rw [Array.getElem?_eq_none hge] at hv;cases hv
  have hcall:=h _ hle hok1 hsl
  intro Q K hK
  have hr : (execOp a.eval o).run P w = .ok (.enter f (args.map a.eval)) w:=by
    simp [execOp,ho,resolve,Act.eval,Deferred.ofValue,invoke,run_callFunc hc]
  unfold Oper.wp
  rw [hr]
  refine Calls.mono hcall fun e w' he=>?_
  obtain ⟨u,G',rfl,hu,hN⟩:=he
  refine hK u w' (fun c=>if c = b then none else G' c) hu ⟨hN.below,fun c hc=>?_,fun c x hc=>?_,fun c x hc=>?_⟩
  · by_cases e : c = b
    · subst e;simp [h2]
    · simp only [if_neg e];rw [hN.agree c hc];unfold Gput;rw [if_neg e]
  · have e : c ≠ b:=fun e=>by rw [e,h2] at hc;cases hc
    simp only [if_neg e]
    exact hN.le c x (hle c x hc)
  · by_cases e : c = b
    · subst e;simp at hc
    · simp only [if_neg e] at hc;exact hN.ok c x hc
end
end Go.Proofs.YtboicjlbbbodgaaGreatDoor
namespace Go.Proofs.YtboicjlbbbodgaaGreatDoor
open Go.RowKit (Below)
theorem OpR.lend2 {P : Program} {W0 : World} {a : Act} {w : World} {G : Gh} {o : Oper} {f b n : Nat} {ty : TypeId} {k : Option Nat} {l : List Nat} {x y : Operand} {ats : Array TypeId} {r : Value} (hok : Gok w G) (ho : o.op = .call { callee := .value (.func f), args := #[x, y], argTypes := ats }) (hc : callable P f = true)
    (hb : BX.ok ⟨b,ty,k,.ex (.agg (ucells l).toArray)⟩ W0 w G) (hn : n = l.length) (hlim : l.length ≤ LIM) (hw : wfl l)
    (h : ∀ G1,Gle G G1 → Gok w G1 → (SL l).t (.slice (some ⟨b,0,none⟩) n n) G1 → Calls P f #[a.eval x,a.eval y] w (Ret w G1 (.ex r))) : OpR P o a w G (.ex r) :=
  .lend hok ho hc hb hn hlim hw fun G1 h1 h2 h3=>by simpa using h G1 h1 h2 h3
theorem SL_prefix {b n c : Nat} {ty : TypeId} {u v : Value} {G : Gh} {q : List Nat} (h : (MT.ex (.agg (ucells q).toArray)).t u G) (hg : G b = some (.cells u.cells ty (0,0))) (hn : n ≤ q.length) (hc : n ≤ c) (hlim : n ≤ LIM) (hw : wfl q) (hv : v = .slice (some ⟨b,0,none⟩) n c) : (SL (q.take n)).t v G:=by
  cases h
  subst hv
  have hl : (q.take n).length = n:=by rw [List.length_take];omega
  refine ⟨_,c,by rw [hl],by omega,by omega,hw.take n,fun i x hi=>⟨b,0,rfl,?_⟩⟩
  have hlt : i < n:=by have:=(List.getElem?_eq_some_iff.1 hi).1;omega
  rw [List.getElem?_take,if_pos hlt] at hi
  simp [Gc,hg,Value.cells,ucells,hi]
theorem OpR.lendP {P : Program} {W0 : World} {a : Act} {w : World} {G : Gh} {o : Oper} {f b n c : Nat} {ty : TypeId} {k : Option Nat} {q : List Nat} {x y : Operand} {ats : Array TypeId} {r : Value} (hok : Gok w G) (ho : o.op = .call { callee := .value (.func f), args := #[x, y], argTypes := ats }) (hc : callable P f = true)
    (hb : BX.ok ⟨b,ty,k,.ex (.agg (ucells q).toArray)⟩ W0 w G) (hn : n ≤ q.length) (hnc : n ≤ c) (hlim : n ≤ LIM) (hw : wfl q)
    (h : ∀ G1,Gle G G1 → Gok w G1 → (SL (q.take n)).t (.slice (some ⟨b,0,none⟩) n c) G1 → Calls P f #[a.eval x,a.eval y] w (Ret w G1 (.ex r))) : OpR P o a w G (.ex r):=by
  obtain ⟨h1,h2,v,hv,hs,hvt⟩:=hb
  simp only at h1 h2 hv hs hvt
  have hle : Gle G (Gput G b (.cells v.cells ty (0,0))):=fun c x hc=>by
    unfold Gput;split
    · rename_i e;subst e;rw [h2] at hc;cases hc
    · exact hc
  have hok1 : Gok w (Gput G b (.cells v.cells ty (0,0))):=fun c x hc=>by
    unfold Gput at hc;split at hc
    · rename_i e;subst e;cases hc;exact hv
    · exact hok c x hc
  have hcall:=h _ hle hok1 (SL_prefix (u:=v) (ty:=ty) hvt (by simp [Gput]) hn hnc hlim hw rfl)
  intro Q K hK
  have hr : (execOp a.eval o).run P w = .ok (.enter f (#[x,y].map a.eval)) w:=by
    simp [execOp,ho,resolve,Act.eval,Deferred.ofValue,invoke,run_callFunc hc]
  unfold Oper.wp
  rw [hr]
  have hcall : Calls P f (#[x,y].map a.eval) w (Ret w (Gput G b (.cells v.cells ty (0,0))) (.ex r)):=by simpa using hcall
  refine Calls.mono hcall fun e w' he=>?_
  obtain ⟨u,G',rfl,hu,hN⟩:=he
  refine hK u w' (fun c=>if c = b then none else G' c) hu ⟨hN.below,fun c hc=>?_,fun c x hc=>?_,fun c x hc=>?_⟩
  · by_cases e : c = b
    · subst e;simp [h2]
    · simp only [if_neg e];rw [hN.agree c hc];unfold Gput;rw [if_neg e]
  · have e : c ≠ b:=fun e=>by rw [e,h2] at hc;cases hc
    simp only [if_neg e]
    exact hN.le c x (hle c x hc)
  · by_cases e : c = b
    · subst e;simp at hc
    · simp only [if_neg e] at hc;exact hN.ok c x hc
theorem of_val {τ : MT} {v u : Value} {G : Gh} (h : v = u) (hs : τ.t u G) : τ.t v G:=h ▸ hs
theorem take_len {l : List Nat} {k : Nat} (h : k ≤ l.length) : (l.take k).length = k:=by rw [List.length_take];omega
theorem dig_take_top {l : List Nat} {k : Nat} : dig (l.take k) (k - 1) = if k = 0 then dig l 0 * 0 else dig l (k - 1):=by
  rcases Nat.eq_zero_or_pos k with h | h
  · subst h;simp [dig]
  · rw [if_neg (by omega)]
    unfold dig
    rw [List.getD_eq_getElem?_getD,List.getD_eq_getElem?_getD,List.getElem?_take,if_pos (by omega)]
theorem rtrim_step {l : List Nat} {k : Nat} (h0 : 0 < k) (hd : dig (l.take k) (k - 1) = 0) (hv : val (l.take k) = val l) : val (l.take (k - 1)) = val l:=by
  rw [dig_take_top,if_neg (by omega)] at hd
  exact trim_step h0 hd hv
theorem rtrim_zero {l : List Nat} {k m : Nat} (h0 : ¬ 0 < k) (hv : val (l.take k) = val l) (hl : val l = m) : l.take k = words m:=by
  have : k = 0:=by omega
  have hm:=trim_zero this hv hl
  subst this;rw [hm,words_zero];rfl
theorem rtrim_top {l : List Nat} {k m : Nat} (h0 : 0 < k) (hd : ¬ dig (l.take k) (k - 1) = 0) (hn : k ≤ l.length) (hv : val (l.take k) = val l) (hl : val l = m) (hw : wfl l) : l.take k = words m:=by
  rw [dig_take_top,if_neg (by omega)] at hd
  exact trim_words (by omega) (fun h=>hd h.2) hn hv hl hw
theorem iv_at {v : Value} {G : Gh} {z : Int} {n : Nat} (h : (MT.ex (.int .i64 z)).t v G) (e : z = (n : Int)) : (MT.ex (nv .i64 n)).t v G:=by subst e;exact h
theorem blen_half {v : Nat} (h : 0 < v) : blen v = blen (v / 2 ^ 1) + 1:=by
  rcases Nat.lt_or_ge v 2 with h1 | h1
  · have : v = 1:=by omega
    subst this;rfl
  · rw [blen_shift (n:=v) (s:=1) (by omega)];omega
theorem blen_words {x : Nat} (h : x ≠ 0) : 32 * ((words x).length - 1) + blen (dig (words x) ((words x).length - 1)) = blen x:=by
  have hL:=len_pos h
  have htop:=dig_last_pos h
  have hs:=val_split (words x) ((words x).length - 1)
  rw [val_words,val_drop_dig,Nat.sub_add_cancel hL,List.drop_length] at hs
  simp only [val,Nat.mul_zero,Nat.add_zero] at hs
  have hlow:=val_lt ((wfl_words x).take ((words x).length - 1))
  have hl2 : ((words x).take ((words x).length - 1)).length = (words x).length - 1:=by simp
  rw [hl2] at hlow
  generalize (words x).length - 1 = k at *
  generalize dig (words x) k = d at *
  have hp : (4294967296 : Nat) ^ k = 2 ^ (32 * k):=by rw [show (4294967296 : Nat) = 2 ^ 32 from rfl,← Nat.pow_mul]
  rw [hp] at hs hlow
  have hq : x / 2 ^ (32 * k) = d:=by
    rw [hs,Nat.add_comm,Nat.mul_add_div (Nat.pow_pos (by decide)),Nat.div_eq_of_lt hlow,Nat.add_zero]
  have hge : 2 ^ (32 * k) ≤ x:=by
    have : 2 ^ (32 * k) * 1 ≤ 2 ^ (32 * k) * d:=Nat.mul_le_mul_left _ (Nat.pos_of_ne_zero htop)
    omega
  rw [blen_shift hge,hq]
theorem ring_add (V Vx Vy D R Q a b c s M : Nat) (h : V + D * c = Vx + Vy) (e : R + M * Q = s) (e2 : s = a + b + c) : V + D * R + D * M * Q = Vx + D * a + (Vy + D * b):=by grind
theorem ring_sub (V Vx Vy D R a b c t M : Nat) (h : V + Vy = Vx + D * c) (e : R + b + c = a + M * t) : V + D * R + (Vy + D * b) = Vx + D * a + D * M * t:=by grind
theorem radd_step {l la lb : List Nat} {k c : Nat} (hk : l.length = k) (h : val l + 4294967296 ^ k * c = val (la.take k) + val (lb.take k)) :
    val (l ++ [(dig la k + dig lb k + c) % 4294967296]) + 4294967296 ^ (k + 1) * ((dig la k + dig lb k + c) / 2 ^ 32) = val (la.take (k + 1)) + val (lb.take (k + 1)):=by
  rw [val_append,hk,val_take_dig,val_take_dig,Nat.pow_succ]
  simp only [val,Nat.mul_zero,Nat.add_zero]
  exact ring_add _ _ _ _ _ _ _ _ _ (dig la k + dig lb k + c) _ h (by omega) rfl
theorem rsub_step {l la lb : List Nat} {k c : Nat} (hk : l.length = k) (ha : dig la k < 4294967296) (hb : dig lb k < 4294967296) (hc : c ≤ 1) (h : val l + val (lb.take k) = val (la.take k) + 4294967296 ^ k * c) :
    val (l ++ [(4294967296 + dig la k - dig lb k - c) % 4294967296]) + val (lb.take (k + 1)) = val (la.take (k + 1)) + 4294967296 ^ (k + 1) * (1 - (4294967296 + dig la k - dig lb k - c) / 2 ^ 32):=by
  rw [val_append,hk,val_take_dig,val_take_dig,Nat.pow_succ]
  simp only [val,Nat.mul_zero,Nat.add_zero]
  exact ring_sub _ _ _ _ _ _ _ _ _ _ h (by omega)
theorem wfl_app {l : List Nat} {x : Nat} (h : wfl l) (hx : x < 4294967296) : wfl (l ++ [x]):=by
  intro y hy
  rcases List.mem_append.1 hy with hy | hy
  · exact h y hy
  · rw [List.mem_singleton.1 hy];exact hx
theorem radd_fin {l : List Nat} {a b c k : Nat} (hl : l.length = k) (hk : ¬ k < max (words a).length (words b).length + 1) (hk' : k ≤ max (words a).length (words b).length + 1)
    (h : val l + 4294967296 ^ k * c = val ((words a).take k) + val ((words b).take k)) (hc : c ≤ 1) : val l = a + b :=
  add_fin (by omega) hk hk' (by rw [← hl,List.take_length,hl];exact h) hc
theorem rsub_fin {l : List Nat} {a b c k : Nat} (hle : b ≤ a) (hl : l.length = k) (hw : wfl l) (hk : ¬ k < (words a).length) (hk' : k ≤ (words a).length)
    (h : val l + val ((words b).take k) = val ((words a).take k) + 4294967296 ^ k * c) (hc : c ≤ 1) : val l = a - b :=
  sub_fin hle (by omega) hw hk hk' (by rw [← hl,List.take_length,hl];exact h) hc
section
variable {v : Value} {G : Gh} {n m : Nat} {z x y : Int} {s b : Bool} {l : List Nat}
theorem cmp_sub : (x - y).sign = cmpZ x y:=by
  have:=sgn_cases (x - y)
  unfold cmpZ
  split
  · omega
  · split <;> omega
end
theorem ring_take (V Vx Vy D R a b c t M : Nat) (h : V + Vy = Vx + D * c) (e : R + b + c = a + M * t) : V + D * R + (Vy + D * b) = Vx + D * a + D * M * t:=ring_sub _ _ _ _ _ _ _ _ _ _ h e
theorem rtake_step {l us vs : List Nat} {k c : Nat} (hk : k < l.length) (ha : dig l k < 4294967296) (hb : dig vs k < 4294967296) (hc : c ≤ 1) (hd : l.drop k = us.drop k) (h : val (l.take k) + val (vs.take k) = val (us.take k) + 4294967296 ^ k * c) :
    val ((l.set k ((4294967296 + dig l k - dig vs k - c) % 4294967296)).take (k + 1)) + val (vs.take (k + 1)) = val (us.take (k + 1)) + 4294967296 ^ (k + 1) * (1 - (4294967296 + dig l k - dig vs k - c) / 2 ^ 32):=by
  rw [val_take_set hk,val_take_dig,val_take_dig,Nat.pow_succ,← dig_of_drop hd]
  exact ring_take _ _ _ _ _ _ _ _ _ _ h (by omega)
theorem ltL_of_dig {l q : List Nat} {k : Nat} (hw : wfl l) (hk : 0 < k) (he : val (l.drop k) = val (q.drop k)) (hd : dig l (k - 1) < dig q (k - 1)) : val l < val q:=by
  have ha:=val_split l (k - 1);have hb:=val_split q (k - 1)
  have h1:=val_drop_dig l (k - 1);have h2:=val_drop_dig q (k - 1)
  rw [show k - 1 + 1 = k from by omega] at h1 h2
  have h3:=val_lt (hw.take (k - 1))
  have h4 : 4294967296 ^ (l.take (k - 1)).length ≤ 4294967296 ^ (k - 1):=Nat.pow_le_pow_right (by omega) (by simp;omega)
  have h5 : 4294967296 ^ (k - 1) * (val (l.drop (k - 1)) + 1) ≤ 4294967296 ^ (k - 1) * val (q.drop (k - 1)):=Nat.mul_le_mul_left _ (by omega)
  rw [Nat.mul_add] at h5
  omega
theorem dropL_step {l q : List Nat} {k : Nat} (hk : 0 < k) (he : val (l.drop k) = val (q.drop k)) (hd : ¬ dig l (k - 1) ≠ dig q (k - 1)) : val (l.drop (k - 1)) = val (q.drop (k - 1)):=by
  have h1:=val_drop_dig l (k - 1);have h2:=val_drop_dig q (k - 1)
  rw [show k - 1 + 1 = k from by omega] at h1 h2
  omega
theorem eqL_of_drop {l q : List Nat} {k : Nat} (hk : k = 0) (he : val (l.drop k) = val (q.drop k)) : val l = val q:=by
  subst hk;simpa using he
end Go.Proofs.YtboicjlbbbodgaaGreatDoor
namespace Go.Proofs.YtboicjlbbbodgaaGreatDoor
set_option maxHeartbeats 1000000
set_option maxRecDepth 100000
open Go.RowKit (Below)
private theorem c_166 : callable Tryz.prog 166 = true:=by kernel_rfl
private theorem el_99 : elS Tryz.prog 99 1 4 (.int .u32 0):=by unfold elS;kernel_rfl
private theorem it_139 : intTy Tryz.prog 139 .u64 = true:=by kernel_rfl
private theorem it_99 : intTy Tryz.prog 99 .u32 = true:=by kernel_rfl
private theorem tS_99 : tyS Tryz.prog 99 (none) = true:=by kernel_rfl
theorem rat_ok {l : List Nat} {i : Nat} {v1 v2 : Value} {W0 : World} {G0 : Gh} (hok : Gok W0 G0) (h1 : (SL l).t v1 G0) (h2 : (NT i).t v2 G0)  : Calls Tryz.prog 166 #[v1,v2] W0 (Ret W0 G0 (MT.ex (nv .u64 (dig l i)))):=by
 have hlim:=SL.lim h1
 have hwf:=SL.wf h1
 simp only [LIM] at hlim
 have hdl:=dig_lt hwf i
 refine St.enter (N:=14) (L:=[(1,NT i),(0,SL l)]) (args:=[v1,v2]) Tryz.func166 rfl rfl rfl hok (enter2 h1 h2) fun a S=>?_
 refine wp_reg fun K hK=>?_
 refine S.s (τ:=MT.ex (nv .u64 (0))) (OpR.asn S.ok rfl (rfl : _ = nv .u64 0)) rfl fun a w G S=>?_
 refine wn hK ?_;clear hK K
 refine wp_seq_k fun K hK=>?_
 refine wp_reg fun K hK=>?_
 refine S.m rfl (S.g 1 rfl) rfl fun a w G S=>?_
 refine S.m rfl (S.g 3 rfl) rfl fun a w G S=>?_
 refine S.s (OpR.lenL S.ok rfl Tryz.underlying55 (S.g 0 rfl) MT.self) rfl fun a w G S=>?_
 refine S.s (OpR.nlss S.ok rfl (S.e 2 rfl) (S.e 0 rfl) MT.self) rfl fun a w G S=>?_
 refine wn hK ?_;clear hK K
 replace S:=S.d3.d2.d1
 refine S.cond 0 rfl (fun hc1=>?_) (fun hc1=>?_)
 ·
  have hp2:=of_decide_eq_true hc1
  refine wp_reg fun K hK=>?_
  refine S.m rfl (S.g 3 rfl) rfl fun a w G S=>?_
  refine S.m rfl (S.g 3 rfl) rfl fun a w G S=>?_
  refine S.s (τ:=PE (none) (MT.ex (nv .u32 (dig (l) (i))))) (OpR.ixL (i:=i) S.ok rfl Tryz.underlying55 tS_99 (S.g 1 rfl) (S.e 0 rfl) rfl (dig_get (by first | omega | (simp;omega)))) rfl fun a w G S=>?_
  refine S.s (OpR.ldE S.ok rfl tS_99 (S.g 0 rfl)) rfl fun a w G S=>?_
  refine S.s (OpR.nconv S.ok rfl (S.e 0 rfl) it_99 it_139 (wr_u64 (by omega)) MT.self) rfl fun a w G S=>?_
  replace S:=S.d6
  refine S.q rfl (S.g 0 rfl) rfl fun a w G S=>?_
  refine wn hK ?_;clear hK K
  replace S:=S.d5.d4.d3.d2.d1
  exact wp_ret (then_ret (S.retTmp rfl ((S.e 0 rfl).trans (nv_eq (by first | rfl | omega | (simp only [Nat.zero_add,Nat.add_zero];done) | (simp;done) | (push_cast;omega))))))
 ·
  have hp3:=of_decide_eq_false hc1
  refine wp_skip ?_
  refine hK _ _ ?_;clear hK K
  refine wp_reg fun K hK=>?_
  replace S:=S.d1
  refine S.s (τ:=MT.ex (nv .u64 (0))) (OpR.asn S.ok rfl (rfl : _ = nv .u64 0)) rfl fun a w G S=>?_
  refine wn hK ?_;clear hK K
  exact wp_ret (S.retTmp rfl ((S.e 0 rfl).trans (nv_eq (dig_out (by omega)).symm)))
theorem rtrim_ok {nb m : Nat} {v1 : Value} {W0 : World} {G0 : Gh} (hok : Gok W0 G0) (h1 : (SV nb m).t v1 G0)  : Calls Tryz.prog 160 #[v1] W0 (Ret W0 G0 (SN nb m)):=by
 obtain ⟨hlt,l,hl,h1⟩:=h1
 have hlim:=SL.lim h1
 have hwf:=SL.wf h1
 simp only [LIM] at hlim
 refine St.enter (N:=25) (L:=[(0,SL l)]) (args:=[v1]) Tryz.func160 rfl rfl rfl hok (enter1 h1) fun a S=>?_
 refine wp_reg fun K hK=>?_
 refine S.s (τ:=MT.ex (Value.slice none 0 0)) (OpR.asn S.ok rfl rfl) rfl fun a w G S=>?_
 refine wn hK ?_;clear hK K
 refine wp_reg fun K hK=>?_
 refine S.s (τ:=EMP) (OpR.build0 S.ok rfl Tryz.underlying55 el_99) rfl fun a w G S=>?_
 refine S.m rfl (S.g 2 rfl) rfl fun a w G S=>?_
 refine S.s (τ:=SL l) (OpR.appNew S.ok rfl Tryz.underlying55 el_99 (S.g 1 rfl) (S.g 0 rfl)) rfl fun a w G S=>?_
 refine S.q rfl (S.g 0 rfl) rfl fun a w G S=>?_
 refine wn hK ?_;clear hK K
 replace S:=S.d5.d3.d2.d1
 refine wp_seq_k fun K hK=>?_
 refine wp_block ?_
 replace S:=S.also (t:=3) (τ:=SL (l.take l.length)) (SL.eq (S.g 0 rfl) (by rw [List.take_length]))
 refine wp_loopJ (fun μ a w=>∃ (k : Nat) (G : Gh),μ = k ∧ (k ≤ l.length) ∧ (val (l.take k) = val l) ∧  St W0 G0 25 [(3,SL (l.take k)),(2,MT.ex (Value.slice none 0 0))] [] a w G) (l.length) ⟨l.length,_,rfl,(Nat.le_refl _),(by rw [List.take_length]),(S.keep [0,2]).keepB [] (by decide)⟩ ?_
 clear S
 intro μ a w ⟨k,G,hm,hk,hv,S⟩
 refine wp_seq_k fun K hK=>?_
 refine wp_reg fun K hK=>?_
 refine S.m rfl (S.g 0 rfl) rfl fun a w G S=>?_
 refine S.s (τ:=NT k) (OpR.lenL S.ok rfl Tryz.underlying55 (S.g 0 rfl) (nv_eq (take_len hk))) rfl fun a w G S=>?_
 refine S.s (OpR.ngtr S.ok rfl (S.e 0 rfl) (rfl : _ = nv .i64 0) MT.self) rfl fun a w G S=>?_
 refine S.m rfl (S.g 0 rfl) rfl fun a w G S=>?_
 rcases Bool.eq_false_or_eq_true (decide (0 < k)) with hc1 | hc1
 ·
  have hp2:=of_decide_eq_true hc1
  replace S:=S.boolIs 0 rfl hc1
  refine S.stepG 0 (OpR.mv S.ok rfl (S.g 5 rfl)) rfl rfl rfl rfl rfl rfl fun a w G S=>?_
  refine S.stepG 1 (OpR.mv S.ok rfl (S.g 6 rfl)) rfl rfl rfl rfl rfl rfl fun a w G S=>?_
  refine S.stepG (τ:=NT k) 2 (OpR.lenL S.ok rfl Tryz.underlying55 (S.g 0 rfl) (nv_eq (take_len hk))) rfl rfl rfl rfl rfl rfl fun a w G S=>?_
  refine S.stepG 3 (OpR.nsub S.ok rfl (S.e 0 rfl) (rfl : _ = nv .i64 1) (by omega) (wr_i64 (by omega)) MT.self) rfl rfl rfl rfl rfl rfl fun a w G S=>?_
  refine S.stepG (τ:=PE (none) (MT.ex (nv .u32 (dig (l.take k) (k - 1))))) 4 (OpR.ixL (i:=k - 1) S.ok rfl Tryz.underlying55 tS_99 (S.g 3 rfl) (S.e 0 rfl) rfl (dig_get (by rw [take_len hk];omega))) rfl rfl rfl rfl rfl rfl fun a w G S=>?_
  refine S.stepG 5 (OpR.ldE S.ok rfl tS_99 (S.g 0 rfl)) rfl rfl rfl rfl rfl rfl fun a w G S=>?_
  refine S.stepG 6 (OpR.neql S.ok rfl (S.e 0 rfl) (rfl : _ = nv .u32 0) MT.self) rfl rfl rfl rfl rfl rfl fun a w G S=>?_
  refine S.s (τ:=BT (decide ((dig (l.take k) (k - 1)) = 0))) (OpR.pick S.ok rfl (S.e 7 rfl) (S.g 0 rfl)) rfl fun a w G S=>?_
  refine wn hK ?_;clear hK K
  replace S:=S.d12.d11.d10.d9.d8.d7.d6.d5.d4.d3.d2.d1
  refine S.cond 0 rfl (fun hc3=>?_) (fun hc3=>?_)
  ·
   have hp4:=of_decide_eq_true hc3
   refine wp_skip ?_
   refine hK _ _ ?_;clear hK K
   refine wp_block ?_
   refine wp_region_lit ?_
   refine S.m rfl (S.g 1 rfl) rfl fun a w G S=>?_
   refine S.m rfl (S.g 2 rfl) rfl fun a w G S=>?_
   refine S.s (τ:=NT k) (OpR.lenL S.ok rfl Tryz.underlying55 (S.g 0 rfl) (nv_eq (take_len hk))) rfl fun a w G S=>?_
   refine S.s (OpR.nsub S.ok rfl (S.e 0 rfl) (rfl : _ = nv .i64 1) (by omega) (wr_i64 (by omega)) MT.self) rfl fun a w G S=>?_
   refine S.s (τ:=SL ((l.take k).take (k - 1))) (OpR.cutL S.ok rfl Tryz.underlying55 tS_99 (S.g 3 rfl) (S.e 0 rfl) rfl (by rw [take_len hk];omega)) rfl fun a w G S=>?_
   replace S:=S.d6
   refine S.q rfl (S.g 0 rfl) rfl fun a w G S=>?_
   refine wpList_nil ?_
   replace S:=S.d5.d4.d3.d2.d1
   replace S:=S.also (t:=3) (τ:=SL (l.take (k - 1))) (SL.eq (S.g 0 rfl) (by rw [List.take_take];congr 1;omega))
   exact ⟨(k - 1),(by omega),(k - 1),_,rfl,(by omega),(rtrim_step ‹_› ‹_› hv),(S.keep [0,3]).keepB [] (by decide)⟩
  ·
   have hp5:=of_decide_eq_false hc3
   refine wp_exit (then_exit (then_exit (exit_same ?_)))
   clear hK K
   refine hK _ _ ?_;clear hK K
   refine wp_reg fun K hK=>?_
   refine S.m rfl (S.g 1 rfl) rfl fun a w G S=>?_
   replace S:=S.d3
   refine S.q rfl (S.g 0 rfl) rfl fun a w G S=>?_
   refine wn hK ?_;clear hK K
   replace S:=S.d1
   exact wp_ret (S.retTmp rfl (SL.toSN (S.g 0 rfl) (by first | exact rtrim_zero ‹_› hv hl | exact rtrim_top ‹_› ‹_› hk hv hl hwf) hlt))
 ·
  have hp6:=of_decide_eq_false hc1
  replace S:=S.boolIs 0 rfl hc1
  refine S.skipG 0 rfl rfl rfl rfl rfl rfl fun a w G S=>?_
  refine S.skipG 1 rfl rfl rfl rfl rfl rfl fun a w G S=>?_
  refine S.skipG 2 rfl rfl rfl rfl rfl rfl fun a w G S=>?_
  refine S.skipG 3 rfl rfl rfl rfl rfl rfl fun a w G S=>?_
  refine S.skipG 4 rfl rfl rfl rfl rfl rfl fun a w G S=>?_
  refine S.skipG 5 rfl rfl rfl rfl rfl rfl fun a w G S=>?_
  refine S.skipG 6 rfl rfl rfl rfl rfl rfl fun a w G S=>?_
  refine S.s (τ:=BT false) (OpR.pick S.ok rfl (S.e 7 rfl) rfl) rfl fun a w G S=>?_
  refine wn hK ?_;clear hK K
  replace S:=S.d12.d11.d10.d9.d8.d7.d6.d5.d4.d3.d2.d1
  refine wp_cond_false (S.e 0 rfl) ?_
  refine wp_exit (then_exit (then_exit (exit_same ?_)))
  clear hK K
  refine hK _ _ ?_;clear hK K
  refine wp_reg fun K hK=>?_
  refine S.m rfl (S.g 1 rfl) rfl fun a w G S=>?_
  replace S:=S.d3
  refine S.q rfl (S.g 0 rfl) rfl fun a w G S=>?_
  refine wn hK ?_;clear hK K
  replace S:=S.d1
  exact wp_ret (S.retTmp rfl (SL.toSN (S.g 0 rfl) (by first | exact rtrim_zero ‹_› hv hl | exact rtrim_top ‹_› ‹_› hk hv hl hwf) hlt))
theorem rbits_ok {na x : Nat} {v1 : Value} {W0 : World} {G0 : Gh} (hok : Gok W0 G0) (h1 : (SN na x).t v1 G0)  : Calls Tryz.prog 179 #[v1] W0 (Ret W0 G0 (NT (blen x))):=by
 have hlim:=SL.lim (SN.toSL h1)
 simp only [LIM] at hlim
 have hdt:=dig_lt (wfl_words x) ((words x).length - 1)
 have hbt:=blen_le (n:=dig (words x) ((words x).length - 1)) (k:=32) (by omega)
 refine St.enter (N:=25) (L:=[(0,SN na x)]) (args:=[v1]) Tryz.func179 rfl rfl rfl hok (enter1 h1) fun a S=>?_
 refine wp_reg fun K hK=>?_
 refine S.s (τ:=NT 0) (OpR.asn S.ok rfl (rfl : _ = nv .i64 0)) rfl fun a w G S=>?_
 refine wn hK ?_;clear hK K
 refine wp_seq_k fun K hK=>?_
 refine wp_reg fun K hK=>?_
 refine S.m rfl (S.g 1 rfl) rfl fun a w G S=>?_
 refine S.s (OpR.lenL S.ok rfl Tryz.underlying55 (SN.toSL (S.g 0 rfl)) MT.self) rfl fun a w G S=>?_
 refine S.s (OpR.neql S.ok rfl (S.e 0 rfl) (rfl : _ = nv .i64 0) MT.self) rfl fun a w G S=>?_
 refine wn hK ?_;clear hK K
 replace S:=S.d2.d1
 refine S.cond 0 rfl (fun hc1=>?_) (fun hc1=>?_)
 ·
  have hp2:=of_decide_eq_true hc1
  have hx0:=len_zero hp2
  refine wp_reg fun K hK=>?_
  replace S:=S.d1
  refine S.s (τ:=NT 0) (OpR.asn S.ok rfl (rfl : _ = nv .i64 0)) rfl fun a w G S=>?_
  refine wn hK ?_;clear hK K
  exact wp_ret (then_ret (S.retTmp rfl ((S.e 0 rfl).trans (nv_eq (by rw [hx0];rfl)))))
 ·
  have hp3:=of_decide_eq_false hc1
  have hx0 : x ≠ 0:=fun e=>hp3 (by rw [e,words_zero];rfl)
  have hbw:=blen_words hx0
  refine wp_skip ?_
  refine hK _ _ ?_;clear hK K
  refine wp_reg fun K hK=>?_
  refine S.m rfl (S.g 2 rfl) rfl fun a w G S=>?_
  refine S.s (OpR.lenL S.ok rfl Tryz.underlying55 (SN.toSL (S.g 0 rfl)) MT.self) rfl fun a w G S=>?_
  refine S.s (OpR.nsub S.ok rfl (S.e 0 rfl) (rfl : _ = nv .i64 1) (by omega) (wr_i64 (by omega)) MT.self) rfl fun a w G S=>?_
  refine S.s (OpR.nmul S.ok rfl (rfl : _ = nv .i64 32) (S.e 0 rfl) (wr_i64 (by omega)) MT.self) rfl fun a w G S=>?_
  refine S.q rfl (S.g 0 rfl) rfl fun a w G S=>?_
  refine wn hK ?_;clear hK K
  replace S:=S.d4.d3.d2.d1
  refine wp_seq_k fun K hK=>?_
  refine wp_reg fun K hK=>?_
  refine S.m rfl (S.g 3 rfl) rfl fun a w G S=>?_
  refine S.m rfl (S.g 4 rfl) rfl fun a w G S=>?_
  refine S.s (OpR.lenL S.ok rfl Tryz.underlying55 (SN.toSL (S.g 0 rfl)) MT.self) rfl fun a w G S=>?_
  refine S.s (OpR.nsub S.ok rfl (S.e 0 rfl) (rfl : _ = nv .i64 1) (by omega) (wr_i64 (by omega)) MT.self) rfl fun a w G S=>?_
  refine S.s (τ:=PE (none) (MT.ex (nv .u32 (dig (words (x)) (((words (x)).length) - 1))))) (OpR.ixL (i:=((words (x)).length) - 1) S.ok rfl Tryz.underlying55 tS_99 (SN.toSL (S.g 3 rfl)) (S.e 0 rfl) rfl (dig_get (by first | omega | (simp;omega)))) rfl fun a w G S=>?_
  refine S.s (OpR.ldE S.ok rfl tS_99 (S.g 0 rfl)) rfl fun a w G S=>?_
  refine S.q rfl (S.g 0 rfl) rfl fun a w G S=>?_
  refine wn hK ?_;clear hK K
  replace S:=S.d6.d5.d4.d3.d2.d1
  refine wp_block ?_
  replace S:=S.also (t:=4) (τ:=MT.ex (nv .u32 ((dig (words (x)) (((words (x)).length) - 1))))) ((S.e 0 rfl).trans (nv_eq (by first | rfl | omega | (simp only [Nat.zero_add,Nat.add_zero];done) | (simp;done) | (push_cast;omega))))
  refine wp_loopJ (fun μ a w=>∃ (c : Nat) (v : Nat) (G : Gh),μ = v ∧ (c + blen v = blen x) ∧  St W0 G0 25 [(4,MT.ex (nv .u32 (v))),(3,NT c),(7,BT (decide (((words (x)).length) = 0))),(2,NT 0),(0,SN na x)] [] a w G) ((dig (words (x)) (((words (x)).length) - 1))) ⟨32 * (((words (x)).length) - 1),dig (words (x)) (((words (x)).length) - 1),_,rfl,hbw,(S.keep [0,2,3,4,5]).keepB [] (by decide)⟩ ?_
  clear S
  intro μ a w ⟨c,v,G,hm,hc,S⟩
  refine wp_seq_k fun K hK=>?_
  refine wp_reg fun K hK=>?_
  refine S.m rfl (S.g 0 rfl) rfl fun a w G S=>?_
  refine S.s (OpR.ngtr S.ok rfl (S.e 0 rfl) (rfl : _ = nv .u32 0) MT.self) rfl fun a w G S=>?_
  refine wn hK ?_;clear hK K
  replace S:=S.d1
  refine S.cond 0 rfl (fun hc4=>?_) (fun hc4=>?_)
  ·
   have hp5:=of_decide_eq_true hc4
   refine wp_skip ?_
   refine hK _ _ ?_;clear hK K
   refine wp_seq_k fun K hK=>?_
   refine wp_block ?_
   refine wp_region_lit ?_
   refine S.m rfl (S.g 2 rfl) rfl fun a w G S=>?_
   refine S.s (OpR.nadd S.ok rfl (S.e 0 rfl) (rfl : _ = nv .i64 1) (wr_i64 (by omega)) MT.self) rfl fun a w G S=>?_
   replace S:=S.d4
   refine S.q rfl (S.g 0 rfl) rfl fun a w G S=>?_
   refine wpList_nil ?_
   replace S:=S.d2.d1
   refine hK _ _ ?_;clear hK K
   refine wp_region_lit ?_
   refine S.m rfl (S.g 2 rfl) rfl fun a w G S=>?_
   refine S.s (OpR.nshr S.ok rfl (S.e 0 rfl) (rfl : _ = nv .u64 1) (by decide) MT.self) rfl fun a w G S=>?_
   replace S:=S.d4
   refine S.q rfl (S.g 0 rfl) rfl fun a w G S=>?_
   refine wpList_nil ?_
   replace S:=S.d2.d1
   replace S:=S.also (t:=4) (τ:=MT.ex (nv .u32 ((v / 2 ^ 1)))) ((S.e 0 rfl).trans (nv_eq (by first | rfl | omega | (simp only [Nat.zero_add,Nat.add_zero];done) | (simp;done) | (push_cast;omega))))
   exact ⟨(v / 2 ^ 1),(by omega),c + 1,v / 2 ^ 1,_,rfl,(by have:=blen_half ‹_›;omega),(S.keep [0,2,4,5,6]).keepB [] (by decide)⟩
  ·
   have hp6:=of_decide_eq_false hc4
   refine wp_exit (then_exit (then_exit (exit_same ?_)))
   clear hK K
   refine hK _ _ ?_;clear hK K
   refine wp_reg fun K hK=>?_
   refine S.m rfl (S.g 2 rfl) rfl fun a w G S=>?_
   replace S:=S.d5
   refine S.q rfl (S.g 0 rfl) rfl fun a w G S=>?_
   refine wn hK ?_;clear hK K
   replace S:=S.d1
   exact wp_ret (S.retTmp rfl ((S.e 0 rfl).trans (nv_eq (by have : blen v = 0:=(by rw [show v = 0 by omega];rfl);omega))))
theorem rcompare_ok {na nb x y : Nat} {v1 v2 : Value} {W0 : World} {G0 : Gh} (hok : Gok W0 G0) (h1 : (SN na x).t v1 G0) (h2 : (SN nb y).t v2 G0)  : Calls Tryz.prog 148 #[v1,v2] W0 (Ret W0 G0 (IT (cmpN x y))):=by
 have hla:=SL.lim (SN.toSL h1)
 have hlb:=SL.lim (SN.toSL h2)
 simp only [LIM] at hla hlb
 refine St.enter (N:=30) (L:=[(1,SN nb y),(0,SN na x)]) (args:=[v1,v2]) Tryz.func148 rfl rfl rfl hok (enter2 h1 h2) fun a S=>?_
 refine wp_reg fun K hK=>?_
 refine S.s (τ:=NT 0) (OpR.asn S.ok rfl (rfl : _ = nv .i64 0)) rfl fun a w G S=>?_
 refine wn hK ?_;clear hK K
 refine wp_seq_k fun K hK=>?_
 refine wp_reg fun K hK=>?_
 refine S.m rfl (S.g 2 rfl) rfl fun a w G S=>?_
 refine S.s (OpR.lenL S.ok rfl Tryz.underlying55 (SN.toSL (S.g 0 rfl)) MT.self) rfl fun a w G S=>?_
 refine S.m rfl (S.g 3 rfl) rfl fun a w G S=>?_
 refine S.s (OpR.lenL S.ok rfl Tryz.underlying55 (SN.toSL (S.g 0 rfl)) MT.self) rfl fun a w G S=>?_
 refine S.s (OpR.nmax S.ok rfl (S.e 2 rfl) (S.e 0 rfl) MT.self) rfl fun a w G S=>?_
 refine S.s (τ:=IT (((max ((words (x)).length) ((words (y)).length) : Nat) : Int) - ((1 : Nat) : Int))) (OpR.isub S.ok rfl (S.e 0 rfl) (rfl : _ = nv .i64 1) (iw_i64 (by omega) (by omega))) rfl fun a w G S=>?_
 refine S.q rfl (S.g 0 rfl) rfl fun a w G S=>?_
 refine wn hK ?_;clear hK K
 replace S:=S.d6.d5.d4.d3.d2.d1
 refine wp_block ?_
 replace S:=S.also (t:=5) (τ:=IT ((((max (words x).length (words y).length) : Nat) : Int) - ((1 : Nat) : Int))) ((S.e 0 rfl).trans (iv_eq (by first | rfl | omega | (simp only [Nat.zero_add,Nat.add_zero];done) | (simp;done) | (push_cast;omega))))
 refine wp_loopJ (fun μ a w=>∃ (k : Nat) (G : Gh),μ = k ∧ (k ≤ max (words x).length (words y).length) ∧ (val ((words x).drop k) = val ((words y).drop k)) ∧  St W0 G0 30 [(5,IT (((k : Nat) : Int) - ((1 : Nat) : Int))),(4,NT 0),(1,SN nb y),(0,SN na x)] [] a w G) ((max (words x).length (words y).length)) ⟨(max (words x).length (words y).length),_,rfl,(Nat.le_refl _),(by rw [List.drop_of_length_le (by omega),List.drop_of_length_le (by omega)]),(S.keep [0,2,3,4]).keepB [] (by decide)⟩ ?_
 clear S
 intro μ a w ⟨k,G,hm,hkm,he,S⟩
 refine wp_seq_k fun K hK=>?_
 refine wp_reg fun K hK=>?_
 refine S.m rfl (S.g 0 rfl) rfl fun a w G S=>?_
 refine S.s (OpR.igeq S.ok rfl (S.e 0 rfl) (rfl : _ = nv .i64 0) MT.self) rfl fun a w G S=>?_
 refine wn hK ?_;clear hK K
 replace S:=S.d1
 refine S.cond 0 rfl (fun hc1=>?_) (fun hc1=>?_)
 ·
  have hp2:=of_decide_eq_true hc1
  refine wp_skip ?_
  refine hK _ _ ?_;clear hK K
  refine wp_seq_k fun K hK=>?_
  refine wp_block ?_
  refine wp_reg fun K hK=>?_
  have hkk : ((k : Nat) : Int) - ((1 : Nat) : Int) = ((k - 1 : Nat) : Int):=by omega
  refine S.m rfl (S.g 4 rfl) rfl fun a w G S=>?_
  refine S.m rfl (S.g 2 rfl) rfl fun a w G S=>?_
  refine S.s (τ:=MT.ex (nv .u64 (dig (words (x)) (k - 1)))) (OpR.call2 rfl c_166 (rat_ok S.ok (SN.toSL (S.g 1 rfl)) (iv_at (S.g 0 rfl) (by omega)))) rfl fun a w G S=>?_
  refine S.m rfl (S.g 6 rfl) rfl fun a w G S=>?_
  refine S.m rfl (S.g 5 rfl) rfl fun a w G S=>?_
  refine S.s (τ:=MT.ex (nv .u64 (dig (words (y)) (k - 1)))) (OpR.call2 rfl c_166 (rat_ok S.ok (SN.toSL (S.g 1 rfl)) (iv_at (S.g 0 rfl) (by omega)))) rfl fun a w G S=>?_
  refine S.s (OpR.nneq S.ok rfl (S.e 3 rfl) (S.e 0 rfl) MT.self) rfl fun a w G S=>?_
  refine wn hK ?_;clear hK K
  replace S:=S.d6.d5.d4.d3.d2.d1
  refine S.cond 0 rfl (fun hc3=>?_) (fun hc3=>?_)
  ·
   have hp4:=of_decide_eq_true hc3
   refine wp_seq_k fun K hK=>?_
   refine wp_reg fun K hK=>?_
   refine S.m rfl (S.g 5 rfl) rfl fun a w G S=>?_
   refine S.m rfl (S.g 3 rfl) rfl fun a w G S=>?_
   refine S.s (τ:=MT.ex (nv .u64 (dig (words (x)) (k - 1)))) (OpR.call2 rfl c_166 (rat_ok S.ok (SN.toSL (S.g 1 rfl)) (iv_at (S.g 0 rfl) (by omega)))) rfl fun a w G S=>?_
   refine S.m rfl (S.g 7 rfl) rfl fun a w G S=>?_
   refine S.m rfl (S.g 6 rfl) rfl fun a w G S=>?_
   refine S.s (τ:=MT.ex (nv .u64 (dig (words (y)) (k - 1)))) (OpR.call2 rfl c_166 (rat_ok S.ok (SN.toSL (S.g 1 rfl)) (iv_at (S.g 0 rfl) (by omega)))) rfl fun a w G S=>?_
   refine S.s (OpR.nlss S.ok rfl (S.e 3 rfl) (S.e 0 rfl) MT.self) rfl fun a w G S=>?_
   refine wn hK ?_;clear hK K
   replace S:=S.d6.d5.d4.d3.d2.d1
   refine S.cond 0 rfl (fun hc5=>?_) (fun hc5=>?_)
   ·
    have hp6:=of_decide_eq_true hc5
    refine wp_reg fun K hK=>?_
    replace S:=S.d4
    refine S.s (τ:=IT (-1)) (OpR.asn S.ok rfl (rfl : _ = Value.int .i64 (-1))) rfl fun a w G S=>?_
    refine wn hK ?_;clear hK K
    exact wp_ret (then_ret (block_ret (then_ret (then_ret (block_ret (then_ret (S.retTmp rfl ((S.e 0 rfl).trans (iv_eq (cmp_of_lt (lt_of_dig (by omega) he ‹_›)))))))))))
   ·
    have hp7:=of_decide_eq_false hc5
    refine wp_skip ?_
    refine hK _ _ ?_;clear hK K
    refine wp_reg fun K hK=>?_
    replace S:=S.d4
    refine S.s (τ:=NT 1) (OpR.asn S.ok rfl (rfl : _ = nv .i64 1)) rfl fun a w G S=>?_
    refine wn hK ?_;clear hK K
    exact wp_ret (block_ret (then_ret (then_ret (block_ret (then_ret (S.retTmp rfl ((S.e 0 rfl).trans (iv_eq (cmp_of_gt (lt_of_dig (by omega) he.symm (by omega)))))))))))
  ·
   have hp8:=of_decide_eq_false hc3
   refine wp_skip ?_
   refine hK _ _ ?_;clear hK K
   refine wp_region_lit ?_
   refine S.m rfl (S.g 2 rfl) rfl fun a w G S=>?_
   refine S.s (τ:=IT ((((k : Nat) : Int) - ((1 : Nat) : Int)) - 1)) (OpR.isub S.ok rfl (S.e 0 rfl) (rfl : _ = nv .i64 1) (iw_i64 (by omega) (by omega))) rfl fun a w G S=>?_
   replace S:=S.d4
   refine S.q rfl (S.g 0 rfl) rfl fun a w G S=>?_
   refine wpList_nil ?_
   replace S:=S.d2.d1
   replace S:=S.also (t:=5) (τ:=IT ((((k - 1) : Nat) : Int) - ((1 : Nat) : Int))) ((S.e 0 rfl).trans (iv_eq (by first | rfl | omega | (simp only [Nat.zero_add,Nat.add_zero];done) | (simp;done) | (push_cast;omega))))
   exact ⟨(k - 1),(by omega),(k - 1),_,rfl,(by omega),(drop_step (by omega) he ‹_›),(S.keep [0,4,5,6]).keepB [] (by decide)⟩
 ·
  have hp9:=of_decide_eq_false hc1
  refine wp_exit (then_exit (then_exit (exit_same ?_)))
  clear hK K
  refine hK _ _ ?_;clear hK K
  refine wp_reg fun K hK=>?_
  replace S:=S.d2
  refine S.s (τ:=NT 0) (OpR.asn S.ok rfl (rfl : _ = nv .i64 0)) rfl fun a w G S=>?_
  refine wn hK ?_;clear hK K
  exact wp_ret (S.retTmp rfl ((S.e 0 rfl).trans (iv_eq (cmp_of_eq (eq_of_drop (by omega) he)))))
end Go.Proofs.YtboicjlbbbodgaaGreatDoor
namespace Go.Proofs.YtboicjlbbbodgaaGreatDoor
set_option maxHeartbeats 1000000
set_option maxRecDepth 100000
open Go.RowKit (Below)
private theorem c_160 : callable Tryz.prog 160 = true:=by kernel_rfl
theorem rplus_ok {na nb x y : Nat} {v1 v2 : Value} {W0 : World} {G0 : Gh} (hok : Gok W0 G0) (h1 : (SN na x).t v1 G0) (h2 : (SN nb y).t v2 G0) (hna : na ≤ BIG) (hnb : nb ≤ BIG) : Calls Tryz.prog 147 #[v1,v2] W0 (Ret W0 G0 (SN (max na nb + 1) (x + y))):=by
 have hla:=words_length_bits (SN.lt h1)
 have hlb:=words_length_bits (SN.lt h2)
 simp only [BIG] at hna hnb
 have ha:=SN.lt h1
 have hb:=SN.lt h2
 refine St.enter (N:=37) (L:=[(1,SN nb y),(0,SN na x)]) (args:=[v1,v2]) Tryz.func147 rfl rfl rfl hok (enter2 h1 h2) fun a S=>?_
 refine wp_reg fun K hK=>?_
 refine S.s (τ:=MT.ex (Value.slice none 0 0)) (OpR.asn S.ok rfl rfl) rfl fun a w G S=>?_
 refine wn hK ?_;clear hK K
 refine wp_reg fun K hK=>?_
 refine S.s (τ:=MT.ex (Value.slice none 0 0)) (OpR.asn S.ok rfl rfl) rfl fun a w G S=>?_
 refine wn hK ?_;clear hK K
 refine wp_reg fun K hK=>?_
 refine S.s (τ:=MT.ex (nv .u64 (0))) (OpR.asn S.ok rfl (rfl : _ = nv .u64 0)) rfl fun a w G S=>?_
 refine wn hK ?_;clear hK K
 refine wp_seq_k fun K hK=>?_
 refine wp_reg fun K hK=>?_
 refine S.m rfl (S.g 4 rfl) rfl fun a w G S=>?_
 refine S.s (OpR.lenL S.ok rfl Tryz.underlying55 (SN.toSL (S.g 0 rfl)) MT.self) rfl fun a w G S=>?_
 refine S.m rfl (S.g 5 rfl) rfl fun a w G S=>?_
 refine S.s (OpR.lenL S.ok rfl Tryz.underlying55 (SN.toSL (S.g 0 rfl)) MT.self) rfl fun a w G S=>?_
 refine S.s (OpR.nmax S.ok rfl (S.e 2 rfl) (S.e 0 rfl) MT.self) rfl fun a w G S=>?_
 refine S.s (OpR.nadd S.ok rfl (S.e 0 rfl) (rfl : _ = nv .i64 1) (wr_i64 (by omega)) MT.self) rfl fun a w G S=>?_
 refine S.s (τ:=NT 0) (OpR.mv S.ok rfl (rfl : _ = nv .i64 0)) rfl fun a w G S=>?_
 refine wn hK ?_;clear hK K
 replace S:=S.d6.d5.d4.d3.d2
 refine wp_block ?_
 replace S:=S.also (t:=5) (τ:=MT.ex ((Value.slice none 0 0))) ((S.e 3 rfl).trans (by first | rfl | omega | (simp only [Nat.zero_add,Nat.add_zero];done) | (simp;done) | (push_cast;omega)))
 refine wp_loopJ (fun μ a w=>∃ (k : Nat) (c : Nat) (l : List Nat) (v : Value) (own : List BX) (G : Gh),μ = max (words x).length (words y).length + 1 - k ∧ (k ≤ max (words x).length (words y).length + 1) ∧ (c ≤ 1) ∧ (l.length = k) ∧ (wfl l) ∧ (OWN 99 v own l) ∧ (val l + 4294967296 ^ k * c = val ((words x).take k) + val ((words y).take k)) ∧  St W0 G0 37 [(15,NT k),(14,NT ((max ((words (x)).length) ((words (y)).length)) + 1)),(6,MT.ex (nv .u64 (c))),(5,MT.ex (v)),(4,MT.ex (Value.slice none 0 0)),(1,SN nb y),(0,SN na x)] (own) a w G) (max (words x).length (words y).length + 1 - 0) ⟨0,0,[],(Value.slice none 0 0),[],_,rfl,(by omega),(by omega),rfl,wfl_nil,OWN.nil,(by simp [val]),(S.keep [1,2,3,0,5,6,7]).keepB [] (by decide)⟩ ?_
 clear S
 intro μ a w ⟨k,c,l,v,own,G,hm,hk,hc,hl,hw,hr,hv,S⟩
 have hda:=dig_lt (wfl_words x) k
 have hdb:=dig_lt (wfl_words y) k
 refine wp_reg fun K hK=>?_
 refine S.s (OpR.nlss S.ok rfl (S.e 0 rfl) (S.e 1 rfl) MT.self) rfl fun a w G S=>?_
 refine wn hK ?_;clear hK K
 refine wp_seq_k fun K hK=>?_
 refine S.cond 0 rfl (fun hc1=>?_) (fun hc1=>?_)
 ·
  have hp2:=of_decide_eq_true hc1
  refine wp_skip ?_
  refine hK _ _ ?_;clear hK K
  refine wp_seq_k fun K hK=>?_
  refine wp_block ?_
  refine wp_reg fun K hK=>?_
  refine S.m rfl (S.g 1 rfl) rfl fun a w G S=>?_
  refine S.q rfl (S.g 0 rfl) rfl fun a w G S=>?_
  refine wn hK ?_;clear hK K
  replace S:=S.d1
  refine wp_reg fun K hK=>?_
  refine S.m rfl (S.g 8 rfl) rfl fun a w G S=>?_
  refine S.m rfl (S.g 1 rfl) rfl fun a w G S=>?_
  refine S.s (τ:=MT.ex (nv .u64 (dig (words (x)) k))) (OpR.call2 rfl c_166 (rat_ok S.ok (SN.toSL (S.g 1 rfl)) (S.g 0 rfl))) rfl fun a w G S=>?_
  refine S.m rfl (S.g 10 rfl) rfl fun a w G S=>?_
  refine S.m rfl (S.g 4 rfl) rfl fun a w G S=>?_
  refine S.s (τ:=MT.ex (nv .u64 (dig (words (y)) k))) (OpR.call2 rfl c_166 (rat_ok S.ok (SN.toSL (S.g 1 rfl)) (S.g 0 rfl))) rfl fun a w G S=>?_
  refine S.s (OpR.nadd S.ok rfl (S.e 3 rfl) (S.e 0 rfl) (wr_u64 (by omega)) MT.self) rfl fun a w G S=>?_
  refine S.m rfl (S.g 11 rfl) rfl fun a w G S=>?_
  refine S.s (OpR.nadd S.ok rfl (S.e 1 rfl) (S.e 0 rfl) (wr_u64 (by omega)) MT.self) rfl fun a w G S=>?_
  refine S.q rfl (S.g 0 rfl) rfl fun a w G S=>?_
  refine wn hK ?_;clear hK K
  replace S:=S.d10.d9.d8.d7.d6.d5.d4.d3.d2.d1
  refine wp_region_lit ?_
  refine S.m rfl (S.g 5 rfl) rfl fun a w G S=>?_
  refine S.m rfl (S.g 1 rfl) rfl fun a w G S=>?_
  refine S.s (OpR.nconv32 S.ok rfl (S.e 0 rfl) it_139 it_99 MT.self) rfl fun a w G S=>?_
  refine S.s (τ:=SL ([(((dig (words (x)) k) + (dig (words (y)) k)) + c) % 4294967296])) (OpR.build32 S.ok rfl Tryz.underlying55 el_99 (by omega) rfl (by simp [wfl] <;> omega) (fill1 (S.e 0 rfl))) rfl fun a w G S=>?_
  refine S.app1 (Bh:=[]) (own:=own) (l:=l) (z:=(dig (words x) k + dig (words y) k + c) % 4294967296) rfl rfl rfl Tryz.underlying55 el_99 (S.e 3 rfl) hr (S.g 0 rfl) (by simp only [LIM];omega) rfl rfl fun v1 own1 a w G hr1 S=>?_
  replace S : St W0 G0 37 [(31,MT.ex (v1)),(30,SL ([(((dig (words (x)) k) + (dig (words (y)) k)) + c) % 4294967296])),(29,MT.ex (nv .u32 ((((dig (words (x)) k) + (dig (words (y)) k)) + c) % 4294967296))),(28,MT.ex (nv .u64 (((dig (words (x)) k) + (dig (words (y)) k)) + c))),(27,MT.ex (v)),(8,MT.ex (nv .u64 (((dig (words (x)) k) + (dig (words (y)) k)) + c))),(16,BT (decide (k < ((max ((words (x)).length) ((words (y)).length)) + 1)))),(15,NT k),(14,NT ((max ((words (x)).length) ((words (y)).length)) + 1)),(6,MT.ex (nv .u64 (c))),(5,MT.ex (v)),(4,MT.ex (Value.slice none 0 0)),(1,SN nb y),(0,SN na x)] (own1) a _ _:=S
  refine S.m rfl (S.g 5 rfl) rfl fun a w G S=>?_
  refine S.s (OpR.nshr S.ok rfl (S.e 0 rfl) (rfl : _ = nv .u64 32) (by decide) MT.self) rfl fun a w G S=>?_
  replace S:=S.d12
  refine S.q rfl (S.g 2 rfl) rfl fun a w G S=>?_
  replace S:=S.d12
  refine S.q rfl (S.g 1 rfl) rfl fun a w G S=>?_
  refine wpList_nil ?_
  replace S:=S.d9.d8.d7.d6.d5.d4.d3.d2
  refine hK _ _ ?_;clear hK K
  refine wp_region_lit ?_
  refine S.s (OpR.nadd S.ok rfl (S.e 3 rfl) (rfl : _ = nv .i64 1) (wr_i64 (by omega)) MT.self) rfl fun a w G S=>?_
  replace S:=S.d4
  refine S.m rfl (S.g 0 rfl) rfl fun a w G S=>?_
  refine wpList_nil ?_
  replace S:=S.d1
  replace S:=S.also (t:=6) (τ:=MT.ex (nv .u64 (((((dig (words (x)) k) + (dig (words (y)) k)) + c) / 2 ^ 32)))) ((S.e 1 rfl).trans (nv_eq (by first | rfl | omega | (simp only [Nat.zero_add,Nat.add_zero];done) | (simp;done) | (push_cast;omega))))
  exact ⟨max (words x).length (words y).length + 1 - (k + 1),(by omega),k + 1,(((dig (words (x)) k) + (dig (words (y)) k)) + c) / 2 ^ 32,(l ++ [(dig (words x) k + dig (words y) k + c) % 4294967296]),v1,own1,_,rfl,(by omega),(by omega),(by simp [hl]),(wfl_app hw (Nat.mod_lt _ (by decide))),hr1,(radd_step hl hv),S.keep [1,5,0,3,6,7,8]⟩
 ·
  have hp3:=of_decide_eq_false hc1
  refine wp_exit (then_exit (then_exit (exit_same ?_)))
  clear hK K
  refine hK _ _ ?_;clear hK K
  refine wp_reg fun K hK=>?_
  obtain ⟨Gz,hsl,hle,S⟩:=S.freezeRow (Bh:=[]) hr (by simp only [LIM];omega) hw
  replace S:=S.also (t:=5) (τ:=SL l) ((S.e 4 rfl).symm ▸ hsl)
  replace S : St W0 G0 37 [(5,SL l),(16,BT (decide (k < ((max ((words (x)).length) ((words (y)).length)) + 1)))),(15,NT k),(14,NT ((max ((words (x)).length) ((words (y)).length)) + 1)),(6,MT.ex (nv .u64 (c))),(5,MT.ex (v)),(4,MT.ex (Value.slice none 0 0)),(1,SN nb y),(0,SN na x)] [] a _ _:=S
  refine S.m rfl (S.g 0 rfl) rfl fun a w G S=>?_
  refine S.s (τ:=SN (max na nb + 1) (x + y)) (OpR.call1 rfl c_160 (rtrim_ok S.ok (SL.asSV (S.g 0 rfl) ⟨radd_fin hl ‹_› hk hv hc,add_lt_pow ha hb⟩))) rfl fun a w G S=>?_
  replace S:=S.d8
  refine S.q rfl (S.g 0 rfl) rfl fun a w G S=>?_
  refine wn hK ?_;clear hK K
  replace S:=S.d8.d2.d1
  exact wp_ret (S.retTmp rfl (S.g 0 rfl))
theorem rminus_ok {na nb x y : Nat} {v1 v2 : Value} {W0 : World} {G0 : Gh} (hok : Gok W0 G0) (h1 : (SN na x).t v1 G0) (h2 : (SN nb y).t v2 G0) (hle0 : y ≤ x) : Calls Tryz.prog 149 #[v1,v2] W0 (Ret W0 G0 (SN na (x - y))):=by
 have hlim:=SL.lim (SN.toSL h1)
 have hx:=SN.lt h1
 simp only [LIM] at hlim
 refine St.enter (N:=35) (L:=[(1,SN nb y),(0,SN na x)]) (args:=[v1,v2]) Tryz.func149 rfl rfl rfl hok (enter2 h1 h2) fun a S=>?_
 refine wp_reg fun K hK=>?_
 refine S.s (τ:=MT.ex (Value.slice none 0 0)) (OpR.asn S.ok rfl rfl) rfl fun a w G S=>?_
 refine wn hK ?_;clear hK K
 refine wp_reg fun K hK=>?_
 refine S.s (τ:=MT.ex (Value.slice none 0 0)) (OpR.asn S.ok rfl rfl) rfl fun a w G S=>?_
 refine wn hK ?_;clear hK K
 refine wp_reg fun K hK=>?_
 refine S.s (τ:=MT.ex (nv .u64 (0))) (OpR.asn S.ok rfl (rfl : _ = nv .u64 0)) rfl fun a w G S=>?_
 refine wn hK ?_;clear hK K
 refine wp_seq_k fun K hK=>?_
 refine wp_reg fun K hK=>?_
 refine S.m rfl (S.g 4 rfl) rfl fun a w G S=>?_
 refine S.s (OpR.lenL S.ok rfl Tryz.underlying55 (SN.toSL (S.g 0 rfl)) MT.self) rfl fun a w G S=>?_
 refine S.s (τ:=NT 0) (OpR.mv S.ok rfl (rfl : _ = nv .i64 0)) rfl fun a w G S=>?_
 refine wn hK ?_;clear hK K
 replace S:=S.d2
 refine wp_block ?_
 replace S:=S.also (t:=5) (τ:=MT.ex ((Value.slice none 0 0))) ((S.e 3 rfl).trans (by first | rfl | omega | (simp only [Nat.zero_add,Nat.add_zero];done) | (simp;done) | (push_cast;omega)))
 refine wp_loopJ (fun μ a w=>∃ (k : Nat) (c : Nat) (l : List Nat) (v : Value) (own : List BX) (G : Gh),μ = (words x).length - k ∧ (k ≤ (words x).length) ∧ (c ≤ 1) ∧ (l.length = k) ∧ (wfl l) ∧ (OWN 99 v own l) ∧ (val l + val ((words y).take k) = val ((words x).take k) + 4294967296 ^ k * c) ∧  St W0 G0 35 [(11,NT k),(10,NT ((words (x)).length)),(6,MT.ex (nv .u64 (c))),(5,MT.ex (v)),(4,MT.ex (Value.slice none 0 0)),(1,SN nb y),(0,SN na x)] (own) a w G) ((words x).length - 0) ⟨0,0,[],(Value.slice none 0 0),[],_,rfl,(by omega),(by omega),rfl,wfl_nil,OWN.nil,(by simp [val]),(S.keep [1,2,3,0,5,6,7]).keepB [] (by decide)⟩ ?_
 clear S
 intro μ a w ⟨k,c,l,v,own,G,hm,hk,hc,hl,hw,hr,hv,S⟩
 have hda:=dig_lt (wfl_words x) k
 have hdb:=dig_lt (wfl_words y) k
 refine wp_reg fun K hK=>?_
 refine S.s (OpR.nlss S.ok rfl (S.e 0 rfl) (S.e 1 rfl) MT.self) rfl fun a w G S=>?_
 refine wn hK ?_;clear hK K
 refine wp_seq_k fun K hK=>?_
 refine S.cond 0 rfl (fun hc1=>?_) (fun hc1=>?_)
 ·
  have hp2:=of_decide_eq_true hc1
  refine wp_skip ?_
  refine hK _ _ ?_;clear hK K
  refine wp_seq_k fun K hK=>?_
  refine wp_block ?_
  refine wp_reg fun K hK=>?_
  refine S.m rfl (S.g 1 rfl) rfl fun a w G S=>?_
  refine S.q rfl (S.g 0 rfl) rfl fun a w G S=>?_
  refine wn hK ?_;clear hK K
  replace S:=S.d1
  refine wp_reg fun K hK=>?_
  refine S.m rfl (S.g 8 rfl) rfl fun a w G S=>?_
  refine S.m rfl (S.g 1 rfl) rfl fun a w G S=>?_
  refine S.s (τ:=MT.ex (nv .u64 (dig (words (x)) k))) (OpR.call2 rfl c_166 (rat_ok S.ok (SN.toSL (S.g 1 rfl)) (S.g 0 rfl))) rfl fun a w G S=>?_
  refine S.s (OpR.nadd S.ok rfl (rfl : _ = nv .u64 4294967296) (S.e 0 rfl) (wr_u64 (by omega)) MT.self) rfl fun a w G S=>?_
  refine S.m rfl (S.g 11 rfl) rfl fun a w G S=>?_
  refine S.m rfl (S.g 5 rfl) rfl fun a w G S=>?_
  refine S.s (τ:=MT.ex (nv .u64 (dig (words (y)) k))) (OpR.call2 rfl c_166 (rat_ok S.ok (SN.toSL (S.g 1 rfl)) (S.g 0 rfl))) rfl fun a w G S=>?_
  refine S.s (OpR.nsub S.ok rfl (S.e 3 rfl) (S.e 0 rfl) (by omega) (wr_u64 (by omega)) MT.self) rfl fun a w G S=>?_
  refine S.m rfl (S.g 12 rfl) rfl fun a w G S=>?_
  refine S.s (OpR.nsub S.ok rfl (S.e 1 rfl) (S.e 0 rfl) (by omega) (wr_u64 (by omega)) MT.self) rfl fun a w G S=>?_
  refine S.q rfl (S.g 0 rfl) rfl fun a w G S=>?_
  refine wn hK ?_;clear hK K
  replace S:=S.d11.d10.d9.d8.d7.d6.d5.d4.d3.d2.d1
  refine wp_region_lit ?_
  refine S.m rfl (S.g 5 rfl) rfl fun a w G S=>?_
  refine S.m rfl (S.g 1 rfl) rfl fun a w G S=>?_
  refine S.s (OpR.nconv32 S.ok rfl (S.e 0 rfl) it_139 it_99 MT.self) rfl fun a w G S=>?_
  refine S.s (τ:=SL ([(((4294967296 + (dig (words (x)) k)) - (dig (words (y)) k)) - c) % 4294967296])) (OpR.build32 S.ok rfl Tryz.underlying55 el_99 (by omega) rfl (by simp [wfl] <;> omega) (fill1 (S.e 0 rfl))) rfl fun a w G S=>?_
  refine S.app1 (Bh:=[]) (own:=own) (l:=l) (z:=(4294967296 + dig (words x) k - dig (words y) k - c) % 4294967296) rfl rfl rfl Tryz.underlying55 el_99 (S.e 3 rfl) hr (S.g 0 rfl) (by simp only [LIM];omega) rfl rfl fun v1 own1 a w G hr1 S=>?_
  replace S : St W0 G0 35 [(28,MT.ex (v1)),(27,SL ([(((4294967296 + (dig (words (x)) k)) - (dig (words (y)) k)) - c) % 4294967296])),(26,MT.ex (nv .u32 ((((4294967296 + (dig (words (x)) k)) - (dig (words (y)) k)) - c) % 4294967296))),(25,MT.ex (nv .u64 (((4294967296 + (dig (words (x)) k)) - (dig (words (y)) k)) - c))),(24,MT.ex (v)),(8,MT.ex (nv .u64 (((4294967296 + (dig (words (x)) k)) - (dig (words (y)) k)) - c))),(12,BT (decide (k < ((words (x)).length)))),(11,NT k),(10,NT ((words (x)).length)),(6,MT.ex (nv .u64 (c))),(5,MT.ex (v)),(4,MT.ex (Value.slice none 0 0)),(1,SN nb y),(0,SN na x)] (own1) a _ _:=S
  refine S.m rfl (S.g 5 rfl) rfl fun a w G S=>?_
  refine S.s (OpR.nshr S.ok rfl (S.e 0 rfl) (rfl : _ = nv .u64 32) (by decide) MT.self) rfl fun a w G S=>?_
  refine S.s (OpR.nsub S.ok rfl (rfl : _ = nv .u64 1) (S.e 0 rfl) (by omega) (wr_u64 (by omega)) MT.self) rfl fun a w G S=>?_
  replace S:=S.d13
  refine S.q rfl (S.g 3 rfl) rfl fun a w G S=>?_
  replace S:=S.d13
  refine S.q rfl (S.g 1 rfl) rfl fun a w G S=>?_
  refine wpList_nil ?_
  replace S:=S.d10.d9.d8.d7.d6.d5.d4.d3.d2
  refine hK _ _ ?_;clear hK K
  refine wp_region_lit ?_
  refine S.s (OpR.nadd S.ok rfl (S.e 3 rfl) (rfl : _ = nv .i64 1) (wr_i64 (by omega)) MT.self) rfl fun a w G S=>?_
  replace S:=S.d4
  refine S.m rfl (S.g 0 rfl) rfl fun a w G S=>?_
  refine wpList_nil ?_
  replace S:=S.d1
  replace S:=S.also (t:=6) (τ:=MT.ex (nv .u64 ((1 - ((((4294967296 + (dig (words (x)) k)) - (dig (words (y)) k)) - c) / 2 ^ 32))))) ((S.e 1 rfl).trans (nv_eq (by first | rfl | omega | (simp only [Nat.zero_add,Nat.add_zero];done) | (simp;done) | (push_cast;omega))))
  exact ⟨(words x).length - (k + 1),(by omega),k + 1,1 - ((((4294967296 + (dig (words (x)) k)) - (dig (words (y)) k)) - c) / 2 ^ 32),(l ++ [(4294967296 + dig (words x) k - dig (words y) k - c) % 4294967296]),v1,own1,_,rfl,(by omega),(by omega),(by simp [hl]),(wfl_app hw (Nat.mod_lt _ (by decide))),hr1,(rsub_step hl hda hdb hc hv),S.keep [1,5,0,3,6,7,8]⟩
 ·
  have hp3:=of_decide_eq_false hc1
  refine wp_exit (then_exit (then_exit (exit_same ?_)))
  clear hK K
  refine hK _ _ ?_;clear hK K
  refine wp_reg fun K hK=>?_
  obtain ⟨Gz,hsl,hle,S⟩:=S.freezeRow (Bh:=[]) hr (by simp only [LIM];omega) hw
  replace S:=S.also (t:=5) (τ:=SL l) ((S.e 4 rfl).symm ▸ hsl)
  replace S : St W0 G0 35 [(5,SL l),(12,BT (decide (k < ((words (x)).length)))),(11,NT k),(10,NT ((words (x)).length)),(6,MT.ex (nv .u64 (c))),(5,MT.ex (v)),(4,MT.ex (Value.slice none 0 0)),(1,SN nb y),(0,SN na x)] [] a _ _:=S
  refine S.m rfl (S.g 0 rfl) rfl fun a w G S=>?_
  refine S.s (τ:=SN na (x - y)) (OpR.call1 rfl c_160 (rtrim_ok S.ok (SL.asSV (S.g 0 rfl) ⟨rsub_fin hle0 hl hw ‹_› hk hv hc,by omega⟩))) rfl fun a w G S=>?_
  replace S:=S.d8
  refine S.q rfl (S.g 0 rfl) rfl fun a w G S=>?_
  refine wn hK ?_;clear hK K
  replace S:=S.d8.d2.d1
  exact wp_ret (S.retTmp rfl (S.g 0 rfl))
end Go.Proofs.YtboicjlbbbodgaaGreatDoor
namespace Go.Proofs.YtboicjlbbbodgaaGreatDoor
set_option maxHeartbeats 1000000
set_option maxRecDepth 100000
open Go.RowKit (Below)
theorem rtimes_ok {na nb x y : Nat} {v1 v2 : Value} {W0 : World} {G0 : Gh} (hok : Gok W0 G0) (h1 : (SN na x).t v1 G0) (h2 : (SN nb y).t v2 G0) (hn : na + nb ≤ BIG) : Calls Tryz.prog 175 #[v1,v2] W0 (Ret W0 G0 (SN (na + nb) (x * y))):=by
 have hla:=words_length_bits (SN.lt h1)
 have hlb:=words_length_bits (SN.lt h2)
 simp only [BIG] at hn
 have hx:=SN.lt h1
 have hy:=SN.lt h2
 refine St.enter (N:=68) (L:=[(1,SN nb y),(0,SN na x)]) (args:=[v1,v2]) Tryz.func175 rfl rfl rfl hok (enter2 h1 h2) fun a S=>?_
 refine wp_reg fun K hK=>?_
 refine S.s (τ:=MT.ex (Value.slice none 0 0)) (OpR.asn S.ok rfl rfl) rfl fun a w G S=>?_
 refine wn hK ?_;clear hK K
 refine wp_reg fun K hK=>?_
 refine S.m rfl (S.g 2 rfl) rfl fun a w G S=>?_
 refine S.s (OpR.lenL S.ok rfl Tryz.underlying55 (SN.toSL (S.g 0 rfl)) MT.self) rfl fun a w G S=>?_
 refine S.m rfl (S.g 3 rfl) rfl fun a w G S=>?_
 refine S.s (OpR.lenL S.ok rfl Tryz.underlying55 (SN.toSL (S.g 0 rfl)) MT.self) rfl fun a w G S=>?_
 refine S.s (OpR.nadd S.ok rfl (S.e 2 rfl) (S.e 0 rfl) (wr_i64 (by omega)) MT.self) rfl fun a w G S=>?_
 refine S.mkSlice (n:=((words (x)).length) + ((words (y)).length)) rfl rfl rfl Tryz.underlying55 el_99 (S.e 0 rfl) (S.e 0 rfl) rfl rfl (by omega) (by omega) rfl rfl fun b15 a w G S=>?_
 refine S.q rfl (S.g 0 rfl) rfl fun a w G S=>?_
 refine wn hK ?_;clear hK K
 replace S:=S.d6.d5.d4.d3.d2.d1
 refine wp_seq_k fun K hK=>?_
 refine wp_reg fun K hK=>?_
 refine S.m rfl (S.g 3 rfl) rfl fun a w G S=>?_
 refine S.s (OpR.lenL S.ok rfl Tryz.underlying55 (SN.toSL (S.g 0 rfl)) MT.self) rfl fun a w G S=>?_
 refine S.s (τ:=NT 0) (OpR.mv S.ok rfl (rfl : _ = nv .i64 0)) rfl fun a w G S=>?_
 refine wn hK ?_;clear hK K
 replace S:=S.d2
 refine wp_block ?_
 replace S:=S.castBox (τ':=MT.ex (Value.agg (ucells ((List.replicate (((words (x)).length) + ((words (y)).length)) 0))).toArray)) 0 rfl fun _ h _=>Eq.trans h (congrArg (fun l=>Value.agg (ucells l).toArray) (by simp))
 replace S:=S.n0
 refine wp_loopJ (fun μ a w=>∃ (i : Nat) (o : List Nat) (G : Gh),μ = (words x).length - i ∧ (i ≤ (words x).length) ∧ (o.length = (words x).length + (words y).length) ∧ (wfl o) ∧ (val o = val ((words x).take i) * val (words y)) ∧ (∀ j,i + (words y).length ≤ j → dig o j = 0) ∧  St W0 G0 68 [(18,NT i),(17,NT ((words (x)).length)),(5,MT.ex (Value.slice (some ⟨b15,0,none⟩) (((words (x)).length) + ((words (y)).length)) (((words (x)).length) + ((words (y)).length)))),(4,MT.ex (Value.slice none 0 0)),(1,SN nb y),(0,SN na x)] [⟨b15,99,some (((words (x)).length) + ((words (y)).length)),MT.ex (Value.agg (ucells (o)).toArray)⟩] a w G) ((words x).length - 0) ⟨0,List.replicate (((words (x)).length) + ((words (y)).length)) 0,_,rfl,(by omega),(by simp),(wfl_replicate _),(by simp [val,val_replicate_zero]),(fun j _=>dig_replicate),(S.keep [0,1,2,3,4,5]).keepB [0] (by decide)⟩ ?_
 clear S
 intro μ a w ⟨i,o,G,hm,hi,ho,hw,hv,hz,S⟩
 have hdx:=dig_lt (wfl_words x) i
 refine wp_reg fun K hK=>?_
 refine S.s (OpR.nlss S.ok rfl (S.e 0 rfl) (S.e 1 rfl) MT.self) rfl fun a w G S=>?_
 refine wn hK ?_;clear hK K
 refine wp_seq_k fun K hK=>?_
 refine S.cond 0 rfl (fun hc1=>?_) (fun hc1=>?_)
 ·
  have hp2:=of_decide_eq_true hc1
  refine wp_skip ?_
  refine hK _ _ ?_;clear hK K
  refine wp_seq_k fun K hK=>?_
  refine wp_block ?_
  refine wp_reg fun K hK=>?_
  refine S.m rfl (S.g 1 rfl) rfl fun a w G S=>?_
  refine S.q rfl (S.g 0 rfl) rfl fun a w G S=>?_
  refine wn hK ?_;clear hK K
  replace S:=S.d1
  refine wp_reg fun K hK=>?_
  refine S.s (τ:=MT.ex (nv .u64 (0))) (OpR.asn S.ok rfl (rfl : _ = nv .u64 0)) rfl fun a w G S=>?_
  refine wn hK ?_;clear hK K
  refine wp_seq_k fun K hK=>?_
  refine wp_reg fun K hK=>?_
  refine S.m rfl (S.g 7 rfl) rfl fun a w G S=>?_
  refine S.s (OpR.lenL S.ok rfl Tryz.underlying55 (SN.toSL (S.g 0 rfl)) MT.self) rfl fun a w G S=>?_
  refine S.s (τ:=NT 0) (OpR.mv S.ok rfl (rfl : _ = nv .i64 0)) rfl fun a w G S=>?_
  refine wn hK ?_;clear hK K
  replace S:=S.d2
  refine wp_block ?_
  refine wp_loopJ (fun μ a w=>∃ (k : Nat) (c : Nat) (q : List Nat) (G : Gh),μ = (words y).length - k ∧ (k ≤ (words y).length) ∧ (c < 4294967296) ∧ (q.length = (words x).length + (words y).length) ∧ (wfl q) ∧ (val q + 4294967296 ^ (i + k) * c = val ((words x).take i) * val (words y) + 4294967296 ^ i * dig (words x) i * val ((words y).take k)) ∧ (∀ j,i + (words y).length ≤ j → dig q j = 0) ∧  St W0 G0 68 [(23,NT k),(22,NT ((words (y)).length)),(7,MT.ex (nv .u64 (c))),(6,NT i),(19,BT (decide (i < ((words (x)).length)))),(18,NT i),(17,NT ((words (x)).length)),(5,MT.ex (Value.slice (some ⟨b15,0,none⟩) (((words (x)).length) + ((words (y)).length)) (((words (x)).length) + ((words (y)).length)))),(4,MT.ex (Value.slice none 0 0)),(1,SN nb y),(0,SN na x)] [⟨b15,99,some (((words (x)).length) + ((words (y)).length)),MT.ex (Value.agg (ucells (q)).toArray)⟩] a w G) ((words y).length - 0) ⟨0,0,o,_,rfl,(by omega),(by omega),ho,hw,(by rw [hv];simp [val]),hz,(S.keep [0,1,2,3,4,5,6,7,8,9,10]).keepB [0] (by decide)⟩ ?_
  clear S
  intro μ a w ⟨k,c,q,G,hm,hk,hc,hq,hwq,hvq,hzq,S⟩
  have hdy:=dig_lt (wfl_words y) k
  have hdq:=dig_lt hwq (i + k)
  have hmb:=mul_bound hdx hdy hc hdq
  have hmb2:=mul_bound' hdx hdy hdq
  refine wp_reg fun K hK=>?_
  refine S.s (OpR.nlss S.ok rfl (S.e 0 rfl) (S.e 1 rfl) MT.self) rfl fun a w G S=>?_
  refine wn hK ?_;clear hK K
  refine wp_seq_k fun K hK=>?_
  refine S.cond 0 rfl (fun hc3=>?_) (fun hc3=>?_)
  ·
   have hp4:=of_decide_eq_true hc3
   refine wp_skip ?_
   refine hK _ _ ?_;clear hK K
   refine wp_seq_k fun K hK=>?_
   refine wp_block ?_
   refine wp_reg fun K hK=>?_
   refine S.m rfl (S.g 1 rfl) rfl fun a w G S=>?_
   refine S.q rfl (S.g 0 rfl) rfl fun a w G S=>?_
   refine wn hK ?_;clear hK K
   replace S:=S.d1
   refine wp_seq_k fun K hK=>?_
   refine S.drawn [⟨26,.g (SN na x),[]⟩,⟨27,.g (NT i),[]⟩,⟨28,.g (PE (none) (MT.ex (nv .u32 (dig (words (x)) (i))))),[0,1]⟩,⟨29,.g (MT.ex (nv .u32 (dig (words (x)) (i)))),[2]⟩,⟨30,.g (MT.ex (nv .u64 (dig (words (x)) (i)))),[3]⟩,⟨31,.g (SN nb y),[]⟩,⟨32,.g (NT k),[]⟩,⟨33,.g (PE (none) (MT.ex (nv .u32 (dig (words (y)) (k))))),[5,6]⟩,⟨34,.g (MT.ex (nv .u32 (dig (words (y)) (k)))),[7]⟩,⟨35,.g (MT.ex (nv .u64 (dig (words (y)) (k)))),[8]⟩,⟨36,.g (MT.ex (nv .u64 ((dig (words (x)) (i)) * (dig (words (y)) (k))))),[4,9]⟩,⟨37,.g (MT.ex (Value.slice (some ⟨b15,0,none⟩) (((words (x)).length) + ((words (y)).length)) (((words (x)).length) + ((words (y)).length)))),[]⟩,⟨38,.g (NT i),[]⟩,⟨39,.g (NT k),[]⟩,⟨40,.g (NT (i + k)),[12,13]⟩,⟨41,.g (MT.ex (Value.pointer (some ⟨b15,i + k,none⟩))),[11,14]⟩,⟨42,.g (MT.ex (nv .u32 (dig (q) (i + k)))),[15]⟩,⟨43,.g (MT.ex (nv .u64 (dig (q) (i + k)))),[16]⟩,⟨44,.g (MT.ex (nv .u64 (((dig (words (x)) (i)) * (dig (words (y)) (k))) + (dig (q) (i + k))))),[10,17]⟩,⟨45,.g (MT.ex (nv .u64 (c))),[]⟩,⟨46,.g (MT.ex (nv .u64 (c + (dig (words x) i * dig (words y) k + dig q (i + k))))),[18,19]⟩,⟨9,.g (MT.ex (nv .u64 (c + (dig (words x) i * dig (words y) k + dig q (i + k))))),[20]⟩] mixedOrders (by kernel_rfl)
    ⟨fun a w G S=>.of rfl (OpR.mv S.ok rfl (S.g 12 rfl)),
     fun a w G S=>.of rfl (OpR.mv S.ok rfl (S.g 5 rfl)),
     fun a w G S=>.of rfl (OpR.ixL (i:=i) S.ok rfl Tryz.underlying55 tS_99 (SN.toSL (S.g 0 rfl)) (S.e 1 rfl) rfl (dig_get (by first | omega | (simp;omega)))),
     fun a w G S=>.of rfl (OpR.ldE S.ok rfl tS_99 (S.g 0 rfl)),
     fun a w G S=>.of rfl (OpR.nconv S.ok rfl (S.e 0 rfl) it_99 it_139 (wr_u64 (by omega)) MT.self),
     fun a w G S=>.of rfl (OpR.mv S.ok rfl (S.g 11 rfl)),
     fun a w G S=>.of rfl (OpR.mv S.ok rfl (S.g 0 rfl)),
     fun a w G S=>.of rfl (OpR.ixL (i:=k) S.ok rfl Tryz.underlying55 tS_99 (SN.toSL (S.g 0 rfl)) (S.e 1 rfl) rfl (dig_get (by first | omega | (simp;omega)))),
     fun a w G S=>.of rfl (OpR.ldE S.ok rfl tS_99 (S.g 0 rfl)),
     fun a w G S=>.of rfl (OpR.nconv S.ok rfl (S.e 0 rfl) it_99 it_139 (wr_u64 (by omega)) MT.self),
     fun a w G S=>.of rfl (OpR.nmul S.ok rfl (S.e 0 rfl) (S.e 1 rfl) (wr_u64 (by omega)) MT.self),
     fun a w G S=>.of rfl (OpR.mv S.ok rfl (S.g 9 rfl)),
     fun a w G S=>.of rfl (OpR.mv S.ok rfl (S.g 5 rfl)),
     fun a w G S=>.of rfl (OpR.mv S.ok rfl (S.g 0 rfl)),
     fun a w G S=>.of rfl (OpR.nadd S.ok rfl (S.e 0 rfl) (S.e 1 rfl) (wr_i64 (by omega)) MT.self),
     fun a w G S=>.of rfl (OpR.ixA (i:=i + k) S.ok rfl Tryz.underlying55 tS_99 (S.e 0 rfl) (S.e 1 rfl) rfl (by first | omega | (simp;omega)) (ptr_eq (by simp only [Option.getD_none] <;> omega))),
     fun a w G S=>.of rfl (OpR.ldElem S.ok rfl (S.e 0 rfl) (S.box 0 rfl) tS_99 (dig_get (by first | omega | (simp;omega)))),
     fun a w G S=>.of rfl (OpR.nconv S.ok rfl (S.e 0 rfl) it_99 it_139 (wr_u64 (by omega)) MT.self),
     fun a w G S=>.of rfl (OpR.nadd S.ok rfl (S.e 0 rfl) (S.e 1 rfl) (wr_u64 (by omega)) MT.self),
     fun a w G S=>.of rfl (OpR.mv S.ok rfl (S.g 4 rfl)),
     fun a w G S=>.of rfl (OpR.nadd S.ok rfl (S.e 0 rfl) (S.e 1 rfl) (wr_u64 (by omega)) (nv_eq (by omega))),
     fun a w G S=>.of rfl (OpR.asn S.ok rfl (S.g 0 rfl)),trivial⟩ fun β a w G S=>?_
   replace S : St W0 G0 68 [(9,MT.ex (nv .u64 (c + (dig (words x) i * dig (words y) k + dig q (i + k))))),(8,NT k),(24,BT (decide (k < ((words (y)).length)))),(23,NT k),(22,NT ((words (y)).length)),(7,MT.ex (nv .u64 (c))),(6,NT i),(19,BT (decide (i < ((words (x)).length)))),(18,NT i),(17,NT ((words (x)).length)),(5,MT.ex (Value.slice (some ⟨b15,0,none⟩) (((words (x)).length) + ((words (y)).length)) (((words (x)).length) + ((words (y)).length)))),(4,MT.ex (Value.slice none 0 0)),(1,SN nb y),(0,SN na x)] [⟨b15,99,some (((words (x)).length) + ((words (y)).length)),MT.ex (Value.agg (ucells (q)).toArray)⟩] a _ _:=S.keep [0,22,23,24,25,26,27,28,29,30,31,32,33,34]
   refine wn hK ?_;clear hK K
   refine wp_region_lit ?_
   refine S.m rfl (S.g 10 rfl) rfl fun a w G S=>?_
   refine S.m rfl (S.g 7 rfl) rfl fun a w G S=>?_
   refine S.m rfl (S.g 3 rfl) rfl fun a w G S=>?_
   refine S.s (OpR.nadd S.ok rfl (S.e 1 rfl) (S.e 0 rfl) (wr_i64 (by omega)) MT.self) rfl fun a w G S=>?_
   refine S.m rfl (S.g 4 rfl) rfl fun a w G S=>?_
   refine S.s (OpR.nconv32 S.ok rfl (S.e 0 rfl) it_139 it_99 MT.self) rfl fun a w G S=>?_
   refine S.m rfl (S.g 6 rfl) rfl fun a w G S=>?_
   refine S.s (OpR.nshr S.ok rfl (S.e 0 rfl) (rfl : _ = nv .u64 32) (by decide) MT.self) rfl fun a w G S=>?_
   refine S.s (τ:=MT.ex (Value.pointer (some ⟨b15,i + k,none⟩))) (OpR.ixA (i:=i + k) S.ok rfl Tryz.underlying55 tS_99 (S.e 7 rfl) (S.e 4 rfl) rfl (by first | omega | (simp;omega)) (ptr_eq (by simp only [Option.getD_none] <;> omega))) rfl fun a w G S=>?_
   refine S.setElem 0 (z:=(c + (dig (words x) i * dig (words y) k + dig q (i + k))) % 4294967296) rfl rfl rfl rfl (S.e 0 rfl) tS_99 (S.e 3 rfl) rfl (by first | omega | (simp;omega)) fun w S=>?_
   replace S:=S.n0
   replace S:=S.d14
   refine S.q rfl (S.g 1 rfl) rfl fun a w G S=>?_
   refine wpList_nil ?_
   replace S:=S.d10.d9.d8.d7.d6.d5.d4.d3.d2.d1
   refine hK _ _ ?_;clear hK K
   refine wp_region_lit ?_
   refine S.s (OpR.nadd S.ok rfl (S.e 3 rfl) (rfl : _ = nv .i64 1) (wr_i64 (by omega)) MT.self) rfl fun a w G S=>?_
   replace S:=S.d4
   refine S.m rfl (S.g 0 rfl) rfl fun a w G S=>?_
   refine wpList_nil ?_
   replace S:=S.d1
   replace S:=S.also (t:=7) (τ:=MT.ex (nv .u64 (((c + (dig (words x) i * dig (words y) k + dig q (i + k))) / 2 ^ 32)))) ((S.e 1 rfl).trans (nv_eq (by first | rfl | omega | (simp only [Nat.zero_add,Nat.add_zero];done) | (simp;done) | (push_cast;omega))))
   replace S:=S.castBox (τ':=MT.ex (Value.agg (ucells ((q.set (i + k) ((c + (dig (words x) i * dig (words y) k + dig q (i + k))) % 4294967296)))).toArray)) 0 rfl fun _ h _=>Eq.trans h (congrArg (fun l=>Value.agg (ucells l).toArray) (by simp))
   replace S:=S.n0
   exact ⟨(words y).length - (k + 1),(by omega),k + 1,(c + (dig (words x) i * dig (words y) k + dig q (i + k))) / 2 ^ 32,q.set (i + k) ((c + (dig (words x) i * dig (words y) k + dig q (i + k))) % 4294967296),_,rfl,(by omega),(by omega),(by simpa using hq),(hwq.set (by omega)),(mul_step (by omega) hvq),(fun j hj=>by rw [dig_set (by omega),if_neg (by omega)];exact hzq j hj),(S.keep [1,5,0,6,7,8,9,10,11,12,13]).keepB [0] (by decide)⟩
  ·
   have hp5:=of_decide_eq_false hc3
   refine wp_exit (then_exit (then_exit (exit_same ?_)))
   clear hK K
   refine hK _ _ ?_;clear hK K
   refine wp_region_lit ?_
   refine S.m rfl (S.g 8 rfl) rfl fun a w G S=>?_
   refine S.m rfl (S.g 5 rfl) rfl fun a w G S=>?_
   refine S.m rfl (S.g 12 rfl) rfl fun a w G S=>?_
   refine S.s (OpR.lenL S.ok rfl Tryz.underlying55 (SN.toSL (S.g 0 rfl)) MT.self) rfl fun a w G S=>?_
   refine S.s (OpR.nadd S.ok rfl (S.e 2 rfl) (S.e 0 rfl) (wr_i64 (by omega)) MT.self) rfl fun a w G S=>?_
   refine S.m rfl (S.g 8 rfl) rfl fun a w G S=>?_
   refine S.s (OpR.nconv32 S.ok rfl (S.e 0 rfl) it_139 it_99 MT.self) rfl fun a w G S=>?_
   refine S.s (τ:=MT.ex (Value.pointer (some ⟨b15,i + ((words (y)).length),none⟩))) (OpR.ixA (i:=i + ((words (y)).length)) S.ok rfl Tryz.underlying55 tS_99 (S.e 6 rfl) (S.e 2 rfl) rfl (by first | omega | (simp;omega)) (ptr_eq (by simp only [Option.getD_none] <;> omega))) rfl fun a w G S=>?_
   refine S.setElem 0 (z:=c % 4294967296) rfl rfl rfl rfl (S.e 0 rfl) tS_99 (S.e 1 rfl) rfl (by first | omega | (simp;omega)) fun w S=>?_
   replace S:=S.n0
   refine wpList_nil ?_
   replace S:=S.d7.d6.d5.d4.d3.d2.d1.d0
   refine hK _ _ ?_;clear hK K
   refine wp_region_lit ?_
   refine S.s (OpR.nadd S.ok rfl (S.e 6 rfl) (rfl : _ = nv .i64 1) (wr_i64 (by omega)) MT.self) rfl fun a w G S=>?_
   replace S:=S.d7
   refine S.m rfl (S.g 0 rfl) rfl fun a w G S=>?_
   refine wpList_nil ?_
   replace S:=S.d1
   replace S:=S.castBox (τ':=MT.ex (Value.agg (ucells ((q.set (i + ((words (y)).length)) (c % 4294967296)))).toArray)) 0 rfl fun _ h _=>Eq.trans h (congrArg (fun l=>Value.agg (ucells l).toArray) (by simp))
   replace S:=S.n0
   exact ⟨(words x).length - (i + 1),(by omega),i + 1,q.set (i + ((words (y)).length)) (c % 4294967296),_,rfl,(by omega),(by simpa using hq),(hwq.set (by omega)),(mul_row' ‹_› hk hc (by omega) (hzq _ (by omega)) hvq),(fun j hj=>by rw [dig_set (by omega),if_neg (by omega)];exact hzq j (by omega)),(S.keep [0,7,8,9,10,11]).keepB [0] (by decide)⟩
 ·
  have hp6:=of_decide_eq_false hc1
  refine wp_exit (then_exit (then_exit (exit_same ?_)))
  clear hK K
  refine hK _ _ ?_;clear hK K
  refine wp_reg fun K hK=>?_
  obtain ⟨vz7,Gz7,hz7,hs7,hg7,hle7,S⟩:=S.freeze 0 rfl
  have hsl7 : (SL (o)).t (Value.slice (some ⟨b15,0,none⟩) (((words (x)).length) + ((words (y)).length)) (((words (x)).length) + ((words (y)).length))) Gz7:=SL_frozen hz7 hg7 ⟨ho.symm,Nat.le_refl _⟩ (by simp only [LIM];omega) (by assumption)
  replace S:=S.also (t:=5) (τ:=SL (o)) ((S.e 3 rfl).symm ▸ hsl7)
  replace S : St W0 G0 68 [(5,SL o),(19,BT (decide (i < ((words (x)).length)))),(18,NT i),(17,NT ((words (x)).length)),(4,MT.ex (Value.slice none 0 0)),(1,SN nb y),(0,SN na x)] [] a _ _:=S.keep [0,1,2,3,5,6,7]
  refine S.m rfl (S.g 0 rfl) rfl fun a w G S=>?_
  refine S.s (τ:=SN (na + nb) (x * y)) (OpR.call1 rfl c_160 (rtrim_ok S.ok (SL.asSV (S.g 0 rfl) ⟨times_fin ‹_› hi hv,mul_lt_pow hx hy⟩))) rfl fun a w G S=>?_
  replace S:=S.d6
  refine S.q rfl (S.g 0 rfl) rfl fun a w G S=>?_
  refine wn hK ?_;clear hK K
  replace S:=S.d2.d1
  exact wp_ret (S.retTmp rfl (S.g 0 rfl))
end Go.Proofs.YtboicjlbbbodgaaGreatDoor
namespace Go.Proofs.YtboicjlbbbodgaaGreatDoor
open Go.RowKit (Below)
section
variable {P : Program} {o : Oper} {a : Act} {w : World} {G : Gh} {τ : MT} {W0 : World} {G0 : Gh} {N : Nat} {L : List (Nat × MT)} {B : List BX}
theorem OpR.cutX0 {x z : Operand} {t e b c n hi : Nat} {k' : IntKind} {m' : Int} (hok : Gok w G) (ho : o.op = .slice t x none (some z) none) (ht : P.underlying t = some (.slice e)) (hs : tyS P e none = true)
    (hx : a.eval x = .slice (some ⟨b,0,none⟩) n c) (hz : a.eval z = .int k' m') (hm' : m' = (hi : Int)) (h2 : hi ≤ c) (h : τ.t (.slice (some ⟨b,0,none⟩) hi c) G) : OpR P o a w G τ:=by
  subst hm'
  refine .run hok (v:=.slice (some ⟨b,0,none⟩) hi c) ?_ h
  simp [execOp,ho,hx,hz,Instr.sliceAt,run_underlying ht,Instr.slice,Instr.sliceBounds,Instr.sliceBound,asIntOf,h2,tyS_size hs,addr_add]
theorem St.stepM1 {ops : Array Oper} {rest : List Oper} {Q : Exit → Act → World → Prop} (S : St W0 G0 N L B a w G) (i : Nat) {d f bu n : Nat} {ty : TypeId} {x : Operand} {ats : Array TypeId} {p : Value → List Nat → Prop} (ho : o.op = .call { callee := .value (.func f), args := #[x], argTypes := ats }) (hd : o.dst = some d) (hg : o.guard = none)
    (hc : callable P f = true) (h : Calls P f #[a.eval x] w (RetM W0 G0 G B i bu ty n p)) (hdN : (decide (d < N)) = true) (hf : fresh d L = true)
    (K : ∀ v l a' w' G',p v l → l.length = n → St W0 G0 N ((d,.ex v) :: L) (B.set i ⟨bu,ty,some n,.ex (.agg (ucells l).toArray)⟩) a' w' G' → wpList P ops Q rest a' w') : wpList P ops Q (o :: rest) a w:=S.stepM i ho hd hg hc (by simpa using h) hdN hf K
end
theorem dig_take {q : List Nat} {n i : Nat} (h : i < n) : dig (q.take n) i = dig q i:=by
  unfold dig
  rw [List.getD_eq_getElem?_getD,List.getD_eq_getElem?_getD,List.getElem?_take,if_pos h]
theorem cut_step {us : List Nat} {n k : Nat} (h0 : 0 < k) (hd : dig us (k - 1) = 0) (hv : val (us.take k) = val (us.take n)) : val (us.take (k - 1)) = val (us.take n):=by
  have:=val_take_dig us (k - 1)
  rw [show k - 1 + 1 = k from by omega,hd] at this
  omega
theorem cut_zero {us : List Nat} {n k : Nat} (h0 : ¬ 0 < k) (hv : val (us.take k) = val (us.take n)) : us.take k = words (val (us.take n)):=by
  have : k = 0:=by omega
  subst this
  rw [← hv];simp [val,words_zero]
theorem cut_top {us : List Nat} {n k : Nat} (h0 : 0 < k) (hk : k ≤ us.length) (hd : ¬ dig us (k - 1) = 0) (hv : val (us.take k) = val (us.take n)) (hw : wfl us) : us.take k = words (val (us.take n)):=by
  rw [← hv]
  refine (words_val (hw.take k) ?_).symm
  unfold canl
  rw [List.getLast?_eq_getElem?,List.length_take,Nat.min_eq_left hk,List.getElem?_take,if_pos (by omega)]
  unfold dig at hd
  rw [List.getD_eq_getElem?_getD] at hd
  have hlt : k - 1 < us.length:=by omega
  rw [List.getElem?_eq_getElem hlt] at hd ⊢
  simpa using hd
end Go.Proofs.YtboicjlbbbodgaaGreatDoor
namespace Go.Proofs.YtboicjlbbbodgaaGreatDoor
open Go.RowKit (Below)
def RetO (w : World) (G : Gh) (ty : TypeId) (p : Nat → Nat → List Nat → Prop) : Ending → World → Prop:=fun e w' =>
  ∃ b n c q G',e = .returned (.slice (some ⟨b,0,none⟩) n c) ∧ w.heap.size ≤ b ∧ Nxt w G w' G' ∧ G' b = none ∧ w'.heap[b]? = some (.cells (ucells q).toArray ty (0,0)) ∧ q.length = c ∧ p n c q
section
variable {P : Program} {W0 : World} {G0 : Gh} {N : Nat} {L : List (Nat × MT)} {B Br : List BX} {a : Act} {w : World} {G : Gh} {fn : Func} {o : Oper}
variable {ops : Array Oper} {rest : List Oper} {Q : Exit → Act → World → Prop}
theorem St.stepO (S : St W0 G0 N L B a w G) {d f : Nat} {ty : TypeId} {x : Operand} {ats : Array TypeId} {p : Nat → Nat → List Nat → Prop} (ho : o.op = .call { callee := .value (.func f), args := #[x], argTypes := ats }) (hd : o.dst = some d) (hg : o.guard = none)
    (hc : callable P f = true) (h : Calls P f #[a.eval x] w (RetO w G ty p)) (hdN : (decide (d < N)) = true) (hf : fresh d L = true)
    (K : ∀ b n c q a' w' G',q.length = c → p n c q → St W0 G0 N ((d,.ex (.slice (some ⟨b,0,none⟩) n c)) :: L) (⟨b,ty,some c,.ex (.agg (ucells q).toArray)⟩ :: B) a' w' G' → wpList P ops Q rest a' w') : wpList P ops Q (o :: rest) a w :=
  wpList_plain hg fun K' hK=>by
    have hr : (execOp a.eval o).run P w = .ok (.enter f (#[x].map a.eval)) w:=by
      simp [execOp,ho,resolve,Act.eval,Deferred.ofValue,invoke,run_callFunc hc]
    unfold Oper.wp
    rw [hr]
    have h : Calls P f (#[x].map a.eval) w (RetO w G ty p):=by simpa using h
    refine Calls.mono h fun e w' he=>?_
    obtain ⟨b,n,c,q,G',rfl,hb,hn,hG,hw,hq,hp⟩:=he
    show K' (a.put o.dst _) w'
    rw [hd]
    have hs : Shaped (some c) (.agg (ucells q).toArray):=ucells_shaped hq
    have S1 : St W0 G0 N L (⟨b,ty,some c,.ex (.agg (ucells q).toArray)⟩ :: B) a w' G':={
      nxt:=S.nxt.trans hn
      size:=S.size
      dfr:=S.dfr
      ty:=fun i p h=>p.2.mono hn.le (S.ty i p h)
      bx:=fun i y h=>by
        cases i with
        | zero=>cases h;exact ⟨Nat.le_trans S.nxt.below.size hb,hG,.agg (ucells q).toArray,hw,hs,rfl⟩
        | succ i=>exact (S.bx i y h).nxt hn
      nd:=fun i j y z hy hz hij=>by
        cases i with
        | zero =>
          cases hy
          cases j with
          | zero=>exact absurd rfl hij
          | succ j=>have:=(S.bx j z hz).lt;show b ≠ z.b;omega
        | succ i =>
          cases j with
          | zero=>cases hz;have:=(S.bx i y hy).lt;show y.b ≠ b;omega
          | succ j=>exact S.nd i j y z hy hz (by omega) }
    exact hK _ _ (K b n c q _ _ G' hq hp (S1.put (of_decide_eq_true hdN) hf rfl (Nxt.refl S1.ok)))
theorem St.retO (S : St W0 G0 N L B a w G) (i : Nat) {t b n c : Nat} {ty : TypeId} {q : List Nat} {p : Nat → Nat → List Nat → Prop} (hr : fn.results = #[.tmp t]) (ht : tm a t = .slice (some ⟨b, 0, none⟩) n c) (hi : B[i]? = some ⟨b, ty, some c, .ex (.agg (ucells q).toArray)⟩) (hl : q.length = c) (hp : p n c q) :
    bodyPost P fn (RetO W0 G0 ty p) .ret a w:=by
  obtain ⟨h1,h2,v,hv,hs,htv⟩:=S.bx i _ hi
  cases htv
  exact bodyPost_ret (v:=.slice (some ⟨b,0,none⟩) n c) (by have:=results_tmp hr a.tmps P w;rw [this];exact congrArg (fun v=>Result.ok v w) ht) S.dfr ⟨b,n,c,q,G,rfl,h1,S.nxt,h2,hv,hl,hp⟩
theorem St.build0 (S : St W0 G0 N L B a w G) {d size bytes : Nat} {t e : TypeId} {z : Value} (ho : o.op = .buildSlice t 0 #[]) (hd : o.dst = some d) (hg : o.guard = none) (ht : P.underlying t = some (.slice e)) (he : elS P e size bytes z) (hdN : (decide (d < N)) = true) (hf : fresh d L = true)
    (K : ∀ b a' w' G',St W0 G0 N ((d,.ex (.slice (some ⟨b,0,none⟩) 0 0)) :: L) (⟨b,e,some 0,.ex (.agg (ucells []).toArray)⟩ :: B) a' w' G' → wpList P ops Q rest a' w') : wpList P ops Q (o :: rest) a w :=
  wpList_plain hg fun K' hK=>by
    obtain ⟨i,hi,h1,h2,h3⟩:=elS_of he
    have hr : (execOp a.eval o).run P w = .ok (.value (.slice (some ⟨w.heap.size,0,none⟩) 0 0)) (w.alloc (.cells #[] e)):=by
      simp [execOp,ho,Instr.buildSlice,run_underlying ht,sizeOf,typeInfo,hi,Instr.fill,newRow,show Array.range 0 = #[] from rfl]
    unfold Oper.wp
    rw [hr]
    simp only [Oper.upon,hd]
    have S':=(S.newVar (v:=.agg (ucells []).toArray) (t:=e) (k:=some 0) (τ:=.ex (.agg (ucells []).toArray)) (ucells_shaped rfl) rfl).put (v:=.slice (some ⟨w.heap.size,0,none⟩) 0 0) (of_decide_eq_true hdN) hf (τ:=.ex (.slice (some ⟨w.heap.size,0,none⟩) 0 0)) rfl (Nxt.refl (S.ok.alloc _))
    exact hK _ _ (K w.heap.size _ _ G S')
theorem St.dropB {b0 : Nat} {ty0 : TypeId} {k0 : Option Nat} {τ0 : MT} (S : St W0 G0 N L (BX.mk b0 ty0 k0 τ0 :: B) a w G) : St W0 G0 N L B a w G :=
  { S with bx:=fun i x h=>S.bx (i + 1) x h,nd:=fun i j x y hx hy hij=>S.nd (i + 1) (j + 1) x y hx hy (by omega) }
theorem St.appO {b0 : Nat} {e : TypeId} (S : St W0 G0 N L (⟨b0, e, some 0, .ex (.agg (ucells []).toArray)⟩ :: B) a w G) {d : Nat} {t : TypeId} {x y : Operand} {l : List Nat} (ho : o.op = .call { callee := .builtin .append, args := #[x, y], argTypes := #[t, t] }) (hd : o.dst = some d) (hg : o.guard = none)
    (ht : P.underlying t = some (.slice e)) (he : elS P e 1 4 (u32 0)) (hx : a.eval x = .slice (some ⟨b0,0,none⟩) 0 0) (hy : (SL l).t (a.eval y) G) (hdN : (decide (d < N)) = true) (hf : fresh d L = true)
    (K : ∀ b c q a' w' G',q.length = c → l.length ≤ c → q.take l.length = l → wfl q → St W0 G0 N ((d,.ex (.slice (some ⟨b,0,none⟩) l.length c)) :: L) (⟨b,e,some c,.ex (.agg (ucells q).toArray)⟩ :: B) a' w' G' → wpList P ops Q rest a' w') : wpList P ops Q (o :: rest) a w :=
  wpList_plain hg fun K' hK=>by
    obtain ⟨i,hi,h1,h2,h3⟩:=elS_of he
    obtain ⟨A,c,hy,hlc,hlim,hwf,hcell⟩:=hy
    simp only [LIM] at hlim
    by_cases h0 : l = []
    · subst h0
      have hf0 : (Builtin.firstCells 1 0 (.slice A 0 c)).run P w = .ok #[] w:=by
        cases A with
        | none=>simp [Builtin.firstCells]
        | some ad=>simp [Builtin.firstCells,loadCells,loadCellsFrom]
      simp only [List.length_nil] at hy
      have hr : (execOp a.eval o).run P w = .ok (.value (.slice (some ⟨b0,0,none⟩) 0 0)) w:=by
        simp [execOp,ho,resolve,invoke,builtin,hx,hy,Builtin.append_,run_underlying ht,sizeOf,typeInfo,hi,h1,Builtin.lenOf,hf0,storeCells]
      unfold Oper.wp
      rw [hr]
      simp only [Oper.upon,hd]
      exact hK _ _ (K b0 0 [] _ _ G rfl (Nat.le_refl _) rfl wfl_nil (S.put (of_decide_eq_true hdN) hf rfl (Nxt.refl S.ok)))
    · have hpos : 0 < l.length:=List.length_pos_iff.2 h0
      obtain ⟨b',off,rfl,_⟩:=hcell 0 l[0] (by simp [hpos])
      have hgr:=run_append_grow (P:=P) w t o.type e i (u32 0) ht hi h3 ⟨b0,0,none⟩ 0 0 [] (by simp) (by simp) ⟨b',off,none⟩ l.length c (ucells l) (by simp [ucells,h1]) (fun j v hj=>by
        simp only [ucells,List.getElem?_map,Option.map_eq_some_iff] at hj
        obtain ⟨z,hz,rfl⟩:=hj
        obtain ⟨b2,off2,e,hc⟩:=hcell j z hz
        cases e
        rw [addr_add];exact Gc.cell S.ok hc) (by omega) (by omega) (by rw [h2,Nat.zero_add,nextslicecap_zero hpos];omega)
      simp only [Nat.zero_add] at hgr
      have hge:=grownCap_ge w l.length 0 e
      generalize grownCap w l.length 0 e = cp at *
      have hcells : (([] : List Value).toArray ++ (ucells l).toArray) ++ Builtin.zeroCells (u32 0).cells (cp - l.length) = (ucells (l ++ List.replicate (cp - l.length) 0)).toArray:=by
        have hz : Builtin.zeroCells (u32 0).cells (cp - l.length) = (List.replicate (cp - l.length) (u32 0)).toArray:=by
          apply Array.ext
          · simp [size_zeroCells,Value.cells]
          · intro j h1 h2
            simp [Builtin.zeroCells,Value.cells]
            rw [List.getElem?_eq_getElem (by simp [Nat.mod_one])]
            simp [Nat.mod_one]
        rw [hz];simp [ucells]
      rw [hcells] at hgr
      have hN:=Nxt.drew S.ok
      have S1 : St W0 G0 N L B a w.drew G:=⟨S.dropB.nxt.trans hN,S.size,S.dfr,S.ty,fun j x hx=>(S.dropB.bx j x hx).nxt hN,S.dropB.nd⟩
      have hql : (l ++ List.replicate (cp - l.length) 0).length = cp:=by simp;omega
      have S2:=(S1.newVar (v:=.agg (ucells (l ++ List.replicate (cp - l.length) 0)).toArray) (t:=e) (k:=some cp) (τ:=.ex (.agg (ucells (l ++ List.replicate (cp - l.length) 0)).toArray)) (ucells_shaped hql) rfl).put (v:=.slice (some ⟨w.drew.heap.size,0,none⟩) l.length cp) (of_decide_eq_true hdN) hf (τ:=.ex (.slice (some ⟨w.drew.heap.size,0,none⟩) l.length cp)) rfl (Nxt.refl (S1.ok.alloc _))
      have hr : (execOp a.eval o).run P w = .ok (.value (.slice (some ⟨w.heap.size,0,none⟩) l.length cp)) (w.drew.alloc (.cells (ucells (l ++ List.replicate (cp - l.length) 0)).toArray e)):=by
        simp only [execOp,ho,resolve,Sem.run_bind,Sem.run_pure,Result.andThen_ok,invoke,builtin,List.map_toArray,List.map_cons,List.map_nil,hx,hy,hgr]
      unfold Oper.wp
      rw [hr]
      simp only [Oper.upon,hd]
      exact hK _ _ (K _ cp _ _ _ G hql hge (by simp) (fun x hx=>by
        rcases List.mem_append.1 hx with h | h
        · exact hwf x h
        · rw [List.mem_replicate] at h;omega) S2)
theorem Gle_put {b : Nat} {x : Obj} (h : G b = none) : Gle G (Gput G b x):=fun c y hc=>by
  unfold Gput;split
  · rename_i e;subst e;rw [h] at hc;cases hc
  · exact hc
theorem Gok_put {b : Nat} {x : Obj} (hok : Gok w G) (h : w.heap[b]? = some x) : Gok w (Gput G b x):=fun c y hc=>by
  unfold Gput at hc;split at hc
  · rename_i e;subst e;cases hc;exact h
  · exact hok c y hc
theorem BX.ok.lent {x : BX} {b : Nat} {y : Obj} (h : x.ok W0 w G) (hG : G b = none) (hne : x.b ≠ b) : x.ok W0 w (Gput G b y):=by
  obtain ⟨h1,h2,v,h3,h4,h5⟩:=h
  exact ⟨h1,by unfold Gput;rw [if_neg hne];exact h2,v,h3,h4,x.τ.mono (Gle_put hG) h5⟩
theorem OpR.lent1 {b : Nat} {ty : TypeId} {k : Option Nat} {τ : MT} {r : Value} (hb : BX.ok ⟨b, ty, k, τ⟩ W0 w G)
    (h : ∀ v,τ.t v G → Shaped k v → G b = none → w.heap[b]? = some (.cells v.cells ty (0,0)) → OpR P o a w (Gput G b (.cells v.cells ty (0,0))) (.ex r)) : OpR P o a w G (.ex r):=by
  obtain ⟨h1,h2,v,hv,hs,hvt⟩:=hb
  simp only at h1 h2 hv hs hvt
  intro Q K hK
  refine h v hvt hs h2 hv Q K fun u w' G' hu hN=>?_
  refine hK u w' (fun c=>if c = b then none else G' c) hu ⟨hN.below,fun c hc=>?_,fun c x hc=>?_,fun c x hc=>?_⟩
  · by_cases e : c = b
    · subst e;simp [h2]
    · simp only [if_neg e];rw [hN.agree c hc];unfold Gput;rw [if_neg e]
  · have e : c ≠ b:=fun e=>by rw [e,h2] at hc;cases hc
    simp only [if_neg e]
    exact hN.le c x (Gle_put h2 c x hc)
  · by_cases e : c = b
    · subst e;simp at hc
    · simp only [if_neg e] at hc;exact hN.ok c x hc
theorem OpR.lendPP (S : St W0 G0 N L B a w G) {f b n c b' n' c' i j : Nat} {ty ty' : TypeId} {q q' : List Nat} {x y : Operand} {ats : Array TypeId} {r : Value} (ho : o.op = .call { callee := .value (.func f), args := #[x, y], argTypes := ats }) (hc : callable P f = true)
    (hi : B[i]? = some ⟨b,ty,some c,.ex (.agg (ucells q).toArray)⟩) (hj : B[j]? = some ⟨b',ty',some c',.ex (.agg (ucells q').toArray)⟩) (hij : i ≠ j) (hx : a.eval x = .slice (some ⟨b,0,none⟩) n c) (hy : a.eval y = .slice (some ⟨b',0,none⟩) n' c')
    (hn : n ≤ q.length) (hnc : n ≤ c) (hlim : n ≤ LIM) (hw : wfl q) (hn' : n' ≤ q'.length) (hnc' : n' ≤ c') (hlim' : n' ≤ LIM) (hw' : wfl q')
    (h : ∀ G1,Gok w G1 → (SL (q.take n)).t (a.eval x) G1 → (SL (q'.take n')).t (a.eval y) G1 → Calls P f #[a.eval x,a.eval y] w (Ret w G1 (.ex r))) : OpR P o a w G (.ex r):=by
  refine OpR.lent1 (S.bx i _ hi) fun v hv _ hG hw1=>?_
  have hne : b' ≠ b:=S.nd j i _ _ hj hi (Ne.symm hij)
  refine OpR.lent1 ((S.bx j _ hj).lent hG hne) fun v' hv' _ hG' hw1'=>?_
  have hok:=Gok_put S.ok hw1
  refine OpR.call2 ho hc (h _ (Gok_put hok hw1') ?_ ?_)
  · exact (SL (q.take n)).mono (Gle_put hG') (SL_prefix (u:=v) (ty:=ty) hv (by simp [Gput]) hn hnc hlim hw hx)
  · exact SL_prefix (u:=v') (ty:=ty') hv' (by simp [Gput]) hn' hnc' hlim' hw' hy
theorem St.stepML {bu n b' c' : Nat} {ty ty' : TypeId} {us q' : List Nat} (S : St W0 G0 N L (⟨bu, ty, some n, .ex (.agg (ucells us).toArray)⟩ :: ⟨b', ty', some c', .ex (.agg (ucells q').toArray)⟩ :: []) a w G) {d f n' : Nat} {x y : Operand} {ats : Array TypeId} {p : Value → List Nat → Prop} (ho : o.op = .call { callee := .value (.func f), args := #[x, y], argTypes := ats }) (hd : o.dst = some d) (hg : o.guard = none)
    (hc : callable P f = true) (hy : a.eval y = .slice (some ⟨b',0,none⟩) n' c') (hn' : n' ≤ q'.length) (hnc' : n' ≤ c') (hlim' : n' ≤ LIM) (hw' : wfl q')
    (h : ∀ G1,Gle G G1 → St W0 G0 0 [] (⟨bu,ty,some n,.ex (.agg (ucells us).toArray)⟩ :: []) ⟨#[],[]⟩ w G1 → (SL (q'.take n')).t (a.eval y) G1 → Calls P f #[a.eval x,a.eval y] w (RetM W0 G0 G1 (⟨bu,ty,some n,.ex (.agg (ucells us).toArray)⟩ :: []) 0 bu ty n p)) (hdN : (decide (d < N)) = true) (hf : fresh d L = true)
    (K : ∀ v l a' w' G',p v l → l.length = n → St W0 G0 N ((d,.ex v) :: L) (⟨bu,ty,some n,.ex (.agg (ucells l).toArray)⟩ :: ⟨b',ty',some c',.ex (.agg (ucells q').toArray)⟩ :: []) a' w' G' → wpList P ops Q rest a' w') : wpList P ops Q (o :: rest) a w :=
  wpList_plain hg fun K' hK=>by
    have hr : (execOp a.eval o).run P w = .ok (.enter f (#[x,y].map a.eval)) w:=by
      simp [execOp,ho,resolve,Act.eval,Deferred.ofValue,invoke,run_callFunc hc]
    obtain ⟨h1,h2,v0,hv0,hs0,ht0⟩:=S.bx 1 _ rfl
    have ht0 : v0 = .agg (ucells q').toArray:=ht0
    have hne : ∀ (i : Nat) (x : BX),i ≠ 1 → (⟨bu,ty,some n,.ex (.agg (ucells us).toArray)⟩ :: ⟨b',ty',some c',.ex (.agg (ucells q').toArray)⟩ :: [] : List BX)[i]? = some x → x.b ≠ b':=fun i x hi hx=>S.nd i 1 x _ hx rfl hi
    obtain ⟨v1,G1,hz,_,hG1,hle,S1⟩:=S.freeze 1 rfl
    have hsl:=SL_prefix (u:=v1) (ty:=ty') hz hG1 hn' hnc' hlim' hw' hy
    have hcall:=h G1 hle S1.world hsl
    unfold Oper.wp
    rw [hr]
    have e2 : #[x,y].map a.eval = #[a.eval x,a.eval y]:=by simp
    rw [← e2] at hcall
    refine Calls.mono hcall fun e w' he=>?_
    obtain ⟨v,l,G',rfl,hp,hl,hle',SW⟩:=he
    show K' (a.put o.dst v) w'
    rw [hd]
    have hG'b:=hle' _ _ hG1
    cases hz
    have hwb:=SW.ok _ _ hG'b
    have hleG : Gle G (fun c=>if c = b' then none else G' c):=fun c z hcz=>by
      have e : c ≠ b':=fun e=>by rw [e,h2] at hcz;cases hcz
      simp only [if_neg e];exact hle' _ _ (hle _ _ hcz)
    have hsub : ∀ {τ : MT} {u : Value},τ.t u G → τ.t u (fun c=>if c = b' then none else G' c):=fun {τ u} hu=>τ.mono hleG hu
    have hb0:=SW.bx 0 _ rfl
    obtain ⟨k1,k2,u,hu,hsu,htu⟩:=SW.bx 0 _ rfl
    have S2 : St W0 G0 N L (⟨bu,ty,some n,.ex (.agg (ucells l).toArray)⟩ :: ⟨b',ty',some c',.ex (.agg (ucells q').toArray)⟩ :: []) a w' (fun c=>if c = b' then none else G' c):={
      nxt := ⟨SW.nxt.below, fun c hc => by
          have e : c ≠ b':=fun e=>by have : W0.heap.size ≤ b':=h1;omega
          simp only [if_neg e];exact SW.nxt.agree c hc,S.nxt.le.trans hleG,fun c z hcz=>by
          by_cases e : c = b'
          · subst e;simp at hcz
          · simp only [if_neg e] at hcz;exact SW.ok c z hcz⟩
      size:=S.size
      dfr:=S.dfr
      ty:=fun i pr hpr=>pr.2.mono hleG (S.ty i pr hpr)
      bx:=fun i z hz=>by
        match i,hz with
        | 0,hz=>cases hz;exact ⟨k1,by have:=hne 0 _ (by decide) rfl;simp only [if_neg this];exact k2,u,hu,hsu,htu⟩
        | 1,hz=>cases hz;exact ⟨h1,by simp,_,hwb,by rw [← ht0];exact hs0,rfl⟩
        | i + 2,hz=>simp at hz
      nd:=fun i j y z hy hz hij=>by
        have key : ∀ (i : Nat) (y : BX),(⟨bu,ty,some n,.ex (.agg (ucells l).toArray)⟩ :: ⟨b',ty',some c',.ex (.agg (ucells q').toArray)⟩ :: [] : List BX)[i]? = some y → ∃ y' : BX,(⟨bu,ty,some n,.ex (.agg (ucells us).toArray)⟩ :: ⟨b',ty',some c',.ex (.agg (ucells q').toArray)⟩ :: [] : List BX)[i]? = some y' ∧ y'.b = y.b:=fun i y h=>by
          match i,h with
          | 0,h=>cases h;exact ⟨_,rfl,rfl⟩
          | 1,h=>cases h;exact ⟨_,rfl,rfl⟩
          | i + 2,h=>simp at h
        obtain ⟨y',e1,e2⟩:=key i y hy
        obtain ⟨z',e3,e4⟩:=key j z hz
        rw [← e2,← e4];exact S.nd i j y' z' e1 e3 hij }
    exact hK _ _ (K v l _ _ _ hp hl (S2.put (of_decide_eq_true hdN) hf rfl (Nxt.refl S2.ok)))
end
theorem take_of_take {q l : List Nat} {k : Nat} (h : q.take l.length = l) (hk : k ≤ l.length) : q.take k = l.take k:=by
  have e : (q.take l.length).take k = q.take k:=by rw [List.take_take,Nat.min_eq_left hk]
  rw [← e,h]
theorem dig_of_take {q l : List Nat} {k : Nat} (h : q.take l.length = l) (hk : k < l.length) : dig q k = dig l k:=by
  rw [← dig_take (q:=q) hk,h]
theorem halve_dig {l us : List Nat} {nn k j : Nat} (h : l.drop k = us.drop k) (hj : k ≤ j) : dig (l.take nn) j = dig (us.take nn) j:=by
  have key : l[j]? = us[j]?:=by
    have h1 : (l.drop k)[j - k]? = (us.drop k)[j - k]?:=by rw [h]
    rwa [List.getElem?_drop,List.getElem?_drop,show k + (j - k) = j from by omega] at h1
  unfold dig
  rw [List.getD_eq_getElem?_getD,List.getD_eq_getElem?_getD,List.getElem?_take,List.getElem?_take,key]
theorem halve_or {x y a b : Nat} (hx : x < 4294967296) (ha : a = x) (hb : b = y) : (a / 2 ^ 1 ||| b * 2 ^ 31) % 4294967296 = x / 2 + y % 2 * 2147483648:=by
  subst ha hb
  rw [Nat.or_comm,or_shift (by omega)];omega
theorem halve_step {l us : List Nat} {nn nu k z : Nat} (h1 : k < nn) (hn : nn ≤ nu) (hl : us.length = nu) (hd : l.drop k = us.drop k) (hz : z = dig (us.take nn) k / 2 + dig (us.take nn) (k + 1) % 2 * 2147483648)
    (h : 2 * val (l.take k) + dig (us.take nn) 0 % 2 = val (us.take k) + 4294967296 ^ k * (dig (us.take nn) k % 2)) :
    2 * val ((l.set k z).take (k + 1)) + dig (us.take nn) 0 % 2 = val (us.take (k + 1)) + 4294967296 ^ (k + 1) * (dig (us.take nn) (k + 1) % 2):=by
  have hlk : k < l.length:=by
    have:=congrArg List.length hd
    simp only [List.length_drop] at this;omega
  have e1:=val_take_dig (l.set k z) k
  have e2:=val_take_dig us k
  have e3 : (l.set k z).take k = l.take k:=by rw [List.take_set_of_le (Nat.le_refl _)]
  have e4 : dig (l.set k z) k = z:=by rw [dig_set hlk,if_pos rfl]
  have e5 : dig (us.take nn) k = dig us k:=dig_take h1
  rw [e1,e3,e4,e2,hz,Nat.pow_succ]
  rw [e5] at h ⊢
  generalize 4294967296 ^ k = B at *
  generalize dig us k = d at *
  generalize dig (us.take nn) (k + 1) = e at *
  have e6 : d = d / 2 * 2 + d % 2:=by omega
  generalize d / 2 = p at *
  generalize d % 2 = r at *
  generalize e % 2 = s at *
  subst e6
  have e7 : 2 * (B * (p + s * 2147483648)) = B * (p * 2) + B * 4294967296 * s:=by grind
  have e8 : B * (p * 2 + r) = B * (p * 2) + B * r:=Nat.mul_add ..
  omega
theorem halve_end {l us : List Nat} {nn nu k : Nat} (hl : l.length = nu) (hu : us.length = nu) (hk : ¬ k < nn) (hk' : k ≤ nn) (h : 2 * val (l.take k) + dig (us.take nn) 0 % 2 = val (us.take k) + 4294967296 ^ k * (dig (us.take nn) k % 2)) : val (l.take nn) = val (us.take nn) / 2:=by
  have : k = nn:=by omega
  subst this
  have e : dig (us.take k) k = 0:=dig_out (by simp [List.length_take];omega)
  rw [e] at h
  simp only [Nat.zero_mod,Nat.mul_zero,Nat.add_zero] at h
  omega
end Go.Proofs.YtboicjlbbbodgaaGreatDoor
namespace Go.Proofs.YtboicjlbbbodgaaGreatDoor
set_option maxHeartbeats 1000000
set_option maxRecDepth 100000
open Go.RowKit (Below)
theorem rtrimO_ok {l : List Nat} {v1 : Value} {W0 : World} {G0 : Gh} (hok : Gok W0 G0) (h1 : (SL l).t v1 G0)  : Calls Tryz.prog 160 #[v1] W0 (RetO W0 G0 99 (fun n c q=>wfl q ∧ n ≤ c ∧ q.take n = words (val l))):=by
 have hlim:=SL.lim h1
 have hwf:=SL.wf h1
 simp only [LIM] at hlim
 refine St.enter (N:=25) (L:=[(0,SL l)]) (args:=[v1]) Tryz.func160 rfl rfl rfl hok (enter1 h1) fun a S=>?_
 refine wp_reg fun K hK=>?_
 refine S.s (τ:=MT.ex (Value.slice none 0 0)) (OpR.asn S.ok rfl rfl) rfl fun a w G S=>?_
 refine wn hK ?_;clear hK K
 refine wp_reg fun K hK=>?_
 refine S.build0 rfl rfl rfl Tryz.underlying55 el_99 rfl rfl fun b4 a w G S=>?_
 refine S.m rfl (S.g 2 rfl) rfl fun a w G S=>?_
 refine S.appO rfl rfl rfl Tryz.underlying55 el_99 (S.e 1 rfl) (S.g 0 rfl) rfl rfl fun b6 c6 q6 a w G hqc6 hlc6 hqt6 hqw6 S=>?_
 replace S : St W0 G0 25 [(6,MT.ex (Value.slice (some ⟨b6,0,none⟩) (l.length) (c6))),(5,SL l),(2,MT.ex (Value.slice none 0 0)),(0,SL l)] [⟨b6,99,some (c6),MT.ex (Value.agg (ucells (q6)).toArray)⟩] a _ _:=S.keep [0,1,3,4]
 refine S.q rfl (S.g 0 rfl) rfl fun a w G S=>?_
 refine wn hK ?_;clear hK K
 replace S:=S.d4.d2.d1
 refine wp_seq_k fun K hK=>?_
 refine wp_block ?_
 refine wp_loopJ (fun μ a w=>∃ (k : Nat) (G : Gh),μ = k ∧ (k ≤ l.length) ∧ (val (l.take k) = val l) ∧  St W0 G0 25 [(3,MT.ex (Value.slice (some ⟨b6,0,none⟩) (k) (c6))),(2,MT.ex (Value.slice none 0 0))] [⟨b6,99,some (c6),MT.ex (Value.agg (ucells (q6)).toArray)⟩] a w G) (l.length) ⟨l.length,_,rfl,(Nat.le_refl _),(by rw [List.take_length]),(S.keep [0,1]).keepB [0] (by decide)⟩ ?_
 clear S
 intro μ a w ⟨k,G,hm,hk,hv,S⟩
 refine wp_seq_k fun K hK=>?_
 refine wp_reg fun K hK=>?_
 refine S.m rfl (S.g 0 rfl) rfl fun a w G S=>?_
 refine S.s (OpR.lenA S.ok rfl Tryz.underlying55 (S.e 0 rfl) MT.self) rfl fun a w G S=>?_
 refine S.s (OpR.ngtr S.ok rfl (S.e 0 rfl) (rfl : _ = nv .i64 0) MT.self) rfl fun a w G S=>?_
 refine S.m rfl (S.g 0 rfl) rfl fun a w G S=>?_
 rcases Bool.eq_false_or_eq_true (decide (0 < k)) with hc1 | hc1
 ·
  have hp2:=of_decide_eq_true hc1
  replace S:=S.boolIs 0 rfl hc1
  refine S.stepG 0 (OpR.mv S.ok rfl (S.g 5 rfl)) rfl rfl rfl rfl rfl rfl fun a w G S=>?_
  refine S.stepG 1 (OpR.mv S.ok rfl (S.g 6 rfl)) rfl rfl rfl rfl rfl rfl fun a w G S=>?_
  refine S.stepG 2 (OpR.lenA S.ok rfl Tryz.underlying55 (S.e 0 rfl) MT.self) rfl rfl rfl rfl rfl rfl fun a w G S=>?_
  refine S.stepG 3 (OpR.nsub S.ok rfl (S.e 0 rfl) (rfl : _ = nv .i64 1) (by omega) (wr_i64 (by omega)) MT.self) rfl rfl rfl rfl rfl rfl fun a w G S=>?_
  refine S.stepG (τ:=MT.ex (Value.pointer (some ⟨b6,k - 1,none⟩))) 4 (OpR.ixA (i:=k - 1) S.ok rfl Tryz.underlying55 tS_99 (S.e 3 rfl) (S.e 0 rfl) rfl (by first | omega | (simp;omega)) (ptr_eq (by simp only [Option.getD_none] <;> omega))) rfl rfl rfl rfl rfl rfl fun a w G S=>?_
  refine S.stepG 5 (OpR.ldElem S.ok rfl (S.e 0 rfl) (S.box 0 rfl) tS_99 (dig_get (by first | omega | (simp;omega)))) rfl rfl rfl rfl rfl rfl fun a w G S=>?_
  refine S.stepG 6 (OpR.neql S.ok rfl (S.e 0 rfl) (rfl : _ = nv .u32 0) MT.self) rfl rfl rfl rfl rfl rfl fun a w G S=>?_
  refine S.s (τ:=BT (decide ((dig (q6) (k - 1)) = 0))) (OpR.pick S.ok rfl (S.e 7 rfl) (S.g 0 rfl)) rfl fun a w G S=>?_
  refine wn hK ?_;clear hK K
  replace S:=S.d12.d11.d10.d9.d8.d7.d6.d5.d4.d3.d2.d1
  refine S.cond 0 rfl (fun hc3=>?_) (fun hc3=>?_)
  ·
   have hp4:=of_decide_eq_true hc3
   refine wp_skip ?_
   refine hK _ _ ?_;clear hK K
   refine wp_block ?_
   refine wp_region_lit ?_
   refine S.m rfl (S.g 1 rfl) rfl fun a w G S=>?_
   refine S.m rfl (S.g 2 rfl) rfl fun a w G S=>?_
   refine S.s (OpR.lenA S.ok rfl Tryz.underlying55 (S.e 0 rfl) MT.self) rfl fun a w G S=>?_
   refine S.s (OpR.nsub S.ok rfl (S.e 0 rfl) (rfl : _ = nv .i64 1) (by omega) (wr_i64 (by omega)) MT.self) rfl fun a w G S=>?_
   refine S.s (τ:=MT.ex (Value.slice (some ⟨b6,0,none⟩) (k - 1) (c6))) (OpR.cutX0 S.ok rfl Tryz.underlying55 tS_99 (S.e 3 rfl) (S.e 0 rfl) rfl (by first | omega | (simp;omega)) rfl) rfl fun a w G S=>?_
   replace S:=S.d6
   refine S.q rfl (S.g 0 rfl) rfl fun a w G S=>?_
   refine wpList_nil ?_
   replace S:=S.d5.d4.d3.d2.d1
   replace S:=S.also (t:=3) (τ:=MT.ex (Value.slice (some ⟨b6,0,none⟩) ((k - 1)) (c6))) ((S.e 0 rfl).trans (by first | rfl | omega | (simp only [Nat.zero_add,Nat.add_zero];done) | (simp;done) | (push_cast;omega)))
   exact ⟨(k - 1),(by omega),(k - 1),_,rfl,(by omega),(trim_step ‹_› ((dig_of_take hqt6 (by omega)).symm.trans ‹_›) hv),(S.keep [0,3]).keepB [0] (by decide)⟩
  ·
   have hp5:=of_decide_eq_false hc3
   refine wp_exit (then_exit (then_exit (exit_same ?_)))
   clear hK K
   refine hK _ _ ?_;clear hK K
   refine wp_reg fun K hK=>?_
   refine S.m rfl (S.g 1 rfl) rfl fun a w G S=>?_
   replace S:=S.d3
   refine S.q rfl (S.g 0 rfl) rfl fun a w G S=>?_
   refine wn hK ?_;clear hK K
   replace S:=S.d1
   exact wp_ret (S.retO 0 rfl (S.e 0 rfl) rfl hqc6 ⟨hqw6,by omega,by rw [take_of_take hqt6 hk];first | exact rtrim_zero ‹_› hv rfl | exact trim_words (by omega) (fun h=>absurd ((dig_of_take hqt6 (by omega)).trans h.2) ‹_›) hk hv rfl hwf⟩)
 ·
  have hp6:=of_decide_eq_false hc1
  replace S:=S.boolIs 0 rfl hc1
  refine S.skipG 0 rfl rfl rfl rfl rfl rfl fun a w G S=>?_
  refine S.skipG 1 rfl rfl rfl rfl rfl rfl fun a w G S=>?_
  refine S.skipG 2 rfl rfl rfl rfl rfl rfl fun a w G S=>?_
  refine S.skipG 3 rfl rfl rfl rfl rfl rfl fun a w G S=>?_
  refine S.skipG 4 rfl rfl rfl rfl rfl rfl fun a w G S=>?_
  refine S.skipG 5 rfl rfl rfl rfl rfl rfl fun a w G S=>?_
  refine S.skipG 6 rfl rfl rfl rfl rfl rfl fun a w G S=>?_
  refine S.s (τ:=BT false) (OpR.pick S.ok rfl (S.e 7 rfl) rfl) rfl fun a w G S=>?_
  refine wn hK ?_;clear hK K
  replace S:=S.d12.d11.d10.d9.d8.d7.d6.d5.d4.d3.d2.d1
  refine wp_cond_false (S.e 0 rfl) ?_
  refine wp_exit (then_exit (then_exit (exit_same ?_)))
  clear hK K
  refine hK _ _ ?_;clear hK K
  refine wp_reg fun K hK=>?_
  refine S.m rfl (S.g 1 rfl) rfl fun a w G S=>?_
  replace S:=S.d3
  refine S.q rfl (S.g 0 rfl) rfl fun a w G S=>?_
  refine wn hK ?_;clear hK K
  replace S:=S.d1
  exact wp_ret (S.retO 0 rfl (S.e 0 rfl) rfl hqc6 ⟨hqw6,by omega,by rw [take_of_take hqt6 hk];first | exact rtrim_zero ‹_› hv rfl | exact trim_words (by omega) (fun h=>absurd ((dig_of_take hqt6 (by omega)).trans h.2) ‹_›) hk hv rfl hwf⟩)
theorem rcutO_ok {nn nu : Nat} {us : List Nat} {v1 : Value} {ws : World} {Gs : Gh} {W0 : World} {G0 : Gh} {bu : Nat} {Br : List BX} (S0 : St W0 G0 0 [] (⟨bu,99,some (nu),MT.ex (Value.agg (ucells us).toArray)⟩ :: Br) ⟨#[],[]⟩ ws Gs) (h1 : (MT.ex (Value.slice (some ⟨bu,0,none⟩) (nn) (nu))).t v1 Gs) (husl : us.length = nu) (husw : wfl us) (hnn : nn ≤ nu) (hnu : nn ≤ LIM) : Calls Tryz.prog 178 #[v1] ws (RetM W0 G0 Gs (⟨bu,99,some (nu),MT.ex (Value.agg (ucells us).toArray)⟩ :: Br) 0 bu 99 (nu) (fun v l=>l = us ∧ ∃ k,k ≤ nn ∧ v = Value.slice (some ⟨bu,0,none⟩) k nu ∧ us.take k = words (val (us.take nn)))):=by
 simp only [LIM] at hnu
 refine St.enterM (N:=21) (L:=[(0,MT.ex (Value.slice (some ⟨bu,0,none⟩) (nn) (nu)))]) (args:=[v1]) S0 Tryz.func178 rfl rfl rfl (enter1 h1) fun a S=>?_
 replace S:=S.also (t:=9999) (τ:=GLE Gs) (Gle.refl Gs)
 refine wp_reg fun K hK=>?_
 refine S.s (τ:=MT.ex (Value.slice none 0 0)) (OpR.asn S.ok rfl rfl) rfl fun a w G S=>?_
 refine wn hK ?_;clear hK K
 refine wp_seq_k fun K hK=>?_
 refine wp_block ?_
 refine wp_loopJ (fun μ a w=>∃ (k : Nat) (G : Gh),μ = k ∧ (k ≤ nn) ∧ (val (us.take k) = val (us.take nn)) ∧  St W0 G0 21 [(2,MT.ex (Value.slice none 0 0)),(9999,GLE Gs),(0,MT.ex (Value.slice (some ⟨bu,0,none⟩) (k) (nu)))] (⟨bu,99,some (nu),MT.ex (Value.agg (ucells (us)).toArray)⟩ :: Br) a w G) (nn) ⟨nn,_,rfl,(Nat.le_refl _),rfl,S.keep [0,1,2]⟩ ?_
 clear S
 intro μ a w ⟨k,G,hm,hk,hv,S⟩
 refine wp_seq_k fun K hK=>?_
 refine wp_reg fun K hK=>?_
 refine S.m rfl (S.g 2 rfl) rfl fun a w G S=>?_
 refine S.s (OpR.lenA S.ok rfl Tryz.underlying55 (S.e 0 rfl) MT.self) rfl fun a w G S=>?_
 refine S.s (OpR.ngtr S.ok rfl (S.e 0 rfl) (rfl : _ = nv .i64 0) MT.self) rfl fun a w G S=>?_
 refine S.m rfl (S.g 0 rfl) rfl fun a w G S=>?_
 rcases Bool.eq_false_or_eq_true (decide (0 < k)) with hc1 | hc1
 ·
  have hp2:=of_decide_eq_true hc1
  replace S:=S.boolIs 0 rfl hc1
  refine S.stepG 0 (OpR.mv S.ok rfl (S.g 7 rfl)) rfl rfl rfl rfl rfl rfl fun a w G S=>?_
  refine S.stepG 1 (OpR.mv S.ok rfl (S.g 8 rfl)) rfl rfl rfl rfl rfl rfl fun a w G S=>?_
  refine S.stepG 2 (OpR.lenA S.ok rfl Tryz.underlying55 (S.e 0 rfl) MT.self) rfl rfl rfl rfl rfl rfl fun a w G S=>?_
  refine S.stepG 3 (OpR.nsub S.ok rfl (S.e 0 rfl) (rfl : _ = nv .i64 1) (by omega) (wr_i64 (by omega)) MT.self) rfl rfl rfl rfl rfl rfl fun a w G S=>?_
  refine S.stepG (τ:=MT.ex (Value.pointer (some ⟨bu,k - 1,none⟩))) 4 (OpR.ixA (i:=k - 1) S.ok rfl Tryz.underlying55 tS_99 (S.e 3 rfl) (S.e 0 rfl) rfl (by first | omega | (simp;omega)) (ptr_eq (by simp only [Option.getD_none] <;> omega))) rfl rfl rfl rfl rfl rfl fun a w G S=>?_
  refine S.stepG 5 (OpR.ldElem S.ok rfl (S.e 0 rfl) (S.box 0 rfl) tS_99 (dig_get (by first | omega | (simp;omega)))) rfl rfl rfl rfl rfl rfl fun a w G S=>?_
  refine S.stepG 6 (OpR.neql S.ok rfl (S.e 0 rfl) (rfl : _ = nv .u32 0) MT.self) rfl rfl rfl rfl rfl rfl fun a w G S=>?_
  refine S.s (τ:=BT (decide ((dig (us) (k - 1)) = 0))) (OpR.pick S.ok rfl (S.e 7 rfl) (S.g 0 rfl)) rfl fun a w G S=>?_
  refine wn hK ?_;clear hK K
  replace S:=S.d12.d11.d10.d9.d8.d7.d6.d5.d4.d3.d2.d1
  refine S.cond 0 rfl (fun hc3=>?_) (fun hc3=>?_)
  ·
   have hp4:=of_decide_eq_true hc3
   refine wp_skip ?_
   refine hK _ _ ?_;clear hK K
   refine wp_block ?_
   refine wp_region_lit ?_
   refine S.m rfl (S.g 3 rfl) rfl fun a w G S=>?_
   refine S.m rfl (S.g 4 rfl) rfl fun a w G S=>?_
   refine S.s (OpR.lenA S.ok rfl Tryz.underlying55 (S.e 0 rfl) MT.self) rfl fun a w G S=>?_
   refine S.s (OpR.nsub S.ok rfl (S.e 0 rfl) (rfl : _ = nv .i64 1) (by omega) (wr_i64 (by omega)) MT.self) rfl fun a w G S=>?_
   refine S.s (τ:=MT.ex (Value.slice (some ⟨bu,0,none⟩) (k - 1) (nu))) (OpR.cutX0 S.ok rfl Tryz.underlying55 tS_99 (S.e 3 rfl) (S.e 0 rfl) rfl (by first | omega | (simp;omega)) rfl) rfl fun a w G S=>?_
   replace S:=S.d8
   refine S.q rfl (S.g 0 rfl) rfl fun a w G S=>?_
   refine wpList_nil ?_
   replace S:=S.d5.d4.d3.d2.d1
   replace S:=S.also (t:=0) (τ:=MT.ex (Value.slice (some ⟨bu,0,none⟩) ((k - 1)) (nu))) ((S.e 0 rfl).trans (by first | rfl | omega | (simp only [Nat.zero_add,Nat.add_zero];done) | (simp;done) | (push_cast;omega)))
   exact ⟨(k - 1),(by omega),(k - 1),_,rfl,(by omega),(cut_step ‹_› ‹_› hv),S.keep [3,4,0]⟩
  ·
   have hp5:=of_decide_eq_false hc3
   refine wp_exit (then_exit (then_exit (exit_same ?_)))
   clear hK K
   refine hK _ _ ?_;clear hK K
   refine wp_reg fun K hK=>?_
   refine S.m rfl (S.g 3 rfl) rfl fun a w G S=>?_
   replace S:=S.d2
   refine S.q rfl (S.g 0 rfl) rfl fun a w G S=>?_
   refine wn hK ?_;clear hK K
   replace S:=S.d1
   exact wp_ret (S.retM rfl (S.e 0 rfl) ⟨rfl,k,hk,rfl,by first | exact cut_zero ‹_› hv | exact cut_top ‹_› (by omega) ‹_› hv husw⟩ husl (S.g 2 rfl))
 ·
  have hp6:=of_decide_eq_false hc1
  replace S:=S.boolIs 0 rfl hc1
  refine S.skipG 0 rfl rfl rfl rfl rfl rfl fun a w G S=>?_
  refine S.skipG 1 rfl rfl rfl rfl rfl rfl fun a w G S=>?_
  refine S.skipG 2 rfl rfl rfl rfl rfl rfl fun a w G S=>?_
  refine S.skipG 3 rfl rfl rfl rfl rfl rfl fun a w G S=>?_
  refine S.skipG 4 rfl rfl rfl rfl rfl rfl fun a w G S=>?_
  refine S.skipG 5 rfl rfl rfl rfl rfl rfl fun a w G S=>?_
  refine S.skipG 6 rfl rfl rfl rfl rfl rfl fun a w G S=>?_
  refine S.s (τ:=BT false) (OpR.pick S.ok rfl (S.e 7 rfl) rfl) rfl fun a w G S=>?_
  refine wn hK ?_;clear hK K
  replace S:=S.d12.d11.d10.d9.d8.d7.d6.d5.d4.d3.d2.d1
  refine wp_cond_false (S.e 0 rfl) ?_
  refine wp_exit (then_exit (then_exit (exit_same ?_)))
  clear hK K
  refine hK _ _ ?_;clear hK K
  refine wp_reg fun K hK=>?_
  refine S.m rfl (S.g 3 rfl) rfl fun a w G S=>?_
  replace S:=S.d2
  refine S.q rfl (S.g 0 rfl) rfl fun a w G S=>?_
  refine wn hK ?_;clear hK K
  replace S:=S.d1
  exact wp_ret (S.retM rfl (S.e 0 rfl) ⟨rfl,k,hk,rfl,by first | exact cut_zero ‹_› hv | exact cut_top ‹_› (by omega) ‹_› hv husw⟩ husl (S.g 2 rfl))
end Go.Proofs.YtboicjlbbbodgaaGreatDoor
namespace Go.Proofs.YtboicjlbbbodgaaGreatDoor
set_option maxHeartbeats 1000000
set_option maxRecDepth 100000
open Go.RowKit (Below)
private theorem c_178 : callable Tryz.prog 178 = true:=by kernel_rfl
theorem rhalve_ok {nn nu : Nat} {us : List Nat} {v1 : Value} {ws : World} {Gs : Gh} {W0 : World} {G0 : Gh} {bu : Nat} {Br : List BX} (S0 : St W0 G0 0 [] (⟨bu,99,some (nu),MT.ex (Value.agg (ucells us).toArray)⟩ :: Br) ⟨#[],[]⟩ ws Gs) (h1 : (MT.ex (Value.slice (some ⟨bu,0,none⟩) (nn) (nu))).t v1 Gs) (husl : us.length = nu) (husw : wfl us) (hnn : nn ≤ nu) (hnu : nn ≤ LIM) : Calls Tryz.prog 176 #[v1] ws (RetM W0 G0 Gs (⟨bu,99,some (nu),MT.ex (Value.agg (ucells us).toArray)⟩ :: Br) 0 bu 99 (nu) (fun v l=>wfl l ∧ ∃ k,k ≤ nn ∧ v = Value.slice (some ⟨bu,0,none⟩) k nu ∧ l.take k = words (val (us.take nn) / 2))):=by
 simp only [LIM] at hnu
 refine St.enterM (N:=26) (L:=[(0,MT.ex (Value.slice (some ⟨bu,0,none⟩) (nn) (nu)))]) (args:=[v1]) S0 Tryz.func176 rfl rfl rfl (enter1 h1) fun a S=>?_
 replace S:=S.also (t:=9999) (τ:=GLE Gs) (Gle.refl Gs)
 refine wp_reg fun K hK=>?_
 refine S.s (τ:=MT.ex (Value.slice none 0 0)) (OpR.asn S.ok rfl rfl) rfl fun a w G S=>?_
 refine wn hK ?_;clear hK K
 refine wp_seq_k fun K hK=>?_
 refine wp_reg fun K hK=>?_
 refine S.m rfl (S.g 2 rfl) rfl fun a w G S=>?_
 refine S.s (OpR.lenA S.ok rfl Tryz.underlying55 (S.e 0 rfl) MT.self) rfl fun a w G S=>?_
 refine S.s (τ:=NT 0) (OpR.mv S.ok rfl (rfl : _ = nv .i64 0)) rfl fun a w G S=>?_
 refine wn hK ?_;clear hK K
 replace S:=S.d2
 refine wp_block ?_
 refine wp_loopJ (fun μ a w=>∃ (k : Nat) (l : List Nat) (G : Gh),μ = nn - k ∧ (k ≤ nn) ∧ (l.length = nu) ∧ (wfl l) ∧ (l.drop k = us.drop k) ∧ (2 * val (l.take k) + dig (us.take nn) 0 % 2 = val (us.take k) + 4294967296 ^ k * (dig (us.take nn) k % 2)) ∧  St W0 G0 26 [(6,NT k),(5,NT nn),(2,MT.ex (Value.slice none 0 0)),(9999,GLE Gs),(0,MT.ex (Value.slice (some ⟨bu,0,none⟩) (nn) (nu)))] (⟨bu,99,some (nu),MT.ex (Value.agg (ucells (l)).toArray)⟩ :: Br) a w G) (nn - 0) ⟨0,us,_,rfl,(by omega),husl,husw,rfl,(by simp [val]),S.keep [0,1,2,3,4]⟩ ?_
 clear S
 intro μ a w ⟨k,l,G,hm,hk,hl,hw,hB,hv,S⟩
 have hda:=dig_lt (husw.take nn) k
 have hdb:=dig_lt (husw.take nn) (k + 1)
 have hea:=halve_dig (nn:=nn) hB (Nat.le_refl k)
 have heb:=halve_dig (nn:=nn) (j:=k + 1) hB (by omega)
 refine wp_reg fun K hK=>?_
 refine S.s (OpR.nlss S.ok rfl (S.e 0 rfl) (S.e 1 rfl) MT.self) rfl fun a w G S=>?_
 refine wn hK ?_;clear hK K
 refine wp_seq_k fun K hK=>?_
 refine S.cond 0 rfl (fun hc1=>?_) (fun hc1=>?_)
 ·
  have hp2:=of_decide_eq_true hc1
  refine wp_skip ?_
  refine hK _ _ ?_;clear hK K
  refine wp_seq_k fun K hK=>?_
  refine wp_block ?_
  refine wp_reg fun K hK=>?_
  refine S.m rfl (S.g 1 rfl) rfl fun a w G S=>?_
  refine S.q rfl (S.g 0 rfl) rfl fun a w G S=>?_
  refine wn hK ?_;clear hK K
  replace S:=S.d1
  refine wp_region_lit ?_
  refine S.m rfl (S.g 6 rfl) rfl fun a w G S=>?_
  refine S.m rfl (S.g 1 rfl) rfl fun a w G S=>?_
  refine S.m rfl (S.g 8 rfl) rfl fun a w G S=>?_
  refine S.m rfl (S.g 3 rfl) rfl fun a w G S=>?_
  refine S.s (τ:=MT.ex (nv .u64 (dig (l.take (nn)) k))) (OpR.lendP (n:=nn) (c:=nu) (q:=l) S.ok rfl c_166 (S.box 0 rfl) (by omega) (by omega) (by simp only [LIM];omega) (by assumption) fun G1 hle hok1 hsl=>(rat_ok hok1 (of_val (S.e 1 rfl) hsl) ((NT k).mono hle (S.g 0 rfl)))) rfl fun a w G S=>?_
  refine S.s (OpR.nshr S.ok rfl (S.e 0 rfl) (rfl : _ = nv .u64 1) (by decide) MT.self) rfl fun a w G S=>?_
  refine S.m rfl (S.g 12 rfl) rfl fun a w G S=>?_
  refine S.m rfl (S.g 7 rfl) rfl fun a w G S=>?_
  refine S.s (OpR.nadd S.ok rfl (S.e 0 rfl) (rfl : _ = nv .i64 1) (wr_i64 (by omega)) MT.self) rfl fun a w G S=>?_
  refine S.s (τ:=MT.ex (nv .u64 (dig (l.take (nn)) (k + 1)))) (OpR.lendP (n:=nn) (c:=nu) (q:=l) S.ok rfl c_166 (S.box 0 rfl) (by omega) (by omega) (by simp only [LIM];omega) (by assumption) fun G1 hle hok1 hsl=>(rat_ok hok1 (of_val (S.e 2 rfl) hsl) ((NT (k + 1)).mono hle (S.g 0 rfl)))) rfl fun a w G S=>?_
  refine S.s (OpR.nshl S.ok rfl (S.e 0 rfl) (rfl : _ = nv .u64 31) (by decide) (wr_u64 (by omega)) MT.self) rfl fun a w G S=>?_
  refine S.s (OpR.nor S.ok rfl (S.e 5 rfl) (S.e 0 rfl) (by omega) (by omega) MT.self) rfl fun a w G S=>?_
  refine S.s (OpR.nconv32 S.ok rfl (S.e 0 rfl) it_139 it_99 MT.self) rfl fun a w G S=>?_
  refine S.s (τ:=MT.ex (Value.pointer (some ⟨bu,k,none⟩))) (OpR.ixA (i:=k) S.ok rfl Tryz.underlying55 tS_99 (S.e 12 rfl) (S.e 11 rfl) rfl (by first | omega | (simp;omega)) (ptr_eq (by simp only [Option.getD_none] <;> omega))) rfl fun a w G S=>?_
  refine S.setElem 0 (z:=(((dig (l.take (nn)) k) / 2 ^ 1) ||| ((dig (l.take (nn)) (k + 1)) * 2 ^ 31)) % 4294967296) rfl rfl rfl rfl (S.e 0 rfl) tS_99 (S.e 1 rfl) rfl (by first | omega | (simp;omega)) fun w S=>?_
  replace S:=S.n0
  refine wpList_nil ?_
  replace S:=S.d14.d13.d12.d11.d10.d9.d8.d7.d6.d5.d4.d3.d2.d1.d0
  refine hK _ _ ?_;clear hK K
  refine wp_region_lit ?_
  refine S.s (OpR.nadd S.ok rfl (S.e 1 rfl) (rfl : _ = nv .i64 1) (wr_i64 (by omega)) MT.self) rfl fun a w G S=>?_
  replace S:=S.d2
  refine S.m rfl (S.g 0 rfl) rfl fun a w G S=>?_
  refine wpList_nil ?_
  replace S:=S.d1
  replace S:=S.castBox (τ':=MT.ex (Value.agg (ucells ((l.set (k) ((((dig (l.take (nn)) k) / 2 ^ 1) ||| ((dig (l.take (nn)) (k + 1)) * 2 ^ 31)) % 4294967296)))).toArray)) 0 rfl fun _ h _=>Eq.trans h (congrArg (fun l=>Value.agg (ucells l).toArray) (by simp))
  replace S:=S.n0
  exact ⟨nn - (k + 1),(by omega),k + 1,l.set (k) ((((dig (l.take (nn)) k) / 2 ^ 1) ||| ((dig (l.take (nn)) (k + 1)) * 2 ^ 31)) % 4294967296),_,rfl,(by omega),(by simpa using hl),(hw.set (Nat.mod_lt _ (by decide))),(by rw [drop_set_far (by omega)];exact drop_eq_succ hB),(halve_step (by omega) (by omega) husl hB (halve_or hda hea heb) hv),S.keep [0,2,3,4,5]⟩
 ·
  have hp3:=of_decide_eq_false hc1
  refine wp_exit (then_exit (then_exit (exit_same ?_)))
  clear hK K
  refine hK _ _ ?_;clear hK K
  refine wp_reg fun K hK=>?_
  refine S.m rfl (S.g 5 rfl) rfl fun a w G S=>?_
  refine S.stepM1 0 rfl rfl rfl c_178 (rcutO_ok S.world (S.g 0 rfl) hl hw hnn (by simp only [LIM];omega)) rfl rfl fun vR lR a w G hR hlR S=>?_
  obtain ⟨rfl,j,hj,rfl,hjv⟩:=hR
  replace S:=S.d5
  refine S.q rfl (S.g 0 rfl) rfl fun a w G S=>?_
  refine wn hK ?_;clear hK K
  replace S:=S.d2.d1
  exact wp_ret (S.retM rfl (S.e 0 rfl) ⟨hw,j,hj,rfl,hjv.trans (congrArg words (halve_end hl husl ‹_› hk hv))⟩ hl (S.g 4 rfl))
end Go.Proofs.YtboicjlbbbodgaaGreatDoor
namespace Go.Proofs.YtboicjlbbbodgaaGreatDoor
open Go.RowKit (Below)
def ROW (n c : Nat) (q : List Nat) (z M : Nat) : Prop:=q.length = c ∧ n ≤ c ∧ wfl q ∧ q.take n = words z ∧ n ≤ LIM ∧ z < 2 ^ M
section
variable {n c z M : Nat} {q : List Nat}
theorem ROW.len (h : ROW n c q z M) : q.length = c:=h.1
theorem ROW.le (h : ROW n c q z M) : n ≤ c:=h.2.1
theorem ROW.wf (h : ROW n c q z M) : wfl q:=h.2.2.1
theorem ROW.eq (h : ROW n c q z M) : q.take n = words z:=h.2.2.2.1
theorem ROW.lim (h : ROW n c q z M) : n ≤ LIM:=h.2.2.2.2.1
theorem ROW.lt (h : ROW n c q z M) : z < 2 ^ M:=h.2.2.2.2.2
theorem ROW.cnt (h : ROW n c q z M) : n = (words z).length:=by
  have:=congrArg List.length h.eq
  rw [List.length_take,h.len] at this;have:=h.le;omega
theorem ROW.zero (h : ROW n c q z M) (h0 : n = 0) : z = 0:=len_zero (by rw [← h.cnt];exact h0)
theorem ROW.nz (h : ROW n c q z M) (h0 : ¬ n = 0) : z ≠ 0:=fun e=>h0 (by rw [h.cnt,e,words_zero];rfl)
theorem ROW.pos (h : ROW n c q z M) (h0 : z ≠ 0) : 0 < n:=by rw [h.cnt];exact len_pos_iff.2 h0
theorem ROW.val (h : ROW n c q z M) : val (q.take n) = z:=by rw [h.eq,val_words]
theorem ROW.mk {M n c : Nat} {q : List Nat} {z : Nat} (hq : q.length = c) (hn : n ≤ c) (hw : wfl q) (he : q.take n = words z) (hM : M ≤ BIG) (hz : z < 2 ^ M) : ROW n c q z M:=by
  refine ⟨hq,hn,hw,he,?_,hz⟩
  have:=congrArg List.length he
  rw [List.length_take,hq] at this
  have h2:=words_length_bits hz
  simp only [BIG] at hM;simp only [LIM];omega
theorem ROW.odd (h : ROW n c q z M) (h0 : 0 < n) : dig q 0 % 2 = z % 2:=by
  have e:=h.val
  obtain ⟨x,r,hxr⟩ : ∃ x r,q.take n = x :: r:=by
    cases hq : q.take n with
    | nil=>have h5:=congrArg List.length hq;rw [List.length_take,h.len] at h5;have h6:=h.le;simp only [List.length_nil] at h5;omega
    | cons x r=>exact ⟨x,r,rfl⟩
  have e2 : dig q 0 = x:=by rw [← dig_take h0,hxr];rfl
  rw [hxr] at e
  have e3 : Go.Proofs.YtboicjlbbbodgaaGreatDoor.val (x :: r) = x + 4294967296 * Go.Proofs.YtboicjlbbbodgaaGreatDoor.val r:=rfl
  rw [e3] at e
  rw [e2,← e];omega
theorem ROW.half {n c : Nat} {q l : List Nat} {j : Nat} (h : ROW n c q z M) (hl : l.length = c) (hw : wfl l) (hj : j ≤ n) (he : l.take j = words (Go.Proofs.YtboicjlbbbodgaaGreatDoor.val (q.take n) / 2)) (hM : M ≤ BIG) : ROW j c l (z / 2) M:=by
  rw [h.val] at he
  exact ROW.mk hl (by have:=h.le;omega) hw he hM (by have:=h.lt;omega)
end
theorem wfl_val_lt {l : List Nat} (h : wfl l) : val l < 4294967296 ^ l.length:=val_lt h
theorem take_ge {us vs l : List Nat} {nn c A B : Nat} (hl : (l.take nn).length ≤ nn) (hwl : wfl l) (hA : val (us.take nn) = A) (hB : val (vs.take nn) = B) (hle : B ≤ A) (hc : c ≤ 1) (h : val (l.take nn) + val (vs.take nn) = val (us.take nn) + 4294967296 ^ nn * c) : val (l.take nn) = A - B:=by
  have h1:=wfl_val_lt (hwl.take nn)
  have h2 : 4294967296 ^ (l.take nn).length ≤ 4294967296 ^ nn:=Nat.pow_le_pow_right (by decide) hl
  generalize 4294967296 ^ nn = D at *
  generalize 4294967296 ^ (l.take nn).length = E at *
  rcases Nat.eq_zero_or_pos c with h3 | h3
  · subst h3;rw [Nat.mul_zero] at h;omega
  · have : c = 1:=by omega
    subst this;rw [Nat.mul_one] at h;omega
theorem take_take_words {n nn B : Nat} {q : List Nat} (h : q.take n = words B) (hn : n ≤ nn) : val ((q.take n).take nn) = B:=by
  rw [List.take_take,Nat.min_eq_right hn,h,val_words]
theorem words_len_mono {x y : Nat} (h : x ≤ y) : (words x).length ≤ (words y).length:=by
  rcases Nat.lt_or_ge (words y).length (words x).length with h1 | h1
  · have:=lt_of_len (a:=y) (b:=x) h1;omega
  · exact h1
theorem takeO_step {l us vs : List Nat} {nn k c : Nat} (hk : k < l.length) (hn : k < nn) (ha : dig l k < 4294967296) (hb : dig vs k < 4294967296) (hc : c ≤ 1) (hd : l.drop k = us.drop k) (h : val (l.take k) + val (vs.take k) = val (us.take k) + 4294967296 ^ k * c) :
    val ((l.set k ((4294967296 + dig (l.take nn) k - dig vs k - c) % 4294967296)).take (k + 1)) + val (vs.take (k + 1)) = val (us.take (k + 1)) + 4294967296 ^ (k + 1) * (1 - (4294967296 + dig (l.take nn) k - dig vs k - c) / 2 ^ 32):=by
  rw [dig_take hn];exact rtake_step hk ha hb hc hd h
theorem takeO_end {l us vs : List Nat} {nn k c : Nat} (hk : ¬ k < nn) (hk' : k ≤ nn) (h : val (l.take k) + val (vs.take k) = val (us.take k) + 4294967296 ^ k * c) : val (l.take nn) + val (vs.take nn) = val (us.take nn) + 4294967296 ^ nn * c:=by
  obtain rfl : k = nn:=by omega
  exact h
theorem gcd_half_odd {u w : Nat} (h : Nat.gcd (2 * u) w % 2 = 1) : Nat.gcd u w = Nat.gcd (2 * u) w:=by
  refine Nat.dvd_antisymm (Nat.gcd_dvd_gcd_of_dvd_left w (Nat.dvd_mul_left u 2)) (Nat.dvd_gcd ?_ (Nat.gcd_dvd_right _ _))
  have h1 : Nat.gcd (2 * u) w ∣ 2 * u:=Nat.gcd_dvd_left _ _
  have h2 : Nat.Coprime (Nat.gcd (2 * u) w) 2:=by
    generalize Nat.gcd (2 * u) w = g at *
    unfold Nat.Coprime
    rw [Nat.gcd_comm,Nat.gcd_rec,h];rfl
  exact h2.dvd_of_dvd_mul_left h1
theorem gcd_half {z w g : Nat} (he : z % 2 = 0) (hg : Nat.gcd z w = g) (ho : g % 2 = 1) : Nat.gcd (z / 2) w = g:=by
  have e : z = 2 * (z / 2):=by omega
  rw [e] at hg
  rw [gcd_half_odd (by rw [hg];exact ho),hg]
theorem gcd_half' {z w g : Nat} (he : w % 2 = 0) (hg : Nat.gcd z w = g) (ho : g % 2 = 1) : Nat.gcd z (w / 2) = g:=by
  rw [Nat.gcd_comm];exact gcd_half he (by rw [Nat.gcd_comm];exact hg) ho
theorem gcd_both {u w k x y : Nat} (hu : u % 2 = 0) (hw : w % 2 = 0) (hx : u * 2 ^ k = x) (hy : w * 2 ^ k = y) : u / 2 * 2 ^ (k + 1) = x ∧ w / 2 * 2 ^ (k + 1) = y:=by
  have e1 : u = u / 2 * 2:=by omega
  have e2 : w = w / 2 * 2:=by omega
  constructor
  · rw [Nat.pow_succ,← hx];conv=>rhs;rw [e1]
    rw [Nat.mul_assoc,Nat.mul_comm (2 ^ k) 2,← Nat.mul_assoc]
  · rw [Nat.pow_succ,← hy];conv=>rhs;rw [e2]
    rw [Nat.mul_assoc,Nat.mul_comm (2 ^ k) 2,← Nat.mul_assoc]
theorem gcd_minus {u w g : Nat} (hg : Nat.gcd u w = g) (h : w ≤ u) : Nat.gcd (u - w) w = g:=by
  rw [Nat.gcd_sub_self_left h];exact hg
theorem gcd_odd {u w : Nat} (h : ¬ (u % 2 = 0 ∧ w % 2 = 0)) : Nat.gcd u w % 2 = 1:=by
  rcases Nat.mod_two_eq_zero_or_one (Nat.gcd u w) with h1 | h1
  · exact absurd ⟨Nat.mod_eq_zero_of_dvd (Nat.dvd_trans (Nat.dvd_of_mod_eq_zero h1) (Nat.gcd_dvd_left _ _)),Nat.mod_eq_zero_of_dvd (Nat.dvd_trans (Nat.dvd_of_mod_eq_zero h1) (Nat.gcd_dvd_right _ _))⟩ h
  · exact h1
theorem gcd_scale {u w k x y : Nat} (hx : u * 2 ^ k = x) (hy : w * 2 ^ k = y) : Nat.gcd u w * 2 ^ k = Nat.gcd x y:=by rw [← hx,← hy,Nat.gcd_mul_right]
theorem pow_lt_of {u k x M : Nat} (h0 : u ≠ 0) (hx : u * 2 ^ k = x) (hM : x < 2 ^ M) : k < M:=by
  have : 2 ^ k ≤ x:=by rw [← hx];exact Nat.le_mul_of_pos_left _ (Nat.pos_of_ne_zero h0)
  exact (Nat.pow_lt_pow_iff_right (by decide : 1 < 2)).1 (Nat.lt_of_le_of_lt this hM)
theorem gcd_lt_pow {x y M : Nat} (hx : x ≠ 0) (h : x < 2 ^ M) : Nat.gcd x y < 2 ^ M:=Nat.lt_of_le_of_lt (Nat.gcd_le_left _ (Nat.pos_of_ne_zero hx)) h
theorem twos_lt {g i k t M : Nat} (h : g * 2 ^ k = t) (hi : i < k) (ht : t < 2 ^ M) : g * 2 ^ i + g * 2 ^ i = g * 2 ^ (i + 1) ∧ g * 2 ^ i + g * 2 ^ i < 2 ^ M:=by
  have e : g * 2 ^ i + g * 2 ^ i = g * 2 ^ (i + 1):=by rw [Nat.pow_succ];grind
  refine ⟨e,?_⟩
  rw [e]
  refine Nat.lt_of_le_of_lt ?_ ht
  rw [← h];exact Nat.mul_le_mul_left _ (Nat.pow_le_pow_right (by decide) hi)
section
variable {P : Program} {o : Oper} {a : Act} {w : World} {G : Gh} {τ : MT} {x y : Operand} {k k' : IntKind} {t t' : TypeId} {m n : Nat}
theorem OpR.nand1 (hok : Gok w G) (ho : o.op = .binOp .and t x y t') (hx : a.eval x = nv .u32 m) (hy : a.eval y = nv .u32 1) (hm : m < 4294967296) (h : τ.t (nv .u32 (m % 2)) G) : OpR P o a w G τ :=
  .bits hok ho hx hy (.inl ⟨rfl,by
    have h1 : (BitVec.ofInt 32 (m : Int)).toNat = m:=by simp;omega
    have e : (Value.int .u32 (IntKind.u32.wrap ((BitVec.ofInt IntKind.u32.bits (m : Int) &&& BitVec.ofInt IntKind.u32.bits ((1 : Nat) : Int)).toNat : Int))) = nv .u32 (m % 2):=by
      show Value.int .u32 (IntKind.u32.wrap ((BitVec.ofInt 32 (m : Int) &&& BitVec.ofInt 32 ((1 : Nat) : Int)).toNat : Int)) = _
      rw [BitVec.toNat_and,h1,show (BitVec.ofInt 32 ((1 : Nat) : Int)).toNat = 1 from rfl,Nat.and_one_is_mod]
      congr 1;exact wr_u32 (by omega)
    rw [e];exact h⟩)
theorem OpR.nshlw (hok : Gok w G) (ho : o.op = .binOp .shl t x y t') (hx : a.eval x = nv .u32 m) (hy : a.eval y = nv k' n) (hn : n ≤ IntKind.u32.bits) (h : τ.t (nv .u32 (m * 2 ^ n % 4294967296)) G) : OpR P o a w G τ :=
  .shl hok ho hx hy (by omega) (by
    have e : (m : Int) * (2 : Int) ^ (min (n : Int).toNat IntKind.u32.bits) = ((m * 2 ^ n : Nat) : Int):=by rw [Int.toNat_natCast,Nat.min_eq_left hn];simp
    rw [e];have:=nw_u32 (z:=((m * 2 ^ n : Nat) : Int)) (n:=m * 2 ^ n) rfl;rw [this];exact h)
end
end Go.Proofs.YtboicjlbbbodgaaGreatDoor
namespace Go.Proofs.YtboicjlbbbodgaaGreatDoor
set_option maxHeartbeats 1000000
set_option maxRecDepth 100000
open Go.RowKit (Below)
theorem rcompareL_ok {l q : List Nat} {v1 v2 : Value} {W0 : World} {G0 : Gh} (hok : Gok W0 G0) (h1 : (SL l).t v1 G0) (h2 : (SL q).t v2 G0)  : Calls Tryz.prog 148 #[v1,v2] W0 (Ret W0 G0 (IT (cmpN (val l) (val q)))):=by
 have hla:=SL.lim h1
 have hlb:=SL.lim h2
 have hwl:=SL.wf h1
 have hwq:=SL.wf h2
 simp only [LIM] at hla hlb
 refine St.enter (N:=30) (L:=[(1,SL q),(0,SL l)]) (args:=[v1,v2]) Tryz.func148 rfl rfl rfl hok (enter2 h1 h2) fun a S=>?_
 refine wp_reg fun K hK=>?_
 refine S.s (τ:=NT 0) (OpR.asn S.ok rfl (rfl : _ = nv .i64 0)) rfl fun a w G S=>?_
 refine wn hK ?_;clear hK K
 refine wp_seq_k fun K hK=>?_
 refine wp_reg fun K hK=>?_
 refine S.m rfl (S.g 2 rfl) rfl fun a w G S=>?_
 refine S.s (OpR.lenL S.ok rfl Tryz.underlying55 (S.g 0 rfl) MT.self) rfl fun a w G S=>?_
 refine S.m rfl (S.g 3 rfl) rfl fun a w G S=>?_
 refine S.s (OpR.lenL S.ok rfl Tryz.underlying55 (S.g 0 rfl) MT.self) rfl fun a w G S=>?_
 refine S.s (OpR.nmax S.ok rfl (S.e 2 rfl) (S.e 0 rfl) MT.self) rfl fun a w G S=>?_
 refine S.s (τ:=IT (((max l.length q.length : Nat) : Int) - ((1 : Nat) : Int))) (OpR.isub S.ok rfl (S.e 0 rfl) (rfl : _ = nv .i64 1) (iw_i64 (by omega) (by omega))) rfl fun a w G S=>?_
 refine S.q rfl (S.g 0 rfl) rfl fun a w G S=>?_
 refine wn hK ?_;clear hK K
 replace S:=S.d6.d5.d4.d3.d2.d1
 refine wp_block ?_
 replace S:=S.also (t:=5) (τ:=IT ((((max l.length q.length) : Nat) : Int) - ((1 : Nat) : Int))) ((S.e 0 rfl).trans (iv_eq (by first | rfl | omega | (simp only [Nat.zero_add,Nat.add_zero];done) | (simp;done) | (push_cast;omega))))
 refine wp_loopJ (fun μ a w=>∃ (k : Nat) (G : Gh),μ = k ∧ (k ≤ max l.length q.length) ∧ (val (l.drop k) = val (q.drop k)) ∧  St W0 G0 30 [(5,IT (((k : Nat) : Int) - ((1 : Nat) : Int))),(4,NT 0),(1,SL q),(0,SL l)] [] a w G) ((max l.length q.length)) ⟨(max l.length q.length),_,rfl,(Nat.le_refl _),(by rw [List.drop_of_length_le (by omega),List.drop_of_length_le (by omega)]),(S.keep [0,2,3,4]).keepB [] (by decide)⟩ ?_
 clear S
 intro μ a w ⟨k,G,hm,hkm,he,S⟩
 refine wp_seq_k fun K hK=>?_
 refine wp_reg fun K hK=>?_
 refine S.m rfl (S.g 0 rfl) rfl fun a w G S=>?_
 refine S.s (OpR.igeq S.ok rfl (S.e 0 rfl) (rfl : _ = nv .i64 0) MT.self) rfl fun a w G S=>?_
 refine wn hK ?_;clear hK K
 replace S:=S.d1
 refine S.cond 0 rfl (fun hc1=>?_) (fun hc1=>?_)
 ·
  have hp2:=of_decide_eq_true hc1
  refine wp_skip ?_
  refine hK _ _ ?_;clear hK K
  refine wp_seq_k fun K hK=>?_
  refine wp_block ?_
  refine wp_reg fun K hK=>?_
  have hkk : ((k : Nat) : Int) - ((1 : Nat) : Int) = ((k - 1 : Nat) : Int):=by omega
  refine S.m rfl (S.g 4 rfl) rfl fun a w G S=>?_
  refine S.m rfl (S.g 2 rfl) rfl fun a w G S=>?_
  refine S.s (τ:=MT.ex (nv .u64 (dig l (k - 1)))) (OpR.call2 rfl c_166 (rat_ok S.ok (S.g 1 rfl) (iv_at (S.g 0 rfl) (by omega)))) rfl fun a w G S=>?_
  refine S.m rfl (S.g 6 rfl) rfl fun a w G S=>?_
  refine S.m rfl (S.g 5 rfl) rfl fun a w G S=>?_
  refine S.s (τ:=MT.ex (nv .u64 (dig q (k - 1)))) (OpR.call2 rfl c_166 (rat_ok S.ok (S.g 1 rfl) (iv_at (S.g 0 rfl) (by omega)))) rfl fun a w G S=>?_
  refine S.s (OpR.nneq S.ok rfl (S.e 3 rfl) (S.e 0 rfl) MT.self) rfl fun a w G S=>?_
  refine wn hK ?_;clear hK K
  replace S:=S.d6.d5.d4.d3.d2.d1
  refine S.cond 0 rfl (fun hc3=>?_) (fun hc3=>?_)
  ·
   have hp4:=of_decide_eq_true hc3
   refine wp_seq_k fun K hK=>?_
   refine wp_reg fun K hK=>?_
   refine S.m rfl (S.g 5 rfl) rfl fun a w G S=>?_
   refine S.m rfl (S.g 3 rfl) rfl fun a w G S=>?_
   refine S.s (τ:=MT.ex (nv .u64 (dig l (k - 1)))) (OpR.call2 rfl c_166 (rat_ok S.ok (S.g 1 rfl) (iv_at (S.g 0 rfl) (by omega)))) rfl fun a w G S=>?_
   refine S.m rfl (S.g 7 rfl) rfl fun a w G S=>?_
   refine S.m rfl (S.g 6 rfl) rfl fun a w G S=>?_
   refine S.s (τ:=MT.ex (nv .u64 (dig q (k - 1)))) (OpR.call2 rfl c_166 (rat_ok S.ok (S.g 1 rfl) (iv_at (S.g 0 rfl) (by omega)))) rfl fun a w G S=>?_
   refine S.s (OpR.nlss S.ok rfl (S.e 3 rfl) (S.e 0 rfl) MT.self) rfl fun a w G S=>?_
   refine wn hK ?_;clear hK K
   replace S:=S.d6.d5.d4.d3.d2.d1
   refine S.cond 0 rfl (fun hc5=>?_) (fun hc5=>?_)
   ·
    have hp6:=of_decide_eq_true hc5
    refine wp_reg fun K hK=>?_
    replace S:=S.d4
    refine S.s (τ:=IT (-1)) (OpR.asn S.ok rfl (rfl : _ = Value.int .i64 (-1))) rfl fun a w G S=>?_
    refine wn hK ?_;clear hK K
    exact wp_ret (then_ret (block_ret (then_ret (then_ret (block_ret (then_ret (S.retTmp rfl ((S.e 0 rfl).trans (iv_eq (cmp_of_lt (ltL_of_dig hwl (by omega) he ‹_›)))))))))))
   ·
    have hp7:=of_decide_eq_false hc5
    refine wp_skip ?_
    refine hK _ _ ?_;clear hK K
    refine wp_reg fun K hK=>?_
    replace S:=S.d4
    refine S.s (τ:=NT 1) (OpR.asn S.ok rfl (rfl : _ = nv .i64 1)) rfl fun a w G S=>?_
    refine wn hK ?_;clear hK K
    exact wp_ret (block_ret (then_ret (then_ret (block_ret (then_ret (S.retTmp rfl ((S.e 0 rfl).trans (iv_eq (cmp_of_gt (ltL_of_dig hwq (by omega) he.symm (by omega)))))))))))
  ·
   have hp8:=of_decide_eq_false hc3
   refine wp_skip ?_
   refine hK _ _ ?_;clear hK K
   refine wp_region_lit ?_
   refine S.m rfl (S.g 2 rfl) rfl fun a w G S=>?_
   refine S.s (τ:=IT ((((k : Nat) : Int) - ((1 : Nat) : Int)) - 1)) (OpR.isub S.ok rfl (S.e 0 rfl) (rfl : _ = nv .i64 1) (iw_i64 (by omega) (by omega))) rfl fun a w G S=>?_
   replace S:=S.d4
   refine S.q rfl (S.g 0 rfl) rfl fun a w G S=>?_
   refine wpList_nil ?_
   replace S:=S.d2.d1
   replace S:=S.also (t:=5) (τ:=IT ((((k - 1) : Nat) : Int) - ((1 : Nat) : Int))) ((S.e 0 rfl).trans (iv_eq (by first | rfl | omega | (simp only [Nat.zero_add,Nat.add_zero];done) | (simp;done) | (push_cast;omega))))
   exact ⟨(k - 1),(by omega),(k - 1),_,rfl,(by omega),(dropL_step (by omega) he ‹_›),(S.keep [0,4,5,6]).keepB [] (by decide)⟩
 ·
  have hp9:=of_decide_eq_false hc1
  refine wp_exit (then_exit (then_exit (exit_same ?_)))
  clear hK K
  refine hK _ _ ?_;clear hK K
  refine wp_reg fun K hK=>?_
  replace S:=S.d2
  refine S.s (τ:=NT 0) (OpR.asn S.ok rfl (rfl : _ = nv .i64 0)) rfl fun a w G S=>?_
  refine wn hK ?_;clear hK K
  exact wp_ret (S.retTmp rfl ((S.e 0 rfl).trans (iv_eq (cmp_of_eq (eqL_of_drop (by omega) he)))))
end Go.Proofs.YtboicjlbbbodgaaGreatDoor
namespace Go.Proofs.YtboicjlbbbodgaaGreatDoor
set_option maxHeartbeats 1000000
set_option maxRecDepth 100000
open Go.RowKit (Below)
theorem rtakeO_ok {nn nu : Nat} {us vs : List Nat} {v1 v2 : Value} {ws : World} {Gs : Gh} {W0 : World} {G0 : Gh} {bu : Nat} {Br : List BX} (S0 : St W0 G0 0 [] (⟨bu,99,some (nu),MT.ex (Value.agg (ucells us).toArray)⟩ :: Br) ⟨#[],[]⟩ ws Gs) (h1 : (MT.ex (Value.slice (some ⟨bu,0,none⟩) (nn) (nu))).t v1 Gs) (h2 : (SL vs).t v2 Gs) (husl : us.length = nu) (husw : wfl us) (hnn : nn ≤ nu) (hnu : nn ≤ LIM) : Calls Tryz.prog 177 #[v1,v2] ws (RetM W0 G0 Gs (⟨bu,99,some (nu),MT.ex (Value.agg (ucells us).toArray)⟩ :: Br) 0 bu 99 (nu) (fun v l=>wfl l ∧ ∃ c,c ≤ 1 ∧ val (l.take nn) + val (vs.take nn) = val (us.take nn) + 4294967296 ^ nn * c)):=by
 have hwf:=SL.wf h2
 simp only [LIM] at hnu
 refine St.enterM (N:=31) (L:=[(1,SL vs),(0,MT.ex (Value.slice (some ⟨bu,0,none⟩) (nn) (nu)))]) (args:=[v1,v2]) S0 Tryz.func177 rfl rfl rfl (enter2 h1 h2) fun a S=>?_
 replace S:=S.also (t:=9999) (τ:=GLE Gs) (Gle.refl Gs)
 refine wp_reg fun K hK=>?_
 refine S.s (τ:=MT.ex (nv .u64 (0))) (OpR.asn S.ok rfl (rfl : _ = nv .u64 0)) rfl fun a w G S=>?_
 refine wn hK ?_;clear hK K
 refine wp_reg fun K hK=>?_
 refine S.m rfl (S.g 3 rfl) rfl fun a w G S=>?_
 refine S.s (OpR.lenA S.ok rfl Tryz.underlying55 (S.e 0 rfl) MT.self) rfl fun a w G S=>?_
 refine S.s (τ:=NT 0) (OpR.mv S.ok rfl (rfl : _ = nv .i64 0)) rfl fun a w G S=>?_
 refine wn hK ?_;clear hK K
 replace S:=S.d2
 refine wp_block ?_
 refine wp_loopJ (fun μ a w=>∃ (k : Nat) (c : Nat) (l : List Nat) (G : Gh),μ = nn - k ∧ (k ≤ nn) ∧ (c ≤ 1) ∧ (l.length = nu) ∧ (wfl l) ∧ (l.drop k = us.drop k) ∧ (val (l.take k) + val (vs.take k) = val (us.take k) + 4294967296 ^ k * c) ∧  St W0 G0 31 [(9,NT k),(8,NT nn),(4,MT.ex (nv .u64 (c))),(9999,GLE Gs),(1,SL vs),(0,MT.ex (Value.slice (some ⟨bu,0,none⟩) (nn) (nu)))] (⟨bu,99,some (nu),MT.ex (Value.agg (ucells (l)).toArray)⟩ :: Br) a w G) (nn - 0) ⟨0,0,us,_,rfl,(by omega),(by omega),husl,husw,rfl,(by simp [val]),S.keep [0,1,2,3,4,5]⟩ ?_
 clear S
 intro μ a w ⟨k,c,l,G,hm,hk,hc,hl,hw,hB,hv,S⟩
 have hdv:=dig_lt hwf k
 have hdl:=dig_lt (hw.take nn) k
 have hdq:=dig_lt hw k
 refine wp_reg fun K hK=>?_
 refine S.s (OpR.nlss S.ok rfl (S.e 0 rfl) (S.e 1 rfl) MT.self) rfl fun a w G S=>?_
 refine wn hK ?_;clear hK K
 refine wp_seq_k fun K hK=>?_
 refine S.cond 0 rfl (fun hc1=>?_) (fun hc1=>?_)
 ·
  have hp2:=of_decide_eq_true hc1
  refine wp_skip ?_
  refine hK _ _ ?_;clear hK K
  refine wp_seq_k fun K hK=>?_
  refine wp_block ?_
  refine wp_reg fun K hK=>?_
  refine S.m rfl (S.g 1 rfl) rfl fun a w G S=>?_
  refine S.q rfl (S.g 0 rfl) rfl fun a w G S=>?_
  refine wn hK ?_;clear hK K
  replace S:=S.d1
  refine wp_reg fun K hK=>?_
  refine S.m rfl (S.g 7 rfl) rfl fun a w G S=>?_
  refine S.m rfl (S.g 1 rfl) rfl fun a w G S=>?_
  refine S.s (τ:=MT.ex (nv .u64 (dig (l.take (nn)) k))) (OpR.lendP (n:=nn) (c:=nu) (q:=l) S.ok rfl c_166 (S.box 0 rfl) (by omega) (by omega) (by simp only [LIM];omega) (by assumption) fun G1 hle hok1 hsl=>(rat_ok hok1 (of_val (S.e 1 rfl) hsl) ((NT k).mono hle (S.g 0 rfl)))) rfl fun a w G S=>?_
  refine S.s (OpR.nadd S.ok rfl (rfl : _ = nv .u64 4294967296) (S.e 0 rfl) (wr_u64 (by omega)) MT.self) rfl fun a w G S=>?_
  refine S.m rfl (S.g 10 rfl) rfl fun a w G S=>?_
  refine S.m rfl (S.g 5 rfl) rfl fun a w G S=>?_
  refine S.s (τ:=MT.ex (nv .u64 (dig vs k))) (OpR.call2 rfl c_166 (rat_ok S.ok (S.g 1 rfl) (S.g 0 rfl))) rfl fun a w G S=>?_
  refine S.s (OpR.nsub S.ok rfl (S.e 3 rfl) (S.e 0 rfl) (by omega) (wr_u64 (by omega)) MT.self) rfl fun a w G S=>?_
  refine S.m rfl (S.g 12 rfl) rfl fun a w G S=>?_
  refine S.s (OpR.nsub S.ok rfl (S.e 1 rfl) (S.e 0 rfl) (by omega) (wr_u64 (by omega)) MT.self) rfl fun a w G S=>?_
  refine S.q rfl (S.g 0 rfl) rfl fun a w G S=>?_
  refine wn hK ?_;clear hK K
  replace S:=S.d10.d9.d8.d7.d6.d5.d4.d3.d2.d1
  refine wp_region_lit ?_
  refine S.m rfl (S.g 8 rfl) rfl fun a w G S=>?_
  refine S.m rfl (S.g 2 rfl) rfl fun a w G S=>?_
  refine S.m rfl (S.g 2 rfl) rfl fun a w G S=>?_
  refine S.s (OpR.nconv32 S.ok rfl (S.e 0 rfl) it_139 it_99 MT.self) rfl fun a w G S=>?_
  refine S.m rfl (S.g 4 rfl) rfl fun a w G S=>?_
  refine S.s (OpR.nshr S.ok rfl (S.e 0 rfl) (rfl : _ = nv .u64 32) (by decide) MT.self) rfl fun a w G S=>?_
  refine S.s (OpR.nsub S.ok rfl (rfl : _ = nv .u64 1) (S.e 0 rfl) (by omega) (wr_u64 (by omega)) MT.self) rfl fun a w G S=>?_
  refine S.s (τ:=MT.ex (Value.pointer (some ⟨bu,k,none⟩))) (OpR.ixA (i:=k) S.ok rfl Tryz.underlying55 tS_99 (S.e 6 rfl) (S.e 5 rfl) rfl (by first | omega | (simp;omega)) (ptr_eq (by simp only [Option.getD_none] <;> omega))) rfl fun a w G S=>?_
  refine S.setElem 0 (z:=(((4294967296 + (dig (l.take (nn)) k)) - (dig vs k)) - c) % 4294967296) rfl rfl rfl rfl (S.e 0 rfl) tS_99 (S.e 4 rfl) rfl (by first | omega | (simp;omega)) fun w S=>?_
  replace S:=S.n0
  replace S:=S.d13
  refine S.q rfl (S.g 1 rfl) rfl fun a w G S=>?_
  refine wpList_nil ?_
  replace S:=S.d9.d8.d7.d6.d5.d4.d3.d2.d1
  refine hK _ _ ?_;clear hK K
  refine wp_region_lit ?_
  refine S.s (OpR.nadd S.ok rfl (S.e 3 rfl) (rfl : _ = nv .i64 1) (wr_i64 (by omega)) MT.self) rfl fun a w G S=>?_
  replace S:=S.d4
  refine S.m rfl (S.g 0 rfl) rfl fun a w G S=>?_
  refine wpList_nil ?_
  replace S:=S.d1
  replace S:=S.also (t:=4) (τ:=MT.ex (nv .u64 ((1 - ((((4294967296 + (dig (l.take (nn)) k)) - (dig vs k)) - c) / 2 ^ 32))))) ((S.e 1 rfl).trans (nv_eq (by first | rfl | omega | (simp only [Nat.zero_add,Nat.add_zero];done) | (simp;done) | (push_cast;omega))))
  replace S:=S.castBox (τ':=MT.ex (Value.agg (ucells ((l.set (k) ((((4294967296 + (dig (l.take (nn)) k)) - (dig vs k)) - c) % 4294967296)))).toArray)) 0 rfl fun _ h _=>Eq.trans h (congrArg (fun l=>Value.agg (ucells l).toArray) (by simp))
  replace S:=S.n0
  exact ⟨nn - (k + 1),(by omega),k + 1,1 - ((((4294967296 + (dig (l.take (nn)) k)) - (dig vs k)) - c) / 2 ^ 32),l.set (k) ((((4294967296 + (dig (l.take (nn)) k)) - (dig vs k)) - c) % 4294967296),_,rfl,(by omega),(by omega),(by simpa using hl),(hw.set (Nat.mod_lt _ (by decide))),(by rw [drop_set_far (by omega)];exact drop_eq_succ hB),(takeO_step (by omega) ‹_› hdq hdv hc hB hv),S.keep [1,5,0,6,7,8]⟩
 ·
  have hp3:=of_decide_eq_false hc1
  refine wp_exit (then_exit (then_exit (exit_same ?_)))
  clear hK K
  exact ret_of_normal (S.retM0 rfl ⟨hw,c,hc,takeO_end ‹_› hk hv⟩ hl (S.g 4 rfl))
end Go.Proofs.YtboicjlbbbodgaaGreatDoor
