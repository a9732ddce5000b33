import Derived.Test.YtdbdnabpaadigaaGreatQd
set_option linter.unusedVariables false
set_option linter.unusedSimpArgs false
namespace Go.Proofs.YtdbdnabpaadigaaGreat
def Cau (f : Nat → Rat) : Prop:=∀ e : Rat,0 < e → ∃ N,∀ i j,N ≤ i → N ≤ j → f i - f j < e
def Ceq (f g : Nat → Rat) : Prop:=∀ e : Rat,0 < e → ∃ N,∀ i,N ≤ i → f i - g i < e ∧ g i - f i < e
def Cnn (f : Nat → Rat) : Prop:=∀ e : Rat,0 < e → ∃ N,∀ i,N ≤ i → -e < f i
theorem half_pos {e : Rat} (h : 0 < e) : 0 < e / 2:=by grind
theorem rmul_pos {a b : Rat} (ha : 0 < a) (hb : 0 < b) : 0 < a * b:=Rat.mul_pos ha hb
theorem rdiv_pos {a b : Rat} (ha : 0 < a) (hb : 0 < b) : 0 < a / b:=by
  rw [Rat.div_def];exact Rat.mul_pos ha (Rat.inv_pos.2 hb)
theorem rmul_div {a b : Rat} (hb : 0 < b) : a / b * b = a:=by grind
theorem rmul_le {a b c d : Rat} (h1 : 0 ≤ a) (h2 : a ≤ b) (h3 : 0 ≤ c) (h4 : c ≤ d) : a * c ≤ b * d:=by
  have e1 : 0 ≤ (b - a) * c:=Rat.mul_nonneg (by grind) h3
  have e2 : 0 ≤ b * (d - c):=Rat.mul_nonneg (by grind) (by grind)
  grind
theorem Ceq.refl (f : Nat → Rat) : Ceq f f:=fun e he=>⟨0,fun i _=>by constructor <;> grind⟩
theorem Ceq.symm {f g : Nat → Rat} (h : Ceq f g) : Ceq g f:=fun e he=>by
  obtain ⟨N,hN⟩:=h e he;exact ⟨N,fun i hi=>⟨(hN i hi).2,(hN i hi).1⟩⟩
theorem Ceq.trans {f g k : Nat → Rat} (h : Ceq f g) (h' : Ceq g k) : Ceq f k:=fun e he=>by
  obtain ⟨N,hN⟩:=h (e / 2) (half_pos he);obtain ⟨M,hM⟩:=h' (e / 2) (half_pos he)
  refine ⟨max N M,fun i hi=>?_⟩
  have h1:=hN i (by omega);have h2:=hM i (by omega)
  constructor <;> grind
theorem Cau.const (q : Rat) : Cau fun _=>q:=fun e he=>⟨0,fun i j _ _=>by grind⟩
theorem Cau.add {f g : Nat → Rat} (h : Cau f) (h' : Cau g) : Cau fun n=>f n + g n:=fun e he=>by
  obtain ⟨N,hN⟩:=h (e / 2) (half_pos he);obtain ⟨M,hM⟩:=h' (e / 2) (half_pos he)
  refine ⟨max N M,fun i j hi hj=>?_⟩
  have h1:=hN i j (by omega) (by omega);have h2:=hM i j (by omega) (by omega)
  grind
theorem Cau.neg {f : Nat → Rat} (h : Cau f) : Cau fun n=>-f n:=fun e he=>by
  obtain ⟨N,hN⟩:=h e he
  exact ⟨N,fun i j hi hj=>by have:=hN j i hj hi;grind⟩
theorem Cau.bound {f : Nat → Rat} (h : Cau f) : ∃ B : Rat,0 < B ∧ ∀ i,-B < f i ∧ f i < B:=by
  obtain ⟨N,hN⟩:=h 1 (by grind)
  have hfin : ∀ n,∃ B : Rat,0 < B ∧ ∀ i,i ≤ n → -B < f i ∧ f i < B:=by
    intro n
    induction n with
    | zero =>
      rcases Rat.le_total (a:=0) (b:=(f 0)) with h0 | h0
      · exact ⟨f 0 + 1, by grind, fun i hi => by obtain rfl : i = 0 := by omega
                                                 constructor <;> grind⟩
      · exact ⟨1 - f 0, by grind, fun i hi => by obtain rfl : i = 0 := by omega
                                                 constructor <;> grind⟩
    | succ n ih =>
      obtain ⟨B,hB,hb⟩:=ih
      rcases Rat.le_total (a:=0) (b:=(f (n + 1))) with h0 | h0
      · refine ⟨B + f (n + 1) + 1,by grind,fun i hi=>?_⟩
        rcases Nat.lt_or_ge n i with h1 | h1
        · obtain rfl : i = n + 1:=by omega
          constructor <;> grind
        · have:=hb i h1;constructor <;> grind
      · refine ⟨B - f (n + 1) + 1,by grind,fun i hi=>?_⟩
        rcases Nat.lt_or_ge n i with h1 | h1
        · obtain rfl : i = n + 1:=by omega
          constructor <;> grind
        · have:=hb i h1;constructor <;> grind
  obtain ⟨B,hB,hb⟩:=hfin N
  refine ⟨B + 1,by grind,fun i=>?_⟩
  rcases Nat.lt_or_ge N i with h1 | h1
  · have a:=hN i N (by omega) (Nat.le_refl _);have b:=hN N i (Nat.le_refl _) (by omega);have c:=hb N (Nat.le_refl _)
    constructor <;> grind
  · have:=hb i h1;constructor <;> grind
theorem small_mul {a b e B : Rat} (hB : 0 < B) (h1 : -B < b ∧ b < B) (h2 : -(e / B) < a ∧ a < e / B) : -e < a * b ∧ a * b < e:=by
  have hd:=rmul_div (a:=e) hB
  generalize e / B = d at *
  have hd0 : 0 < d:=by grind
  rcases Rat.le_total (a:=0) (b:=a) with ha | ha <;> rcases Rat.le_total (a:=0) (b:=b) with hb | hb
  · have p:=Rat.mul_nonneg ha hb
    have q : 0 ≤ (d - a) * b:=Rat.mul_nonneg (by grind) hb
    have r : 0 < d * (B - b):=Rat.mul_pos hd0 (by grind)
    constructor <;> grind
  · have p : 0 ≤ a * -b:=Rat.mul_nonneg ha (by grind)
    have q : 0 ≤ (d - a) * -b:=Rat.mul_nonneg (by grind) (by grind)
    have r : 0 < d * (B + b):=Rat.mul_pos hd0 (by grind)
    constructor <;> grind
  · have p : 0 ≤ -a * b:=Rat.mul_nonneg (by grind) hb
    have q : 0 ≤ (d + a) * b:=Rat.mul_nonneg (by grind) hb
    have r : 0 < d * (B - b):=Rat.mul_pos hd0 (by grind)
    constructor <;> grind
  · have p : 0 ≤ -a * -b:=Rat.mul_nonneg (by grind) (by grind)
    have q : 0 ≤ (d + a) * -b:=Rat.mul_nonneg (by grind) (by grind)
    have r : 0 < d * (B + b):=Rat.mul_pos hd0 (by grind)
    constructor <;> grind
theorem Cau.mul {f g : Nat → Rat} (h : Cau f) (h' : Cau g) : Cau fun n=>f n * g n:=fun e he=>by
  obtain ⟨B,hB,hb⟩:=h.bound;obtain ⟨C,hC,hc⟩:=h'.bound
  have he1:=rdiv_pos (half_pos he) hC
  have he2:=rdiv_pos (half_pos he) hB
  obtain ⟨N,hN⟩:=h _ he1
  obtain ⟨M,hM⟩:=h' _ he2
  refine ⟨max N M,fun i j hi hj=>?_⟩
  have a1:=hN i j (by omega) (by omega);have a2:=hN j i (by omega) (by omega)
  have b1:=hM i j (by omega) (by omega);have b2:=hM j i (by omega) (by omega)
  have p:=small_mul (a:=f i - f j) (b:=g i) hC (hc i) ⟨by grind,a1⟩
  have q:=small_mul (a:=g i - g j) (b:=f j) hB (hb j) ⟨by grind,b1⟩
  grind
theorem Ceq.add {f g f' g' : Nat → Rat} (h : Ceq f f') (h' : Ceq g g') : Ceq (fun n=>f n + g n) fun n=>f' n + g' n:=fun e he=>by
  obtain ⟨N,hN⟩:=h (e / 2) (half_pos he);obtain ⟨M,hM⟩:=h' (e / 2) (half_pos he)
  refine ⟨max N M,fun i hi=>?_⟩
  have h1:=hN i (by omega);have h2:=hM i (by omega)
  constructor <;> grind
theorem Ceq.neg {f g : Nat → Rat} (h : Ceq f g) : Ceq (fun n=>-f n) fun n=>-g n:=fun e he=>by
  obtain ⟨N,hN⟩:=h e he
  exact ⟨N,fun i hi=>by have:=hN i hi;constructor <;> grind⟩
theorem Ceq.mul {f g f' g' : Nat → Rat} (cg : Cau g) (cf' : Cau f') (h : Ceq f f') (h' : Ceq g g') : Ceq (fun n=>f n * g n) fun n=>f' n * g' n:=fun e he=>by
  obtain ⟨B,hB,hb⟩:=cf'.bound;obtain ⟨C,hC,hc⟩:=cg.bound
  obtain ⟨N,hN⟩:=h _ (rdiv_pos (half_pos he) hC)
  obtain ⟨M,hM⟩:=h' _ (rdiv_pos (half_pos he) hB)
  refine ⟨max N M,fun i hi=>?_⟩
  have a:=hN i (by omega);have b:=hM i (by omega)
  have p:=small_mul (a:=f i - f' i) (b:=g i) hC (hc i) ⟨by grind,a.1⟩
  have q:=small_mul (a:=g i - g' i) (b:=f' i) hB (hb i) ⟨by grind,b.1⟩
  constructor <;> grind
theorem Cnn.ceq {f g : Nat → Rat} (h : Cnn f) (h' : Ceq f g) : Cnn g:=fun e he=>by
  obtain ⟨N,hN⟩:=h (e / 2) (half_pos he);obtain ⟨M,hM⟩:=h' (e / 2) (half_pos he)
  refine ⟨max N M,fun i hi=>?_⟩
  have h1:=hN i (by omega);have h2:=hM i (by omega)
  grind
theorem Cnn.add {f g : Nat → Rat} (h : Cnn f) (h' : Cnn g) : Cnn fun n=>f n + g n:=fun e he=>by
  obtain ⟨N,hN⟩:=h (e / 2) (half_pos he);obtain ⟨M,hM⟩:=h' (e / 2) (half_pos he)
  refine ⟨max N M,fun i hi=>?_⟩
  have h1:=hN i (by omega);have h2:=hM i (by omega)
  grind
theorem Cnn.mul {f g : Nat → Rat} (cf : Cau f) (cg : Cau g) (h : Cnn f) (h' : Cnn g) : Cnn fun n=>f n * g n:=fun e he=>by
  obtain ⟨B,hB,hb⟩:=cf.bound;obtain ⟨C,hC,hc⟩:=cg.bound
  obtain ⟨N,hN⟩:=h _ (rdiv_pos (half_pos he) hC)
  obtain ⟨M,hM⟩:=h' _ (rdiv_pos (half_pos he) hB)
  refine ⟨max N M,fun i hi=>?_⟩
  have a:=hN i (by omega);have b:=hM i (by omega)
  rcases Rat.le_total (a:=0) (b:=(f i)) with ha | ha <;> rcases Rat.le_total (a:=0) (b:=(g i)) with hb' | hb'
  · have:=Rat.mul_nonneg ha hb';grind
  · have:=(small_mul (e:=e / 2) (a:=g i) (b:=f i) hB (hb i) ⟨by grind,by have:=rdiv_pos (half_pos he) hB;grind⟩).1;grind
  · have:=(small_mul (e:=e / 2) (a:=f i) (b:=g i) hC (hc i) ⟨by grind,by have:=rdiv_pos (half_pos he) hC;grind⟩).1;grind
  · have : 0 ≤ -f i * -g i:=Rat.mul_nonneg (by grind) (by grind)
    grind
theorem Cau.away {f : Nat → Rat} (h : Cau f) (h0 : ¬ Cnn f) : ∃ e : Rat,0 < e ∧ ∃ N,∀ i,N ≤ i → f i < -e:=by
  unfold Cnn at h0
  have h1 : ∃ e : Rat,0 < e ∧ ∀ N,∃ i,N ≤ i ∧ f i ≤ -e:=by
    refine Classical.byContradiction fun hn=>h0 fun e he=>Classical.byContradiction fun hN=>hn ⟨e,he,fun N=>Classical.byContradiction fun hi=>hN ⟨N,fun i hNi=>?_⟩⟩
    exact Rat.not_le.1 fun hle=>hi ⟨i,hNi,hle⟩
  obtain ⟨e,he,hi⟩:=h1
  obtain ⟨N,hN⟩:=h (e / 2) (half_pos he)
  obtain ⟨k,hk,hfk⟩:=hi N
  exact ⟨e / 2,half_pos he,N,fun i hi=>by have:=hN i k hi hk;grind⟩
theorem Cnn.total {f : Nat → Rat} (h : Cau f) : Cnn f ∨ Cnn fun n=>-f n:=by
  by_cases h0 : Cnn f
  · exact .inl h0
  · obtain ⟨e,he,N,hN⟩:=h.away h0
    exact .inr fun d hd=>⟨N,fun i hi=>by have:=hN i hi;grind⟩
theorem Cnn.anti {f : Nat → Rat} (h : Cnn f) (h' : Cnn fun n=>-f n) : Ceq f fun _=>0:=fun e he=>by
  obtain ⟨N,hN⟩:=h e he;obtain ⟨M,hM⟩:=h' e he
  refine ⟨max N M,fun i hi=>?_⟩
  have h1:=hN i (by omega);have h2:=hM i (by omega)
  constructor <;> grind
theorem Cau.inv {f : Nat → Rat} (h : Cau f) {e : Rat} (he : 0 < e) {N : Nat} (hN : ∀ i,N ≤ i → e < f i ∨ f i < -e) : Cau fun n=>(f n)⁻¹:=fun d hd=>by
  obtain ⟨M,hM⟩:=h (d * (e * e)) (rmul_pos hd (rmul_pos he he))
  refine ⟨max N M,fun i j hi hj=>?_⟩
  have a:=hN i (by omega);have b:=hN j (by omega);have c:=hM i j (by omega) (by omega);have c':=hM j i (by omega) (by omega)
  have hi0 : f i ≠ 0:=by rintro hz;rw [hz] at a;grind
  have hj0 : f j ≠ 0:=by rintro hz;rw [hz] at b;grind
  have hsq : ∀ x : Rat,e < x ∨ x < -e → ∀ y : Rat,e < y ∨ y < -e → e * e ≤ x * y ∨ x * y ≤ -(e * e):=fun x hx y hy=>by
    rcases hx with hx | hx <;> rcases hy with hy | hy
    · exact .inl (rmul_le (by grind) (by grind) (by grind) (by grind))
    · have:=rmul_le (a:=e) (b:=x) (c:=e) (d:=-y) (by grind) (by grind) (by grind) (by grind);exact .inr (by grind)
    · have:=rmul_le (a:=e) (b:=-x) (c:=e) (d:=y) (by grind) (by grind) (by grind) (by grind);exact .inr (by grind)
    · have:=rmul_le (a:=e) (b:=-x) (c:=e) (d:=-y) (by grind) (by grind) (by grind) (by grind);exact .inl (by grind)
  have hp:=hsq _ a _ b
  have heq : (f i)⁻¹ - (f j)⁻¹ = (f j - f i) / (f i * f j):=by grind
  rw [heq]
  have hne : f i * f j ≠ 0:=by grind
  replace c : -(f j - f i) < d * (e * e):=by grind
  have hee:=rmul_pos he he
  generalize f i * f j = m at *
  generalize f j - f i = t at *
  generalize e * e = E at *
  have hde : d * E ≤ d * m ∨ d * E ≤ -(d * m):=by
    rcases hp with hp | hp
    · have:=Rat.mul_nonneg (a:=d) (b:=m - E) (by grind) (by grind);exact .inl (by grind)
    · have:=Rat.mul_nonneg (a:=d) (b:=-m - E) (by grind) (by grind);exact .inr (by grind)
  rcases hp with hp | hp
  · have hm : 0 < m:=by grind
    have hd' : d * E ≤ d * m:=by have:=Rat.mul_nonneg (a:=d) (b:=m - E) (by grind) (by grind);grind
    refine Rat.not_le.1 fun hle=>?_
    have e2 : t / m * m = t:=rmul_div hm
    have:=Rat.mul_nonneg (a:=t / m - d) (b:=m) (by grind) (by grind)
    generalize t / m = q at *
    grind
  · have hm : 0 < -m:=by grind
    have hd' : d * E ≤ d * -m:=by have:=Rat.mul_nonneg (a:=d) (b:=-m - E) (by grind) (by grind);grind
    refine Rat.not_le.1 fun hle=>?_
    have e2 : t / m * m = t:=by grind
    have:=Rat.mul_nonneg (a:=t / m - d) (b:=-m) (by grind) (by grind)
    generalize t / m = q at *
    grind
def CS : Type:={ f : Nat → Rat // Cau f }
instance csSetoid : Setoid CS:=⟨fun f g=>Ceq f.1 g.1,fun f=>Ceq.refl f.1,fun h=>h.symm,fun h k=>h.trans k⟩
def RR : Type:=Quotient csSetoid
def RR.mk (f : Nat → Rat) (h : Cau f) : RR:=Quotient.mk csSetoid ⟨f,h⟩
theorem RR.rep (x : RR) : ∃ f hf,x = RR.mk f hf:=Quotient.ind (motive:=fun x=>∃ f hf,x = RR.mk f hf) (fun a=>⟨a.1,a.2,rfl⟩) x
theorem RR.ind {p : RR → Prop} (h : ∀ f hf,p (RR.mk f hf)) (x : RR) : p x:=Quotient.ind (fun a=>h a.1 a.2) x
theorem RR.ext {f g : Nat → Rat} {hf : Cau f} {hg : Cau g} (h : ∀ n,f n = g n) : RR.mk f hf = RR.mk g hg:=by
  have : f = g:=funext h
  subst this;rfl
theorem RR.sound {f g : Nat → Rat} {hf : Cau f} {hg : Cau g} (h : Ceq f g) : RR.mk f hf = RR.mk g hg:=Quotient.sound h
theorem RR.exact {f g : Nat → Rat} {hf : Cau f} {hg : Cau g} (h : RR.mk f hf = RR.mk g hg) : Ceq f g:=Quotient.exact h
def RR.of (q : Rat) : RR:=RR.mk (fun _=>q) (Cau.const q)
def RR.add (x y : RR) : RR:=Quotient.lift₂ (fun f g : CS=>Quotient.mk csSetoid ⟨fun n=>f.1 n + g.1 n,f.2.add g.2⟩) (fun _ _ _ _ h k=>Quotient.sound (Ceq.add h k)) x y
def RR.neg (x : RR) : RR:=Quotient.lift (fun f : CS=>Quotient.mk csSetoid ⟨fun n=>-f.1 n,f.2.neg⟩) (fun _ _ h=>Quotient.sound (Ceq.neg h)) x
def RR.mul (x y : RR) : RR:=Quotient.lift₂ (fun f g : CS=>Quotient.mk csSetoid ⟨fun n=>f.1 n * g.1 n,f.2.mul g.2⟩) (fun _ g f' _ h k=>Quotient.sound (Ceq.mul g.2 f'.2 h k)) x y
instance : Add RR:=⟨RR.add⟩
instance : Neg RR:=⟨RR.neg⟩
instance : Mul RR:=⟨RR.mul⟩
instance : Sub RR:=⟨fun x y=>x + -y⟩
instance (n : Nat) : OfNat RR n:=⟨RR.of (n : Rat)⟩
def RR.nn (x : RR) : Prop:=Quotient.lift (fun f : CS=>Cnn f.1) (fun _ _ h=>propext ⟨fun k=>k.ceq h,fun k=>k.ceq h.symm⟩) x
instance : LE RR:=⟨fun x y=>RR.nn (y - x)⟩
instance : LT RR:=⟨fun x y=>¬ y ≤ x⟩
theorem RR.add_comm (x y : RR) : x + y = y + x:=by
  obtain ⟨f,hf,rfl⟩:=RR.rep x;obtain ⟨g,hg,rfl⟩:=RR.rep y
  exact RR.ext fun n=>by grind
theorem RR.add_assoc (x y z : RR) : x + y + z = x + (y + z):=by
  obtain ⟨f,hf,rfl⟩:=RR.rep x;obtain ⟨g,hg,rfl⟩:=RR.rep y;obtain ⟨k,hk,rfl⟩:=RR.rep z
  exact RR.ext fun n=>by grind
theorem RR.mul_comm (x y : RR) : x * y = y * x:=by
  obtain ⟨f,hf,rfl⟩:=RR.rep x;obtain ⟨g,hg,rfl⟩:=RR.rep y
  exact RR.ext fun n=>by grind
theorem RR.mul_assoc (x y z : RR) : x * y * z = x * (y * z):=by
  obtain ⟨f,hf,rfl⟩:=RR.rep x;obtain ⟨g,hg,rfl⟩:=RR.rep y;obtain ⟨k,hk,rfl⟩:=RR.rep z
  exact RR.ext fun n=>by grind
theorem RR.mul_add (x y z : RR) : x * (y + z) = x * y + x * z:=by
  obtain ⟨f,hf,rfl⟩:=RR.rep x;obtain ⟨g,hg,rfl⟩:=RR.rep y;obtain ⟨k,hk,rfl⟩:=RR.rep z
  exact RR.ext fun n=>by grind
theorem RR.add_mul (x y z : RR) : (x + y) * z = x * z + y * z:=by
  obtain ⟨f,hf,rfl⟩:=RR.rep x;obtain ⟨g,hg,rfl⟩:=RR.rep y;obtain ⟨k,hk,rfl⟩:=RR.rep z
  exact RR.ext fun n=>by grind
theorem RR.add_zero (x : RR) : x + 0 = x:=by
  obtain ⟨f,hf,rfl⟩:=RR.rep x
  exact RR.ext fun n=>by grind
theorem RR.zero_add (x : RR) : 0 + x = x:=by
  obtain ⟨f,hf,rfl⟩:=RR.rep x
  exact RR.ext fun n=>by grind
theorem RR.mul_one (x : RR) : x * 1 = x:=by
  obtain ⟨f,hf,rfl⟩:=RR.rep x
  exact RR.ext fun n=>by grind
theorem RR.one_mul (x : RR) : 1 * x = x:=by
  obtain ⟨f,hf,rfl⟩:=RR.rep x
  exact RR.ext fun n=>by grind
theorem RR.mul_zero (x : RR) : x * 0 = 0:=by
  obtain ⟨f,hf,rfl⟩:=RR.rep x
  exact RR.ext fun n=>by grind
theorem RR.zero_mul (x : RR) : 0 * x = 0:=by
  obtain ⟨f,hf,rfl⟩:=RR.rep x
  exact RR.ext fun n=>by grind
theorem RR.add_neg (x : RR) : x + -x = 0:=by
  obtain ⟨f,hf,rfl⟩:=RR.rep x
  exact RR.ext fun n=>by grind
theorem RR.sub_self (x : RR) : x - x = 0:=by
  obtain ⟨f,hf,rfl⟩:=RR.rep x
  exact RR.ext fun n=>by grind
theorem RR.sub_zero (x : RR) : x - 0 = x:=by
  obtain ⟨f,hf,rfl⟩:=RR.rep x
  exact RR.ext fun n=>by grind
theorem RR.zero_sub (x : RR) : 0 - x = -x:=by
  obtain ⟨f,hf,rfl⟩:=RR.rep x
  exact RR.ext fun n=>by grind
theorem RR.neg_neg (x : RR) : - -x = x:=by
  obtain ⟨f,hf,rfl⟩:=RR.rep x
  exact RR.ext fun n=>by grind
theorem RR.neg_mul (x y : RR) : -x * y = -(x * y):=by
  obtain ⟨f,hf,rfl⟩:=RR.rep x;obtain ⟨g,hg,rfl⟩:=RR.rep y
  exact RR.ext fun n=>by grind
theorem RR.mul_neg (x y : RR) : x * -y = -(x * y):=by
  obtain ⟨f,hf,rfl⟩:=RR.rep x;obtain ⟨g,hg,rfl⟩:=RR.rep y
  exact RR.ext fun n=>by grind
theorem RR.neg_add (x y : RR) : -(x + y) = -x + -y:=by
  obtain ⟨f,hf,rfl⟩:=RR.rep x;obtain ⟨g,hg,rfl⟩:=RR.rep y
  exact RR.ext fun n=>by grind
theorem RR.sub_eq (x y : RR) : x - y = x + -y:=by
  obtain ⟨f,hf,rfl⟩:=RR.rep x;obtain ⟨g,hg,rfl⟩:=RR.rep y
  exact RR.ext fun n=>by grind
theorem RR.neg_sub (x y : RR) : -(x - y) = y - x:=by
  obtain ⟨f,hf,rfl⟩:=RR.rep x;obtain ⟨g,hg,rfl⟩:=RR.rep y
  exact RR.ext fun n=>by grind
theorem RR.sub_add (x y : RR) : x - y + y = x:=by
  obtain ⟨f,hf,rfl⟩:=RR.rep x;obtain ⟨g,hg,rfl⟩:=RR.rep y
  exact RR.ext fun n=>by grind
theorem RR.add_sub (x y : RR) : x + y - y = x:=by
  obtain ⟨f,hf,rfl⟩:=RR.rep x;obtain ⟨g,hg,rfl⟩:=RR.rep y
  exact RR.ext fun n=>by grind
theorem RR.sub_trans (x y z : RR) : (y - x) + (z - y) = z - x:=by
  obtain ⟨f,hf,rfl⟩:=RR.rep x;obtain ⟨g,hg,rfl⟩:=RR.rep y;obtain ⟨k,hk,rfl⟩:=RR.rep z
  exact RR.ext fun n=>by grind
theorem RR.neg_zero : -(0 : RR) = 0:=RR.ext fun n=>by grind
theorem RR.le_def {x y : RR} : x ≤ y ↔ RR.nn (y - x):=Iff.rfl
theorem RR.lt_def {x y : RR} : x < y ↔ ¬ y ≤ x:=Iff.rfl
theorem RR.nn_iff {x : RR} : RR.nn x ↔ 0 ≤ x:=by rw [RR.le_def,RR.sub_zero]
theorem RR.nn_add {x y : RR} : RR.nn x → RR.nn y → RR.nn (x + y):=by
  obtain ⟨f,hf,rfl⟩:=RR.rep x;obtain ⟨g,hg,rfl⟩:=RR.rep y;exact fun h k=>Cnn.add h k
theorem RR.nn_mul {x y : RR} : RR.nn x → RR.nn y → RR.nn (x * y):=by
  obtain ⟨f,hf,rfl⟩:=RR.rep x;obtain ⟨g,hg,rfl⟩:=RR.rep y;exact fun h k=>Cnn.mul hf hg h k
theorem RR.nn_total (x : RR) : RR.nn x ∨ RR.nn (-x):=by
  obtain ⟨f,hf,rfl⟩:=RR.rep x;exact Cnn.total hf
theorem RR.nn_anti {x : RR} : RR.nn x → RR.nn (-x) → x = 0:=by
  obtain ⟨f,hf,rfl⟩:=RR.rep x;exact fun h k=>RR.sound (Cnn.anti h k)
theorem RR.nn_of {q : Rat} : RR.nn (RR.of q) ↔ 0 ≤ q:=by
  constructor
  · intro h
    refine Rat.not_lt.1 fun hlt=>?_
    obtain ⟨N,hN⟩:=(show Cnn (fun _=>q) from h) (-q) (by grind)
    have:=hN N (Nat.le_refl _);grind
  · intro h
    show Cnn (fun _=>q)
    exact fun e he=>⟨0,fun i _=>by grind⟩
theorem RR.le_refl (x : RR) : x ≤ x:=by rw [RR.le_def,RR.sub_self];exact RR.nn_of.2 (by decide)
theorem RR.le_trans {x y z : RR} (h : x ≤ y) (k : y ≤ z) : x ≤ z:=by
  rw [RR.le_def,← RR.sub_trans x y z];exact RR.nn_add h k
theorem RR.le_antisymm {x y : RR} (h : x ≤ y) (k : y ≤ x) : x = y:=by
  have:=RR.nn_anti (x:=y - x) h (by rw [RR.neg_sub];exact k)
  rw [← RR.sub_add y x,this,RR.zero_add]
theorem RR.le_total (x y : RR) : x ≤ y ∨ y ≤ x:=by
  rcases RR.nn_total (y - x) with h | h
  · exact .inl h
  · rw [RR.neg_sub] at h;exact .inr h
theorem RR.not_le {x y : RR} : ¬ x ≤ y ↔ y < x:=Iff.rfl
theorem RR.not_lt {x y : RR} : ¬ x < y ↔ y ≤ x:=Classical.not_not
theorem RR.le_of_lt {x y : RR} (h : x < y) : x ≤ y:=(RR.le_total x y).elim id fun k=>absurd k h
theorem RR.lt_irrefl (x : RR) : ¬ x < x:=fun h=>h (RR.le_refl x)
theorem RR.lt_of_lt_of_le {x y z : RR} (h : x < y) (k : y ≤ z) : x < z:=fun j=>h (RR.le_trans k j)
theorem RR.lt_of_le_of_lt {x y z : RR} (h : x ≤ y) (k : y < z) : x < z:=fun j=>k (RR.le_trans j h)
theorem RR.lt_trans {x y z : RR} (h : x < y) (k : y < z) : x < z:=RR.lt_of_lt_of_le h (RR.le_of_lt k)
theorem RR.ne_of_lt {x y : RR} (h : x < y) : x ≠ y:=fun e=>RR.lt_irrefl y (e ▸ h)
theorem RR.lt_of_ne {x y : RR} (h : x ≤ y) (k : x ≠ y) : x < y:=fun j=>k (RR.le_antisymm h j)
theorem RR.lt_tri (x y : RR) : x < y ∨ x = y ∨ y < x:=by
  by_cases h : x = y
  · exact .inr (.inl h)
  · rcases RR.le_total x y with k | k
    · exact .inl (RR.lt_of_ne k h)
    · exact .inr (.inr (RR.lt_of_ne k (Ne.symm h)))
theorem RR.le_iff_sub {x y : RR} : x ≤ y ↔ 0 ≤ y - x:=by rw [RR.le_def,RR.nn_iff]
theorem RR.lt_iff_sub {x y : RR} : x < y ↔ 0 < y - x:=by
  rw [RR.lt_def,RR.lt_def,RR.le_def,RR.le_def,RR.zero_sub,RR.neg_sub]
theorem RR.add_nn {x y : RR} (h : 0 ≤ x) (k : 0 ≤ y) : 0 ≤ x + y:=RR.nn_iff.1 (RR.nn_add (RR.nn_iff.2 h) (RR.nn_iff.2 k))
theorem RR.mul_nn {x y : RR} (h : 0 ≤ x) (k : 0 ≤ y) : 0 ≤ x * y:=RR.nn_iff.1 (RR.nn_mul (RR.nn_iff.2 h) (RR.nn_iff.2 k))
theorem RR.add_pos {x y : RR} (h : 0 < x) (k : 0 ≤ y) : 0 < x + y:=by
  refine RR.lt_of_ne (RR.add_nn (RR.le_of_lt h) k) fun e=>?_
  refine h ?_
  have : y = -x:=by rw [← RR.zero_add (-x),e,RR.add_comm x y,← RR.sub_eq,RR.add_sub]
  rw [RR.le_def,RR.zero_sub,← this];exact RR.nn_iff.2 k
theorem RR.neg_nn {x : RR} : 0 ≤ -x ↔ x ≤ 0:=by rw [RR.le_def,RR.le_def,RR.sub_zero,RR.zero_sub]
theorem RR.neg_pos {x : RR} : 0 < -x ↔ x < 0:=by rw [RR.lt_def,RR.lt_def,← RR.neg_nn,RR.neg_neg]
theorem RR.of_add (p q : Rat) : RR.of (p + q) = RR.of p + RR.of q:=rfl
theorem RR.of_mul (p q : Rat) : RR.of (p * q) = RR.of p * RR.of q:=rfl
theorem RR.of_neg (p : Rat) : RR.of (-p) = -RR.of p:=rfl
theorem RR.of_sub (p q : Rat) : RR.of (p - q) = RR.of p - RR.of q:=by rw [Rat.sub_eq_add_neg];rfl
theorem RR.of_le {p q : Rat} : RR.of p ≤ RR.of q ↔ p ≤ q:=by
  rw [RR.le_def,← RR.of_sub,RR.nn_of];constructor <;> intro h <;> grind
theorem RR.of_lt {p q : Rat} : RR.of p < RR.of q ↔ p < q:=by rw [RR.lt_def,RR.of_le,Rat.not_le]
theorem RR.of_inj {p q : Rat} : RR.of p = RR.of q ↔ p = q :=
  ⟨fun h=>Rat.le_antisymm (RR.of_le.1 (h ▸ RR.le_refl _)) (RR.of_le.1 (h ▸ RR.le_refl _)),fun h=>h ▸ rfl⟩
theorem RR.has_inv_neg {x : RR} : ¬ RR.nn x → ∃ y,x * y = 1:=by
  obtain ⟨f,hf,rfl⟩:=RR.rep x
  intro h
  obtain ⟨e,he,N,hN⟩:=Cau.away hf h
  refine ⟨RR.mk _ (hf.inv he fun i hi=>.inr (hN i hi)),RR.sound fun d hd=>⟨N,fun i hi=>?_⟩⟩
  have h1 : f i ≠ 0:=fun hz=>by have:=hN i hi;rw [hz] at this;grind
  have h2 : f i * (f i)⁻¹ = 1:=by grind
  have h3 : ((1 : Nat) : Rat) = 1:=rfl
  simp only [h2,h3]
  constructor <;> grind
theorem RR.has_inv {x : RR} (h : x ≠ 0) : ∃ y,x * y = 1:=by
  by_cases h1 : RR.nn x
  · by_cases h2 : RR.nn (-x)
    · exact absurd (RR.nn_anti h1 h2) h
    · obtain ⟨y,hy⟩:=RR.has_inv_neg h2
      exact ⟨-y,by rw [RR.mul_neg,← RR.neg_mul,hy]⟩
  · exact RR.has_inv_neg h1
theorem RR.mul_pos {x y : RR} (h : 0 < x) (k : 0 < y) : 0 < x * y:=by
  refine RR.lt_of_ne (RR.mul_nn (RR.le_of_lt h) (RR.le_of_lt k)) fun e=>?_
  obtain ⟨z,hz⟩:=RR.has_inv (Ne.symm (RR.ne_of_lt h))
  have : y = 0:=by rw [← RR.one_mul y,← hz,RR.mul_comm x z,RR.mul_assoc,← e,RR.mul_zero]
  exact RR.ne_of_lt k this.symm
open Classical in
noncomputable def RR.inv (x : RR) : RR:=if h : x = 0 then 0 else (RR.has_inv h).choose
theorem rat_arch (q : Rat) : ∃ n : Nat,q < n:=by
  refine ⟨(q.floor + 1).toNat,?_⟩
  have h:=Rat.lt_floor_add_one q
  have h2 : q.floor + 1 ≤ (((q.floor + 1).toNat : Nat) : Int):=Int.self_le_toNat _
  have h3 : ((q.floor + 1 : Int) : Rat) ≤ ((((q.floor + 1).toNat : Nat) : Int) : Rat):=Rat.intCast_le_intCast.2 h2
  have h4 : ((((q.floor + 1).toNat : Nat) : Int) : Rat) = (((q.floor + 1).toNat : Nat) : Rat):=rfl
  grind
theorem nat_step {p : Nat → Prop} (h0 : p 0) {m : Nat} (hm : ¬ p m) : ∃ k,p k ∧ ¬ p (k + 1):=by
  induction m with
  | zero=>exact absurd h0 hm
  | succ m ih =>
    by_cases h : p m
    · exact ⟨m,h,hm⟩
    · exact ih h
theorem root_near (q : Rat) (hq : 0 ≤ q) (n : Nat) : ∃ y : Rat,0 ≤ y ∧ y * y ≤ q ∧ q < (y + 1 / ((n : Rat) + 1)) * (y + 1 / ((n : Rat) + 1)):=by
  have hn : (0 : Rat) < (n : Rat) + 1:=by have : (0 : Rat) ≤ (n : Rat):=Rat.natCast_nonneg;grind
  generalize (n : Rat) + 1 = m at *
  clear n
  obtain ⟨M,hM⟩:=rat_arch (q * (m * m) + 1)
  have hmm:=rmul_pos hn hn
  obtain ⟨k,h1,h2⟩:=nat_step (p:=fun k=>(k : Rat) * k ≤ q * (m * m)) (by show ((0 : Nat) : Rat) * ((0 : Nat) : Rat) ≤ _;have:=Rat.mul_nonneg hq (Rat.le_of_lt hmm);have e : ((0 : Nat) : Rat) = 0:=rfl;rw [e];grind) (m:=M) (by
    intro h
    have h : (M : Rat) * M ≤ q * (m * m):=h
    have hM1 : (1 : Rat) < M:=by have:=Rat.mul_nonneg hq (Rat.le_of_lt hmm);grind
    have:=rmul_le (a:=1) (b:=M) (c:=(M : Rat)) (d:=M) (by decide) (Rat.le_of_lt hM1) (by grind) (by grind)
    grind)
  have h2_1:=h2
  have h2 : ¬ ((k + 1 : Nat) : Rat) * ((k + 1 : Nat) : Rat) ≤ q * (m * m):=h2
  have ek : ((k + 1 : Nat) : Rat) = (k : Rat) + 1:=by push_cast;rfl
  rw [ek] at h2
  have hk : (0 : Rat) ≤ (k : Rat):=Rat.natCast_nonneg
  generalize (k : Rat) = K at *
  clear ek hM
  refine ⟨K / m,?_,?_,?_⟩
  · rw [Rat.div_def];exact Rat.mul_nonneg hk (Rat.le_of_lt (Rat.inv_pos.2 hn))
  · refine Rat.not_lt.1 fun h=>?_
    have:=rmul_pos (show 0 < K / m * (K / m) - q by grind) hmm
    have e1 : K / m * m = K:=rmul_div hn
    generalize K / m = r at *
    have e3 : r * m * (r * m) = K * K:=by rw [e1]
    clear h2_1 h2
    grind
  · refine Rat.not_le.1 fun h=>?_
    have:=Rat.mul_nonneg (show 0 ≤ q - (K / m + 1 / m) * (K / m + 1 / m) by grind) (Rat.le_of_lt hmm)
    have e1 : K / m * m = K:=rmul_div hn
    have e2 : 1 / m * m = 1:=rmul_div hn
    generalize K / m = r at *
    generalize 1 / m = s at *
    have e3 : (r + s) * m * ((r + s) * m) = (K + 1) * (K + 1):=by rw [show (r + s) * m = K + 1 by grind]
    clear h2_1 h1
    grind
theorem inv_small {e : Rat} (he : 0 < e) : ∃ N : Nat,∀ n : Nat,N ≤ n → 0 < 1 / ((n : Rat) + 1) ∧ 1 / ((n : Rat) + 1) < e:=by
  obtain ⟨N,hN⟩:=rat_arch (1 / e)
  refine ⟨N,fun n hn=>?_⟩
  have h0 : (N : Rat) ≤ (n : Rat):=Rat.natCast_le_natCast.2 hn
  have h1:=rdiv_pos (a:=1) (by decide) he
  have h2 : 1 / e * e = 1:=rmul_div he
  have h3 : (0 : Rat) < (n : Rat) + 1:=by grind
  refine ⟨rdiv_pos (by decide) h3,?_⟩
  have h4 : 1 / ((n : Rat) + 1) * ((n : Rat) + 1) = 1:=rmul_div h3
  have h5:=rdiv_pos (a:=1) (by decide) h3
  generalize 1 / ((n : Rat) + 1) = u at *
  generalize 1 / e = v at *
  refine Rat.not_le.1 fun hle=>?_
  have:=rmul_pos (show 0 < (n : Rat) + 1 - v by grind) he
  have:=Rat.mul_nonneg (show 0 ≤ u - e by grind) (Rat.le_of_lt h3)
  grind
theorem max0_cau {f : Nat → Rat} (h : Cau f) : Cau fun n=>if 0 ≤ f n then f n else 0:=fun e he=>by
  obtain ⟨N,hN⟩:=h e he
  refine ⟨N,fun i j hi hj=>?_⟩
  have:=hN i j hi hj
  simp only
  split <;> split <;> grind
theorem max0_eq {f : Nat → Rat} (h : Cnn f) : Ceq (fun n=>if 0 ≤ f n then f n else 0) f:=fun e he=>by
  obtain ⟨N,hN⟩:=h e he
  refine ⟨N,fun i hi=>?_⟩
  have:=hN i hi
  simp only
  split <;> constructor <;> grind
theorem RR.has_root {x : RR} : RR.nn x → ∃ y,RR.nn y ∧ y * y = x:=by
  obtain ⟨f,hf,rfl⟩:=RR.rep x
  intro h
  have h : Cnn f:=h
  have hg:=max0_cau hf
  have he:=max0_eq h
  have hg0 : ∀ n,0 ≤ (fun n=>if 0 ≤ f n then f n else 0) n:=fun n=>by simp only;split <;> grind
  generalize (fun n=>if 0 ≤ f n then f n else 0) = g at *
  have hy : ∀ n,∃ y : Rat,0 ≤ y ∧ y * y ≤ g n ∧ g n < (y + 1 / ((n : Rat) + 1)) * (y + 1 / ((n : Rat) + 1)):=fun n=>root_near (g n) (hg0 n) n
  obtain ⟨y,hy⟩ : ∃ y : Nat → Rat,∀ n,0 ≤ y n ∧ y n * y n ≤ g n ∧ g n < (y n + 1 / ((n : Rat) + 1)) * (y n + 1 / ((n : Rat) + 1)):=⟨fun n=>(hy n).choose,fun n=>(hy n).choose_spec⟩
  have hc : Cau y:=fun e he=>by
    have hE:=rmul_pos (half_pos he) (half_pos he)
    obtain ⟨N,hN⟩:=hg _ hE
    obtain ⟨M,hM⟩:=inv_small (half_pos he)
    refine ⟨max N M,fun i j hi hj=>?_⟩
    have a:=hN i j (by omega) (by omega)
    obtain ⟨u0,u1⟩:=hM j (by omega)
    obtain ⟨p1,p2,p3⟩:=hy i
    obtain ⟨q1,q2,q3⟩:=hy j
    generalize 1 / ((j : Rat) + 1) = u at *
    generalize y i = Y at *
    generalize y j = Z at *
    generalize g i = A at *
    generalize g j = B at *
    refine Rat.not_le.1 fun hle=>?_
    have r1:=rmul_le (a:=Z + e) (b:=Y) (c:=Z + e) (d:=Y) (by grind) (by grind) (by grind) (by grind)
    have r2:=rmul_le (a:=Z + u) (b:=Z + e / 2) (c:=Z + u) (d:=Z + e / 2) (by grind) (by grind) (by grind) (by grind)
    have r3:=Rat.mul_nonneg q1 (Rat.le_of_lt he)
    have r4:=rmul_pos he he
    grind
  obtain ⟨B,hB,hb⟩:=hc.bound
  refine ⟨RR.mk y hc,fun e he=>⟨0,fun i _=>by have:=(hy i).1;grind⟩,RR.sound (Ceq.trans ?_ he)⟩
  intro e he'
  have hd:=rdiv_pos he' (show 0 < 2 * B + 1 by grind)
  obtain ⟨M,hM⟩:=inv_small hd
  obtain ⟨M2,hM2⟩:=inv_small (show (0 : Rat) < 1 by decide)
  refine ⟨max M M2,fun i hi=>?_⟩
  obtain ⟨u0,u1⟩:=hM i (by omega)
  obtain ⟨_,u2⟩:=hM2 i (by omega)
  obtain ⟨q1,q2,q3⟩:=hy i
  have hbi:=hb i
  have e1 : e / (2 * B + 1) * (2 * B + 1) = e:=rmul_div (by grind)
  generalize e / (2 * B + 1) = d at *
  generalize 1 / ((i : Rat) + 1) = u at *
  simp only
  generalize y i = Y at *
  generalize g i = A at *
  have r1:=Rat.mul_nonneg (show 0 ≤ B - Y by grind) (Rat.le_of_lt u0)
  have r2:=Rat.mul_nonneg (show 0 ≤ 1 - u by grind) (Rat.le_of_lt u0)
  have r3:=rmul_pos (show 0 < d - u by grind) (show 0 < 2 * B + 1 by grind)
  constructor <;> grind
open Classical in
noncomputable def RR.sq (x : RR) : RR:=if h : 0 ≤ x then (RR.has_root (RR.nn_iff.2 h)).choose else 0
theorem RR.sq_nonneg (x : RR) : 0 ≤ x.sq:=by
  unfold RR.sq;split
  · rename_i h;exact RR.nn_iff.1 (RR.has_root (RR.nn_iff.2 h)).choose_spec.1
  · exact RR.le_refl 0
theorem RR.sq_sq {x : RR} (h : 0 ≤ x) : x.sq * x.sq = x:=by
  unfold RR.sq;rw [dif_pos h];exact (RR.has_root (RR.nn_iff.2 h)).choose_spec.2
end Go.Proofs.YtdbdnabpaadigaaGreat
namespace Go.Proofs.YtdbdnabpaadigaaGreat
open Classical in
noncomputable def sgR (x : RR) : Int:=if x < 0 then -1 else if 0 < x then 1 else 0
theorem RR.lt_asymm {x y : RR} (h : x < y) : ¬ y < x:=fun k=>RR.lt_irrefl x (RR.lt_trans h k)
theorem sgR_cases (x : RR) : (x < 0 ∧ sgR x = -1) ∨ (x = 0 ∧ sgR x = 0) ∨ (0 < x ∧ sgR x = 1):=by
  rcases RR.lt_tri x 0 with h | h | h
  · exact .inl ⟨h,by unfold sgR;rw [if_pos h]⟩
  · subst h;exact .inr (.inl ⟨rfl,by unfold sgR;rw [if_neg (RR.lt_irrefl 0),if_neg (RR.lt_irrefl 0)]⟩)
  · exact .inr (.inr ⟨h,by unfold sgR;rw [if_neg (RR.lt_asymm h),if_pos h]⟩)
theorem sgR_pos {x : RR} (h : 0 < x) : sgR x = 1:=by
  unfold sgR;rw [if_neg (RR.lt_asymm h),if_pos h]
theorem sgR_neg {x : RR} (h : x < 0) : sgR x = -1:=by unfold sgR;rw [if_pos h]
theorem sgR_zero : sgR 0 = 0:=by unfold sgR;rw [if_neg (RR.lt_irrefl 0),if_neg (RR.lt_irrefl 0)]
theorem sgR_negate (x : RR) : sgR (-x) = -sgR x:=by
  rcases sgR_cases x with ⟨h,e⟩ | ⟨h,e⟩ | ⟨h,e⟩
  · rw [e,sgR_pos (RR.neg_pos.2 h)];rfl
  · subst h;rw [RR.neg_zero,sgR_zero];rfl
  · rw [e,sgR_neg];rw [← RR.neg_pos,RR.neg_neg];exact h
theorem sgR_mul (x y : RR) : sgR (x * y) = sgR x * sgR y:=by
  have pp : ∀ {x y : RR},0 < x → 0 < y → sgR (x * y) = sgR x * sgR y:=fun h k=>by rw [sgR_pos h,sgR_pos k,sgR_pos (RR.mul_pos h k)];rfl
  have np : ∀ {x y : RR},x < 0 → 0 < y → sgR (x * y) = sgR x * sgR y:=fun {x y} h k=>by
    have:=pp (RR.neg_pos.2 h) k
    rw [RR.neg_mul,sgR_negate,sgR_negate] at this
    rw [Int.neg_mul] at this;omega
  rcases RR.lt_tri x 0 with h | h | h
  · rcases RR.lt_tri y 0 with k | k | k
    · have:=np h (RR.neg_pos.2 k)
      rw [RR.mul_neg,sgR_negate,sgR_negate,Int.mul_neg] at this;omega
    · subst k;rw [RR.mul_zero,sgR_zero,Int.mul_zero]
    · exact np h k
  · subst h;rw [RR.zero_mul,sgR_zero,Int.zero_mul]
  · rcases RR.lt_tri y 0 with k | k | k
    · rw [RR.mul_comm,Int.mul_comm];exact np k h
    · subst k;rw [RR.mul_zero,sgR_zero,Int.mul_zero]
    · exact pp h k
theorem sgR_of (q : Rat) : sgR (RR.of q) = q.num.sign:=by
  rcases sgn_cases q.num with ⟨h,e⟩ | ⟨h,e⟩ | ⟨h,e⟩
  all_goals first
    | (rw [e];exact sgR_pos (RR.of_lt (p:=0) |>.2 (rat_pos_iff.2 (by omega))))
    | (rw [e]; have : q = 0 := (@Rat.num_eq_zero q).1 (by omega)
       subst this;exact sgR_zero)
    | (rw [e]; refine sgR_neg (RR.of_lt (q := 0) |>.2 ?_)
       have h1:=@Rat.num_nonneg q
       rcases Classical.em (0 ≤ q) with h2 | h2
       · have:=h1.2 h2;omega
       · exact Rat.not_le.1 h2)
theorem sgR_cmp (p q : Rat) : sgR (RR.of p - RR.of q) = cmpQ p q:=by
  rw [← RR.of_sub]
  unfold cmpQ
  split
  · exact sgR_neg (RR.of_lt (q:=0) |>.2 (by grind))
  · split
    · exact sgR_pos (RR.of_lt (p:=0) |>.2 (by grind))
    · have : p - q = 0:=by grind
      rw [this];exact sgR_zero
theorem RR.sub_def (x y : RR) : x - y = x + -y:=rfl
theorem sgR_add {u v : RR} : sgR (u + v) = if sgR u = 0 ∨ sgR u = sgR v then sgR v else if sgR v = 0 then sgR u else sgR u * sgR (u * u - v * v):=by
  have hf : u * u - v * v = (u + v) * (u - v):=by
    obtain ⟨f,hf,rfl⟩:=RR.rep u;obtain ⟨g,hg,rfl⟩:=RR.rep v
    exact RR.ext fun n=>by grind
  have hm:=sgR_mul (u + v) (u - v)
  rw [← hf] at hm
  rcases sgR_cases u with ⟨h,e⟩ | ⟨h,e⟩ | ⟨h,e⟩
  · rcases sgR_cases v with ⟨k,e2⟩ | ⟨k,e2⟩ | ⟨k,e2⟩
    · rw [e,e2,if_pos (.inr rfl)]
      refine sgR_neg ?_
      have h1:=RR.add_pos (RR.neg_pos.2 h) (RR.le_of_lt (RR.neg_pos.2 k))
      rw [← RR.neg_add] at h1
      exact RR.neg_pos.1 h1
    · subst k;rw [RR.add_zero,e,sgR_zero,if_neg (by decide),if_pos rfl]
    · rw [e,e2,if_neg (by decide),if_neg (by decide)]
      have h1 : sgR (u - v) = -1:=by
        refine sgR_neg ?_
        have h1:=RR.add_pos (RR.neg_pos.2 h) (RR.le_of_lt k)
        rw [← RR.neg_pos,RR.neg_sub,RR.sub_def,RR.add_comm];exact h1
      rw [h1] at hm;omega
  · subst h;rw [RR.zero_add,sgR_zero,if_pos (.inl rfl)]
  · rcases sgR_cases v with ⟨k,e2⟩ | ⟨k,e2⟩ | ⟨k,e2⟩
    · rw [e,e2,if_neg (by decide),if_neg (by decide)]
      have h1 : sgR (u - v) = 1:=by
        refine sgR_pos ?_
        exact RR.add_pos h (RR.le_of_lt (RR.neg_pos.2 k))
      rw [h1] at hm;omega
    · subst k;rw [RR.add_zero,e,sgR_zero,if_neg (by decide),if_pos rfl]
    · rw [e,e2,if_pos (.inr rfl)];exact sgR_pos (RR.add_pos h (RR.le_of_lt k))
theorem sgR_sq {w t : RR} (hw : 0 ≤ w) (ht : 0 ≤ t) : sgR (w - t) = sgR (w * w - t * t):=by
  have hf : w * w - t * t = (w - t) * (w + t):=by
    obtain ⟨f,hf,rfl⟩:=RR.rep w;obtain ⟨g,hg,rfl⟩:=RR.rep t
    exact RR.ext fun n=>by grind
  rw [hf,sgR_mul]
  rcases sgR_cases (w + t) with ⟨h,e⟩ | ⟨h,e⟩ | ⟨h,e⟩
  · exact absurd (RR.add_nn hw ht) h
  · have hw0 : w = 0 := by
      refine RR.le_antisymm ?_ hw
      refine RR.not_lt.1 fun k=>?_
      have:=RR.add_pos k ht
      rw [h] at this;exact RR.lt_irrefl 0 this
    have ht0 : t = 0:=by rw [hw0,RR.zero_add] at h;exact h
    rw [hw0,ht0,RR.sub_self,sgR_zero,Int.zero_mul]
  · rw [e,Int.mul_one]
noncomputable def rt (q : Rat) : RR:=(RR.of q).sq
theorem rt_nn (q : Rat) : 0 ≤ rt q:=RR.sq_nonneg _
theorem rt_sq {q : Rat} (h : 0 ≤ q) : rt q * rt q = RR.of q:=RR.sq_sq (RR.of_le (p:=0) |>.2 h)
theorem sgR_rt {q : Rat} (h : 0 ≤ q) : sgR (rt q) = q.num.sign:=by
  have h1:=sgR_mul (rt q) (rt q)
  rw [rt_sq h,sgR_of] at h1
  rcases sgR_cases (rt q) with ⟨k,e⟩ | ⟨k,e⟩ | ⟨k,e⟩
  · exact absurd (rt_nn q) k
  · rw [e] at h1 ⊢;omega
  · rw [e] at h1 ⊢;omega
theorem mixed_sg {x y d : Rat} (hd : 0 ≤ d) : mixedF x y d = sgR (RR.of x + RR.of y * rt d):=by
  rw [sgR_add,sgR_mul,sgR_of,sgR_of,sgR_rt hd]
  have hq : RR.of x * RR.of x - RR.of y * rt d * (RR.of y * rt d) = RR.of (x * x) - RR.of (y * y * d):=by
    rw [RR.of_mul,RR.of_mul,RR.of_mul,← rt_sq hd]
    generalize RR.of x = a;generalize RR.of y = b;generalize rt d = c
    obtain ⟨f,hf,rfl⟩:=RR.rep a;obtain ⟨g,hg,rfl⟩:=RR.rep b;obtain ⟨k,hk,rfl⟩:=RR.rep c
    exact RR.ext fun n=>by grind
  rw [hq,sgR_cmp]
  rfl
theorem rt_eq {a b : RR} (ha : 0 ≤ a) (hb : 0 ≤ b) (h : a * a = b * b) : a = b:=by
  have h1:=sgR_sq ha hb
  rw [h,RR.sub_self,sgR_zero] at h1
  rcases sgR_cases (a - b) with ⟨k,e⟩ | ⟨k,e⟩ | ⟨k,e⟩
  · omega
  · rw [← RR.sub_add a b,k,RR.zero_add]
  · omega
theorem rt_mul {a b : Rat} (ha : 0 ≤ a) (hb : 0 ≤ b) : rt (a * b) = rt a * rt b:=by
  refine rt_eq (rt_nn _) (RR.mul_nn (rt_nn a) (rt_nn b)) ?_
  rw [rt_sq (Rat.mul_nonneg ha hb),RR.of_mul,← rt_sq ha,← rt_sq hb]
  generalize rt a = x;generalize rt b = y
  obtain ⟨f,hf,rfl⟩:=RR.rep x;obtain ⟨g,hg,rfl⟩:=RR.rep y
  exact RR.ext fun n=>by grind
theorem rt_le {a b : Rat} (ha : 0 ≤ a) (hab : a ≤ b) : rt a ≤ rt b:=by
  have h1:=sgR_sq (rt_nn a) (rt_nn b)
  rw [rt_sq ha,rt_sq (by grind),sgR_cmp] at h1
  rcases sgR_cases (rt a - rt b) with ⟨k,e⟩ | ⟨k,e⟩ | ⟨k,e⟩
  · refine RR.le_of_lt (RR.lt_iff_sub.2 ?_)
    rw [← RR.neg_sub];exact RR.neg_pos.2 k
  · rw [← RR.sub_add (rt a) (rt b),k,RR.zero_add];exact RR.le_refl _
  · rw [e] at h1;unfold cmpQ at h1
    split at h1
    · omega
    · split at h1
      · grind
      · omega
noncomputable def rs (l : List Rat) : RR:=rt ((pairF l).getD 0 default) + rt ((pairF l).getD 1 default)
end Go.Proofs.YtdbdnabpaadigaaGreat
namespace Go.Proofs.YtdbdnabpaadigaaGreat
open Go.RowKit (Below)
theorem map_of4 (a b c d : Rat) : [FR.of a,FR.of b,FR.of c,FR.of d].map FR.val = [a,b,c,d]:=by simp [FR.of_val]
theorem posR_of4 (a : Rat) : posR (FR.of a) = decide (0 < a):=by unfold posR;rw [FR.of_ok,FR.of_val,Bool.true_and]
theorem lk_of4 (a b c d : Rat) (j : Nat) : lk [FR.of a,FR.of b,FR.of c,FR.of d] j = [a,b,c,d].getD ((orderF [a,b,c,d]).getD j default) default:=by
  unfold lk;rw [map_of4]
  have h:=orderF_lt [a,b,c,d] j
  generalize (orderF [a,b,c,d]).getD j default = i at h
  match i,h with
  | 0,_=>exact FR.of_val a
  | 1,_=>exact FR.of_val b
  | 2,_=>exact FR.of_val c
  | 3,_=>exact FR.of_val d
theorem ex_chk : chkF [FR.of 16,FR.of 1,FR.of 9,FR.of 9] = 0:=by
  unfold chkF;simp only [lk_of4,List.all_cons,List.all_nil,posR_of4];decide +kernel
end Go.Proofs.YtdbdnabpaadigaaGreat
namespace Go.Proofs.YtdbdnabpaadigaaGreat
end Go.Proofs.YtdbdnabpaadigaaGreat
namespace Go.Proofs.YtdbdnabpaadigaaGreat
open Go.RowKit (Below)
def surdF (x y d : Rat) : Int :=
  if x.num.sign = 0 ∨ y.num.sign * d.num.sign = 0 ∨ x.num.sign = y.num.sign * d.num.sign then (if x.num.sign = 0 then y.num.sign * d.num.sign else x.num.sign) else x.num.sign * cmpQ (x * x) (y * y * d)
def surdsF (x y d z e : Rat) : Int :=
  if surdF x y d = 0 ∨ z.num.sign * e.num.sign = 0 ∨ surdF x y d = z.num.sign * e.num.sign then (if surdF x y d = 0 then z.num.sign * e.num.sign else surdF x y d) else surdF x y d * surdF (x * x + y * y * d - z * z * e) (2 * (x * y)) d
theorem surd_mixed {x y d : Rat} : surdF x y d = mixedF x y d:=by
  unfold surdF mixedF
  generalize x.num.sign = s;generalize y.num.sign * d.num.sign = t;generalize cmpQ (x * x) (y * y * d) = c
  by_cases h1 : s = 0
  · rw [if_pos (.inl h1),if_pos h1,if_pos (.inl h1)]
  · by_cases h2 : s = t
    · rw [if_pos (.inr (.inr h2)),if_neg h1,if_pos (.inr h2),h2]
    · by_cases h3 : t = 0
      · rw [if_pos (.inr (.inl h3)),if_neg h1,if_neg (by omega),if_pos h3]
      · rw [if_neg (by omega),if_neg (by omega),if_neg h3]
theorem surd_sg {x y d : Rat} (hd : 0 ≤ d) : surdF x y d = sgR (RR.of x + RR.of y * rt d):=by rw [surd_mixed];exact mixed_sg hd
theorem surds_sg {x y d z e : Rat} (hd : 0 ≤ d) (he : 0 ≤ e) : surdsF x y d z e = sgR (RR.of x + RR.of y * rt d + RR.of z * rt e):=by
  unfold surdsF
  rw [surd_sg hd,surd_sg hd,sgR_add (u:=RR.of x + RR.of y * rt d)]
  rw [sgR_mul (RR.of z),sgR_of z,sgR_rt he]
  have hq : (RR.of x + RR.of y * rt d) * (RR.of x + RR.of y * rt d) - RR.of z * rt e * (RR.of z * rt e) = RR.of (x * x + y * y * d - z * z * e) + RR.of (2 * (x * y)) * rt d:=by
    have e1 : RR.of (x * x + y * y * d - z * z * e) = RR.of x * RR.of x + RR.of y * RR.of y * (rt d * rt d) - RR.of z * RR.of z * (rt e * rt e):=by
      rw [rt_sq hd,rt_sq he,RR.of_sub,RR.of_add,RR.of_mul,RR.of_mul,RR.of_mul,RR.of_mul,RR.of_mul]
    rw [e1,RR.of_mul,RR.of_mul]
    generalize RR.of x = a;generalize RR.of y = b;generalize rt d = c;generalize RR.of z = f;generalize rt e = g
    obtain ⟨a,ha,rfl⟩:=RR.rep a;obtain ⟨b,hb,rfl⟩:=RR.rep b;obtain ⟨c,hc,rfl⟩:=RR.rep c;obtain ⟨f,hf,rfl⟩:=RR.rep f;obtain ⟨g,hg,rfl⟩:=RR.rep g
    exact RR.ext fun n=>by grind
  rw [hq]
  generalize sgR (RR.of x + RR.of y * rt d) = s;generalize z.num.sign * e.num.sign = t;generalize sgR (RR.of (x * x + y * y * d - z * z * e) + RR.of (2 * (x * y)) * rt d) = c
  by_cases h1 : s = 0
  · rw [if_pos (.inl h1),if_pos h1,if_pos (.inl h1)]
  · by_cases h2 : s = t
    · rw [if_pos (.inr (.inr h2)),if_neg h1,if_pos (.inr h2),h2]
    · by_cases h3 : t = 0
      · rw [if_pos (.inr (.inl h3)),if_neg h1,if_neg (by omega),if_pos h3]
      · rw [if_neg (by omega),if_neg (by omega),if_neg h3]
theorem surd_bd (x y d : Rat) : -1 ≤ surdF x y d ∧ surdF x y d ≤ 1:=by
  have h0:=sgn_cases x.num;have h1:=sgn_cases y.num;have h2:=sgn_cases d.num
  have h3:=cmpQ_cases (x * x) (y * y * d)
  unfold surdF
  rcases h0 with ⟨_,e0⟩ | ⟨_,e0⟩ | ⟨_,e0⟩ <;> rcases h1 with ⟨_,e1⟩ | ⟨_,e1⟩ | ⟨_,e1⟩ <;> rcases h2 with ⟨_,e2⟩ | ⟨_,e2⟩ | ⟨_,e2⟩ <;> rcases h3 with e3 | e3 | e3 <;> rw [e0,e1,e2,e3] <;> decide
theorem surd_mul_bd (x y d x' y' d' : Rat) : -9223372036854775808 ≤ surdF x y d * surdF x' y' d' ∧ surdF x y d * surdF x' y' d' ≤ 9223372036854775807:=by
  have h1:=surd_bd x y d;have h2:=surd_bd x' y' d'
  generalize surdF x y d = u at *;generalize surdF x' y' d' = v at *
  have : (u = -1 ∨ u = 0 ∨ u = 1):=by omega
  rcases this with h | h | h <;> subst h <;> omega
theorem val_default : (default : FR).val = 0:=by
  show qval false [] [] = 0;simp [qval]
end Go.Proofs.YtdbdnabpaadigaaGreat
namespace Go.Proofs.YtdbdnabpaadigaaGreat
open Go.RowKit (Below)
theorem posR_val {r : FR} (h : posR r = true) : 0 < r.val:=by unfold posR at h;simp at h;exact h.2
theorem vals_pos {l : List FR} (h : l.all posR = true) (j : Nat) : 0 ≤ (l.getD j default).val:=by
  rw [List.getD_eq_getElem?_getD]
  cases hj : l[j]? with
  | none=>show 0 ≤ (default : FR).val;rw [val_default];exact Rat.le_refl
  | some z=>have:=posR_val (List.all_eq_true.1 h z (List.mem_of_getElem? hj));show 0 ≤ z.val;grind
theorem lk_nn {l : List FR} (h : l.all posR = true) (j : Nat) : 0 ≤ lk l j:=vals_pos h _
theorem chk_pos {l : List FR} (h : chkF l = 0) : l.all posR = true:=by
  unfold chkF at h
  cases hp : l.all posR with
  | true=>rfl
  | false=>rw [hp,if_neg (by decide)] at h;exact absurd h (by decide)
end Go.Proofs.YtdbdnabpaadigaaGreat
namespace Go.Proofs.YtdbdnabpaadigaaGreat
open Go.RowKit (Below)
def befR (xs : List Rat) (p q : Nat) : Prop:=if p < q then xs.getD p default ≤ xs.getD q default else xs.getD p default < xs.getD q default
theorem cmpQ_lt0 {x y : Rat} : cmpQ x y < 0 ↔ x < y:=by unfold cmpQ;split <;> (try split) <;> simp_all
section
variable {xs : List Rat} {p q i j k m : Nat}
theorem bef_t (hpq : q < p) (h : cmpQ (xs.getD p default) (xs.getD q default) < 0) : befR xs p q:=by unfold befR;rw [if_neg (by omega)];exact cmpQ_lt0.1 h
theorem bef_f (hpq : q < p) (h : ¬ cmpQ (xs.getD p default) (xs.getD q default) < 0) : befR xs q p:=by unfold befR;rw [if_pos hpq];rw [cmpQ_lt0] at h;exact Rat.not_lt.1 h
theorem ins1 : insF xs 1 [i,j,k,m] = if cmpQ (xs.getD j default) (xs.getD i default) < 0 then [j,i,k,m] else [i,j,k,m]:=rfl
theorem ins2 : insF xs 2 [i,j,k,m] = if cmpQ (xs.getD k default) (xs.getD j default) < 0 then insF xs 1 [i,k,j,m] else [i,j,k,m]:=rfl
theorem ins3 : insF xs 3 [i,j,k,m] = if cmpQ (xs.getD m default) (xs.getD k default) < 0 then insF xs 2 [i,j,m,k] else [i,j,k,m]:=rfl
theorem ins1_spec (hj : i < j) : (insF xs 1 [i,j,k,m] = [j,i,k,m] ∧ befR xs j i) ∨ (insF xs 1 [i,j,k,m] = [i,j,k,m] ∧ befR xs i j):=by
  rw [ins1];split
  · exact .inl ⟨rfl,bef_t hj ‹_›⟩
  · exact .inr ⟨rfl,bef_f hj ‹_›⟩
theorem ins2_spec (hi : i < k) (hj : j < k) (h : befR xs i j) : (insF xs 2 [i,j,k,m] = [k,i,j,m] ∧ befR xs k i ∧ befR xs i j) ∨ (insF xs 2 [i,j,k,m] = [i,k,j,m] ∧ befR xs i k ∧ befR xs k j) ∨ (insF xs 2 [i,j,k,m] = [i,j,k,m] ∧ befR xs i j ∧ befR xs j k):=by
  rw [ins2];split
  · rename_i h1
    rcases ins1_spec (xs:=xs) (k:=j) (m:=m) hi with ⟨e,b⟩ | ⟨e,b⟩
    · exact .inl ⟨e,b,h⟩
    · exact .inr (.inl ⟨e,b,bef_t hj h1⟩)
  · exact .inr (.inr ⟨rfl,h,bef_f hj ‹_›⟩)
theorem ins3_spec (hi : i < m) (hj : j < m) (hk : k < m) (h1 : befR xs i j) (h2 : befR xs j k) : (insF xs 3 [i, j, k, m] = [m, i, j, k] ∧ befR xs m i ∧ befR xs i j ∧ befR xs j k) ∨ (insF xs 3 [i, j, k, m] = [i, m, j, k] ∧ befR xs i m ∧ befR xs m j ∧ befR xs j k) ∨
    (insF xs 3 [i,j,k,m] = [i,j,m,k] ∧ befR xs i j ∧ befR xs j m ∧ befR xs m k) ∨ (insF xs 3 [i,j,k,m] = [i,j,k,m] ∧ befR xs i j ∧ befR xs j k ∧ befR xs k m):=by
  rw [ins3];split
  · rename_i h
    rcases ins2_spec (xs:=xs) (m:=k) hi hj h1 with ⟨e,b1,b2⟩ | ⟨e,b1,b2⟩ | ⟨e,b1,b2⟩
    · exact .inl ⟨e,b1,b2,h2⟩
    · exact .inr (.inl ⟨e,b1,b2,h2⟩)
    · exact .inr (.inr (.inl ⟨e,b1,b2,bef_t hk h⟩))
  · exact .inr (.inr (.inr ⟨rfl,h1,h2,bef_f hk ‹_›⟩))
end
def ordO (xs : List Rat) (o : List Nat) : Prop:=∃ i j k m,o = [i,j,k,m] ∧ [i,j,k,m].Perm [0,1,2,3] ∧ befR xs i j ∧ befR xs j k ∧ befR xs k m
theorem order_ok (xs : List Rat) : ordO xs (orderF xs):=by
  have e : orderF xs = insF xs 3 (insF xs 2 (insF xs 1 [0,1,2,3])):=rfl
  rw [e]
  rcases ins1_spec (xs:=xs) (i:=0) (j:=1) (k:=2) (m:=3) (by decide) with ⟨e1,b1⟩ | ⟨e1,b1⟩ <;> rw [e1]
  · rcases ins2_spec (xs:=xs) (i:=1) (j:=0) (k:=2) (m:=3) (by decide) (by decide) b1 with ⟨e2,c1,c2⟩ | ⟨e2,c1,c2⟩ | ⟨e2,c1,c2⟩ <;> rw [e2]
    all_goals rcases ins3_spec (xs:=xs) (m:=3) (by decide) (by decide) (by decide) c1 c2 with ⟨e3,d1,d2,d3⟩ | ⟨e3,d1,d2,d3⟩ | ⟨e3,d1,d2,d3⟩ | ⟨e3,d1,d2,d3⟩ <;> exact ⟨_,_,_,_,e3,by decide,d1,d2,d3⟩
  · rcases ins2_spec (xs:=xs) (i:=0) (j:=1) (k:=2) (m:=3) (by decide) (by decide) b1 with ⟨e2,c1,c2⟩ | ⟨e2,c1,c2⟩ | ⟨e2,c1,c2⟩ <;> rw [e2]
    all_goals rcases ins3_spec (xs:=xs) (m:=3) (by decide) (by decide) (by decide) c1 c2 with ⟨e3,d1,d2,d3⟩ | ⟨e3,d1,d2,d3⟩ | ⟨e3,d1,d2,d3⟩ | ⟨e3,d1,d2,d3⟩ <;> exact ⟨_,_,_,_,e3,by decide,d1,d2,d3⟩
theorem bef_le {xs : List Rat} {p q : Nat} (h : befR xs p q) : xs.getD p default ≤ xs.getD q default:=by
  unfold befR at h;split at h
  · exact h
  · grind
theorem bef_trans {xs : List Rat} {p q r : Nat} (h : befR xs p q) (k : befR xs q r) : befR xs p r:=by
  unfold befR at *
  split at h <;> split at k <;> split <;> first | grind | omega
theorem bef_asymm {xs : List Rat} {p q : Nat} (h : befR xs p q) (k : befR xs q p) : False:=by
  unfold befR at *
  split at h <;> split at k <;> first | grind | omega
theorem ordO_uniq {xs : List Rat} {o o' : List Nat} (h : ordO xs o) (h' : ordO xs o') : o = o':=by
  obtain ⟨i,j,k,m,rfl,hp,b1,b2,b3⟩:=h
  obtain ⟨i',j',k',m',rfl,hp',c1,c2,c3⟩:=h'
  have hperm:=hp.trans hp'.symm
  have hs : ∀ {i j k m : Nat},befR xs i j → befR xs j k → befR xs k m → [i,j,k,m].Pairwise (befR xs):=fun b1 b2 b3=>by
    simp only [List.pairwise_cons,List.mem_cons,List.not_mem_nil,or_false,forall_eq_or_imp,forall_eq,List.Pairwise.nil,and_true]
    exact ⟨⟨b1,bef_trans b1 b2,bef_trans (bef_trans b1 b2) b3⟩,⟨b2,bef_trans b2 b3⟩,b3,by simp⟩
  exact hperm.eq_of_pairwise (le:=befR xs) (fun a b _ _ h k=>(bef_asymm h k).elim) (hs b1 b2 b3) (hs c1 c2 c3)
end Go.Proofs.YtdbdnabpaadigaaGreat
namespace Go.Proofs.YtdbdnabpaadigaaGreat
open Go.RowKit (Below)
theorem sgR_le {x y : RR} : sgR (x - y) ≤ 0 ↔ x ≤ y:=by
  rcases sgR_cases (x - y) with ⟨h,e⟩ | ⟨h,e⟩ | ⟨h,e⟩ <;> rw [e]
  · refine ⟨fun _=>RR.le_of_lt (RR.lt_iff_sub.2 ?_),fun _=>by decide⟩
    rw [← RR.neg_sub];exact RR.neg_pos.2 h
  · refine ⟨fun _=>?_,fun _=>by decide⟩
    rw [← RR.sub_add x y,h,RR.zero_add];exact RR.le_refl _
  · refine ⟨fun h2=>absurd h2 (by decide),fun h2=>?_⟩
    have h3 : y < x:=RR.lt_iff_sub.2 h
    exact absurd h2 h3
theorem sgR_ge {x y : RR} : sgR (x - y) ≥ 0 ↔ y ≤ x:=by
  rw [← RR.neg_sub,sgR_negate]
  have:=@sgR_le y x
  constructor
  · intro h;exact this.1 (by omega)
  · intro h;have:=this.2 h;omega
section
variable {a b c d s p q m : Rat}
def rotQ (a b c d : Rat) : Prop:=compareF [a,b] [c,d] ≤ 0 ∧ compareF [maxQ a b,minQ c d] [minQ a b,maxQ c d] ≥ 0
theorem min_comm : minQ a b = minQ b a:=by unfold minQ;split <;> split <;> grind
variable (h0 : 0 ≤ s) (h1 : s ≤ p) (h2 : p ≤ q) (h3 : q ≤ m)
include h0 h1 h2 h3
end
end Go.Proofs.YtdbdnabpaadigaaGreat
namespace Go.Proofs.YtdbdnabpaadigaaGreat
theorem sgR_nn {x : RR} : sgR x ≥ 0 ↔ 0 ≤ x:=by
  have:=@sgR_ge x 0
  rwa [RR.sub_zero] at this
theorem closes_iff {p q r s : Rat} (hp : 0 ≤ p) (hq : 0 ≤ q) (hr : 0 ≤ r) (hs : 0 ≤ s) (hsp : s ≤ p) : closesF p q r s = true ↔ rt p ≤ rt q + rt r + rt s:=by
  have hqr:=Rat.mul_nonneg hq hr
  have hps:=Rat.mul_nonneg hp hs
  have hv : 0 ≤ rt p - rt s:=RR.le_iff_sub.1 (rt_le hs hsp)
  have e1 : sgR (rt q + rt r + rt s - rt p) = sgR (RR.of (q + r - (p + s)) + RR.of 2 * rt (q * r) + RR.of 2 * rt (p * s)):=by
    have e0 : rt q + rt r + rt s - rt p = (rt q + rt r) - (rt p - rt s):=by
      generalize rt p = a;generalize rt q = b;generalize rt r = c;generalize rt s = d
      obtain ⟨f,hf,rfl⟩:=RR.rep a;obtain ⟨g,hg,rfl⟩:=RR.rep b;obtain ⟨k,hk,rfl⟩:=RR.rep c;obtain ⟨l,hl,rfl⟩:=RR.rep d
      exact RR.ext fun n=>by grind
    rw [e0,sgR_sq (RR.add_nn (rt_nn q) (rt_nn r)) hv,rt_mul hq hr,rt_mul hp hs]
    congr 1
    rw [RR.of_sub,RR.of_add,RR.of_add,← rt_sq hp,← rt_sq hq,← rt_sq hr,← rt_sq hs]
    generalize rt p = a;generalize rt q = b;generalize rt r = c;generalize rt s = d
    obtain ⟨f,hf,rfl⟩:=RR.rep a;obtain ⟨g,hg,rfl⟩:=RR.rep b;obtain ⟨k,hk,rfl⟩:=RR.rep c;obtain ⟨l,hl,rfl⟩:=RR.rep d
    exact RR.ext fun n=>by grind
  rw [← sgR_ge,e1]
  have m1:=mixed_sg (x:=q + r - (p + s)) (y:=2) hqr
  have m2:=mixed_sg (x:=(q + r - (p + s)) * (q + r - (p + s)) + 4 * (q * r) - 4 * (p * s)) (y:=4 * (q + r - (p + s))) hqr
  have ht : 0 ≤ RR.of 2 * rt (p * s):=RR.mul_nn (RR.of_le (p:=0) |>.2 (by decide)) (rt_nn _)
  unfold closesF
  by_cases h : mixedF (q + r - (p + s)) 2 (q * r) ≥ 0
  · rw [if_pos h]
    rw [m1] at h
    exact ⟨fun _=>sgR_nn.2 (RR.add_nn (sgR_nn.1 h) ht),fun _=>rfl⟩
  · rw [if_neg h,decide_eq_true_iff,m2]
    rw [m1,sgR_nn] at h
    have hw : 0 ≤ -(RR.of (q + r - (p + s)) + RR.of 2 * rt (q * r)):=RR.neg_nn.2 (RR.le_of_lt h)
    have e2 : sgR (RR.of (q + r - (p + s)) + RR.of 2 * rt (q * r) + RR.of 2 * rt (p * s)) = -sgR (RR.of ((q + r - (p + s)) * (q + r - (p + s)) + 4 * (q * r) - 4 * (p * s)) + RR.of (4 * (q + r - (p + s))) * rt (q * r)):=by
      have e3 : RR.of (q + r - (p + s)) + RR.of 2 * rt (q * r) + RR.of 2 * rt (p * s) = -(-(RR.of (q + r - (p + s)) + RR.of 2 * rt (q * r)) - RR.of 2 * rt (p * s)):=by
        generalize RR.of 2 * rt (p * s) = a;generalize RR.of (q + r - (p + s)) + RR.of 2 * rt (q * r) = b
        obtain ⟨f,hf,rfl⟩:=RR.rep a;obtain ⟨g,hg,rfl⟩:=RR.rep b
        exact RR.ext fun n=>by grind
      rw [e3,sgR_negate,sgR_sq hw ht]
      congr 2
      generalize q + r - (p + s) = X
      rw [RR.of_sub,RR.of_add,RR.of_mul,RR.of_mul 4,RR.of_mul 4,RR.of_mul 4,← rt_sq hqr,← rt_sq hps]
      generalize RR.of X = a;generalize rt (q * r) = b;generalize rt (p * s) = c
      obtain ⟨f,hf,rfl⟩:=RR.rep a;obtain ⟨g,hg,rfl⟩:=RR.rep b;obtain ⟨k,hk,rfl⟩:=RR.rep c
      exact RR.ext fun n=>by grind
    rw [e2];omega
end Go.Proofs.YtdbdnabpaadigaaGreat
namespace Go.Proofs.YtdbdnabpaadigaaGreat
def sw1 (xs : List Rat) (o : List Nat) (i : Nat) : List Nat:=if cmpQ (xs.getD (o.getD i default) default) (xs.getD (o.getD (i + 1) default) default) > 0 then (o.set i (o.getD (i + 1) default)).set (i + 1) (o.getD i default) else o
def bubP (xs : List Rat) (o : List Nat) : Nat → List Nat
  | 0=>o
  | k + 1=>sw1 xs (bubP xs o k) k
def bub (xs : List Rat) : Nat → List Nat
  | 0=>[0,1,2,3]
  | n + 1=>bubP xs (bub xs n) 3
theorem cmpQ_gt0 {x y : Rat} : cmpQ x y > 0 ↔ y < x:=by unfold cmpQ;split <;> (try split) <;> simp_all <;> grind
section
variable {xs : List Rat} {a b c d : Nat}
def st2 (xs : List Rat) (p q : Nat) : Prop:=xs.getD p default = xs.getD q default → p < q
def stb (xs : List Rat) (a b c d : Nat) : Prop:=st2 xs a b ∧ st2 xs a c ∧ st2 xs a d ∧ st2 xs b c ∧ st2 xs b d ∧ st2 xs c d
theorem bef_keep (h : st2 xs a b) (k : ¬ cmpQ (xs.getD a default) (xs.getD b default) > 0) : befR xs a b:=by
  rw [cmpQ_gt0] at k;unfold st2 at h;unfold befR;split
  · grind
  · rename_i n;rcases Rat.le_iff_lt_or_eq.1 (Rat.not_lt.1 k) with e | e
    · exact e
    · exact absurd (h e) n
theorem bef_swap (k : cmpQ (xs.getD a default) (xs.getD b default) > 0) : befR xs b a ∧ st2 xs b a:=by
  rw [cmpQ_gt0] at k
  refine ⟨?_,fun e=>by grind⟩
  unfold befR;split
  · grind
  · exact k
theorem sw_0 (h : stb xs a b c d) : (sw1 xs [a,b,c,d] 0 = [a,b,c,d] ∧ befR xs a b) ∨ (sw1 xs [a,b,c,d] 0 = [b,a,c,d] ∧ befR xs b a ∧ [b,a,c,d].Perm [a,b,c,d] ∧ stb xs b a c d):=by
  obtain ⟨h1,h2,h3,h4,h5,h6⟩:=h
  show ((if cmpQ (xs.getD a default) (xs.getD b default) > 0 then [b,a,c,d] else [a,b,c,d]) = _ ∧ _) ∨ ((if cmpQ (xs.getD a default) (xs.getD b default) > 0 then [b,a,c,d] else [a,b,c,d]) = _ ∧ _)
  by_cases k : cmpQ (xs.getD a default) (xs.getD b default) > 0
  · rw [if_pos k];exact .inr ⟨rfl,(bef_swap k).1,.swap ..,(bef_swap k).2,h4,h5,h2,h3,h6⟩
  · rw [if_neg k];exact .inl ⟨rfl,bef_keep h1 k⟩
theorem sw_1 (h : stb xs a b c d) : (sw1 xs [a,b,c,d] 1 = [a,b,c,d] ∧ befR xs b c) ∨ (sw1 xs [a,b,c,d] 1 = [a,c,b,d] ∧ befR xs c b ∧ [a,c,b,d].Perm [a,b,c,d] ∧ stb xs a c b d):=by
  obtain ⟨h1,h2,h3,h4,h5,h6⟩:=h
  show ((if cmpQ (xs.getD b default) (xs.getD c default) > 0 then [a,c,b,d] else [a,b,c,d]) = _ ∧ _) ∨ ((if cmpQ (xs.getD b default) (xs.getD c default) > 0 then [a,c,b,d] else [a,b,c,d]) = _ ∧ _)
  by_cases k : cmpQ (xs.getD b default) (xs.getD c default) > 0
  · rw [if_pos k];exact .inr ⟨rfl,(bef_swap k).1,.cons _ (.swap ..),h2,h1,h3,(bef_swap k).2,h6,h5⟩
  · rw [if_neg k];exact .inl ⟨rfl,bef_keep h4 k⟩
theorem sw_2 (h : stb xs a b c d) : (sw1 xs [a,b,c,d] 2 = [a,b,c,d] ∧ befR xs c d) ∨ (sw1 xs [a,b,c,d] 2 = [a,b,d,c] ∧ befR xs d c ∧ [a,b,d,c].Perm [a,b,c,d] ∧ stb xs a b d c):=by
  obtain ⟨h1,h2,h3,h4,h5,h6⟩:=h
  show ((if cmpQ (xs.getD c default) (xs.getD d default) > 0 then [a,b,d,c] else [a,b,c,d]) = _ ∧ _) ∨ ((if cmpQ (xs.getD c default) (xs.getD d default) > 0 then [a,b,d,c] else [a,b,c,d]) = _ ∧ _)
  by_cases k : cmpQ (xs.getD c default) (xs.getD d default) > 0
  · rw [if_pos k];exact .inr ⟨rfl,(bef_swap k).1,.cons _ (.cons _ (.swap ..)),h1,h3,h2,h5,h4,(bef_swap k).2⟩
  · rw [if_neg k];exact .inl ⟨rfl,bef_keep h6 k⟩
def top1 (xs : List Rat) (a b c d : Nat) : Prop:=befR xs a d ∧ befR xs b d ∧ befR xs c d
def top2 (xs : List Rat) (a b c d : Nat) : Prop:=top1 xs a b c d ∧ befR xs a c ∧ befR xs b c
def top3 (xs : List Rat) (a b c d : Nat) : Prop:=top2 xs a b c d ∧ befR xs a b
theorem pass_ok (h : stb xs a b c d) : ∃ a' b' c' d',bubP xs [a,b,c,d] 3 = [a',b',c',d'] ∧ [a',b',c',d'].Perm [a,b,c,d] ∧ stb xs a' b' c' d' ∧ top1 xs a' b' c' d' ∧ (top1 xs a b c d → top2 xs a' b' c' d') ∧ (top2 xs a b c d → top3 xs a' b' c' d'):=by
  have e : bubP xs [a,b,c,d] 3 = sw1 xs (sw1 xs (sw1 xs [a,b,c,d] 0) 1) 2:=rfl
  rw [e]
  have T:=@bef_trans xs
  have A:=@bef_asymm xs
  have p1:=List.Perm.refl [a,b,c,d]
  rcases sw_0 h with ⟨e1,b1⟩ | ⟨e1,b1,p,h⟩ <;> rw [e1]
  all_goals try replace p1:=p.trans p1
  all_goals rcases sw_1 h with ⟨e2,b2⟩ | ⟨e2,b2,p,h⟩ <;> rw [e2]
  all_goals try replace p1:=p.trans p1
  all_goals rcases sw_2 h with ⟨e3,b3⟩ | ⟨e3,b3,p,h⟩ <;> rw [e3]
  all_goals try replace p1:=p.trans p1
  all_goals refine ⟨_,_,_,_,rfl,p1,h,?_⟩
  all_goals unfold top3 top2 top1;clear p1 h e e1 e2 e3
  all_goals grind
end
theorem bub_ok (xs : List Rat) : bub xs 4 = orderF xs:=by
  obtain ⟨a,b,c,d,e1,p1,h1,t1,_⟩:=pass_ok (xs:=xs) (a:=0) (b:=1) (c:=2) (d:=3) ⟨fun _=>by decide,fun _=>by decide,fun _=>by decide,fun _=>by decide,fun _=>by decide,fun _=>by decide⟩
  obtain ⟨a2,b2,c2,d2,e2,p2,h2,_,t2,_⟩:=pass_ok h1
  obtain ⟨a3,b3,c3,d3,e3,p3,h3,_,_,t3⟩:=pass_ok h2
  obtain ⟨a4,b4,c4,d4,e4,p4,_,_,_,t4⟩:=pass_ok h3
  have ht:=t4 (t3 (t2 t1)).1
  have e : bub xs 4 = [a4,b4,c4,d4]:=by
    show bubP xs (bubP xs (bubP xs (bubP xs [0,1,2,3] 3) 3) 3) 3 = _
    rw [e1,e2,e3,e4]
  exact ordO_uniq ⟨a4,b4,c4,d4,e,p4.trans (p3.trans (p2.trans p1)),ht.2,ht.1.2.2,ht.1.1.2.2⟩ (order_ok xs)
theorem sw1_len {xs : List Rat} {o : List Nat} {i : Nat} : (sw1 xs o i).length = o.length:=by unfold sw1;split <;> simp
theorem sw1_lt {xs : List Rat} {o : List Nat} {i : Nat} (h : ∀ x ∈ o,x < 4) (ho : o.length = 4) (hi : i < 3) : ∀ x ∈ sw1 xs o i,x < 4:=by
  unfold sw1;split
  · intro x hx
    rcases List.mem_or_eq_of_mem_set hx with e | e
    · rcases List.mem_or_eq_of_mem_set e with e | e
      · exact h x e
      · rw [e];exact getD_lt h (by omega)
    · rw [e];exact getD_lt h (by omega)
  · exact h
end Go.Proofs.YtdbdnabpaadigaaGreat
namespace Go.Proofs.YtdbdnabpaadigaaGreat
theorem vgetD (l : List FR) (j : Nat) : (l.map FR.val).getD j default = (l.getD j default).val:=by
  rw [List.getD_eq_getElem?_getD,List.getD_eq_getElem?_getD,List.getElem?_map]
  cases l[j]? <;> rfl
theorem lkD (l : List FR) (j : Nat) : lk l j = (l.map FR.val).getD ((orderF (l.map FR.val)).getD j default) default:=by rw [vgetD];rfl
theorem bub_t {xs : List Rat} {o : List Nat} {j : Nat} (h : cmpQ (xs.getD ((bubP xs o j).getD j default) default) (xs.getD ((bubP xs o j).getD (j + 1) default) default) > 0) : ((bubP xs o j).set j ((bubP xs o j).getD (j + 1) default)).set (j + 1) ((bubP xs o j).getD j default) = bubP xs o (j + 1):=(if_pos h).symm
theorem bub_f {xs : List Rat} {o : List Nat} {j : Nat} (h : ¬ cmpQ (xs.getD ((bubP xs o j).getD j default) default) (xs.getD ((bubP xs o j).getD (j + 1) default) default) > 0) : bubP xs o j = bubP xs o (j + 1):=(if_neg h).symm
theorem bubP_n {xs : List Rat} {j : Nat} (hj : ¬ j < 3) (hk : j ≤ 3) (p : Nat) : bubP xs (bub xs p) j = bub xs (p + 1):=by
  obtain rfl : j = 3:=by omega
  rfl
theorem bubP_len {xs : List Rat} {o : List Nat} (ho : o.length = 4) : ∀ j,(bubP xs o j).length = 4
  | 0=>ho
  | j + 1=>sw1_len.trans (bubP_len ho j)
theorem bubP_lt {xs : List Rat} {o : List Nat} (ho : o.length = 4) (h : ∀ x ∈ o,x < 4) : ∀ j,j ≤ 3 → ∀ x ∈ bubP xs o j,x < 4
  | 0,_=>h
  | j + 1,hj=>sw1_lt (bubP_lt ho h j (by omega)) (bubP_len ho j) (by omega)
theorem bub_len {xs : List Rat} : ∀ p,(bub xs p).length = 4
  | 0=>rfl
  | p + 1=>bubP_len (bub_len p) 3
theorem bub_lt {xs : List Rat} : ∀ p,∀ x ∈ bub xs p,x < 4
  | 0=>fun x hx=>by simp [bub] at hx;omega
  | p + 1=>bubP_lt (bub_len p) (bub_lt p) 3 (by omega)
theorem lk_le23 (l : List FR) : lk l 2 ≤ lk l 3:=by
  obtain ⟨i,j,k,m,e,hp,b1,b2,b3⟩:=order_ok (l.map FR.val)
  rw [lkD,lkD,e];exact bef_le b3
def rcloseF (l : List FR) : Int:=surdsF (lk l 3 + lk l 0 - (lk l 1 + lk l 2)) (-2) (lk l 3 * lk l 0) (-2) (lk l 1 * lk l 2)
theorem rclose_eq {l : List FR} (h : l.all posR = true) : rcloseF l > 0 ↔ ¬ closesF (lk l 3) (lk l 0) (lk l 1) (lk l 2) = true:=by
  have h0:=lk_nn h 0;have h1:=lk_nn h 1;have h2:=lk_nn h 2;have h3:=lk_nn h 3
  have h30 : lk l 0 ≤ lk l 3:=by
    obtain ⟨i,j,k,m,e,hp,b1,b2,b3⟩:=order_ok (l.map FR.val)
    rw [lkD,lkD,e];exact bef_le (bef_trans b1 (bef_trans b2 b3))
  rw [closes_iff h3 h0 h1 h2 (lk_le23 l)]
  unfold rcloseF
  rw [surds_sg (Rat.mul_nonneg h3 h0) (Rat.mul_nonneg h1 h2),rt_mul h3 h0,rt_mul h1 h2]
  have e : RR.of (lk l 3 + lk l 0 - (lk l 1 + lk l 2)) + RR.of (-2) * (rt (lk l 3) * rt (lk l 0)) + RR.of (-2) * (rt (lk l 1) * rt (lk l 2)) = (rt (lk l 3) - rt (lk l 0)) * (rt (lk l 3) - rt (lk l 0)) - (rt (lk l 1) + rt (lk l 2)) * (rt (lk l 1) + rt (lk l 2)):=by
    rw [RR.of_sub,RR.of_add,RR.of_add,← rt_sq h0,← rt_sq h1,← rt_sq h2,← rt_sq h3,show RR.of (-2) = -RR.of 2 from rfl]
    generalize rt (lk l 3) = a;generalize rt (lk l 0) = b;generalize rt (lk l 1) = c;generalize rt (lk l 2) = d
    obtain ⟨f,hf,rfl⟩:=RR.rep a;obtain ⟨g,hg,rfl⟩:=RR.rep b;obtain ⟨k,hk,rfl⟩:=RR.rep c;obtain ⟨m,hm,rfl⟩:=RR.rep d
    exact RR.ext fun n=>by grind
  rw [e,← sgR_sq (RR.le_iff_sub.1 (rt_le h0 h30)) (RR.add_nn (rt_nn _) (rt_nn _))]
  have e2 : rt (lk l 0) + rt (lk l 1) + rt (lk l 2) - rt (lk l 3) = -(rt (lk l 3) - rt (lk l 0) - (rt (lk l 1) + rt (lk l 2))):=by
    generalize rt (lk l 3) = a;generalize rt (lk l 0) = b;generalize rt (lk l 1) = c;generalize rt (lk l 2) = d
    obtain ⟨f,hf,rfl⟩:=RR.rep a;obtain ⟨g,hg,rfl⟩:=RR.rep b;obtain ⟨k,hk,rfl⟩:=RR.rep c;obtain ⟨m,hm,rfl⟩:=RR.rep d
    exact RR.ext fun n=>by grind
  rw [← sgR_ge,e2,sgR_negate];omega
theorem rchk16 {l : List FR} (h : l.all posR = true) (k : rcloseF l > 0) : (16 : Int) = chkF l:=(chk16 h (Bool.eq_false_iff.2 ((rclose_eq h).1 k))).symm
theorem rchk0 {l : List FR} (h : l.all posR = true) (k : ¬ rcloseF l > 0) : (0 : Int) = chkF l:=(chk0 h (Classical.not_not.1 fun n=>k ((rclose_eq h).2 n))).symm
end Go.Proofs.YtdbdnabpaadigaaGreat
