import Derived.Shelf.Strconv.Itoa3
import Derived.Test.YtboicjlbbbodgaaGreatDoorProg
import Derived.Lib.ItoaMem
import Derived.Test.YtboicjlbbbodgaaGreatDoorQTsh
set_option linter.unusedVariables false
set_option linter.unusedSimpArgs false
namespace Go.Proofs.YtboicjlbbbodgaaGreatDoor
theorem RR.neg_le {x y : RR} : -x ≤ y ↔ -y ≤ x:=by
  rw [RR.le_iff_sub,RR.le_iff_sub (x:=-y)]
  have e : y - -x = x - -y:=by
    obtain ⟨f,hf,rfl⟩:=RR.rep x;obtain ⟨g,hg,rfl⟩:=RR.rep y
    exact RR.ext fun n=>by grind
  rw [e]
theorem RR.add_le {x y z u : RR} (h : x ≤ y) (k : z ≤ u) : x + z ≤ y + u:=by
  rw [RR.le_iff_sub] at *
  have e : y + u - (x + z) = (y - x) + (u - z):=by
    obtain ⟨f,hf,rfl⟩:=RR.rep x;obtain ⟨g,hg,rfl⟩:=RR.rep y;obtain ⟨i,hi,rfl⟩:=RR.rep z;obtain ⟨j,hj,rfl⟩:=RR.rep u
    exact RR.ext fun n=>by grind
  rw [e];exact RR.add_nn h k
theorem RR.mul_le {x y z u : RR} (hx : 0 ≤ x) (h : x ≤ y) (hz : 0 ≤ z) (k : z ≤ u) : x * z ≤ y * u:=by
  have hy:=RR.le_trans hx h
  have h1:=RR.mul_nn (RR.le_iff_sub.1 h) hz
  have h2:=RR.mul_nn hy (RR.le_iff_sub.1 k)
  rw [RR.le_iff_sub]
  have e : y * u - x * z = (y - x) * z + y * (u - z):=by
    obtain ⟨f,hf,rfl⟩:=RR.rep x;obtain ⟨g,hg,rfl⟩:=RR.rep y;obtain ⟨i,hi,rfl⟩:=RR.rep z;obtain ⟨j,hj,rfl⟩:=RR.rep u
    exact RR.ext fun n=>by grind
  rw [e];exact RR.add_nn h1 h2
def ABS (x b : RR) : Prop:=-b ≤ x ∧ x ≤ b
theorem ABS.nn {x b : RR} (h : ABS x b) : 0 ≤ b:=by
  have h1:=RR.add_le (RR.neg_le.1 h.1) h.2
  rcases RR.le_total 0 b with h2 | h2
  · exact h2
  · have h3 : -x + x = 0:=by rw [RR.add_comm,RR.add_neg]
    rw [h3] at h1
    have h4:=RR.add_le h2 (RR.le_refl b)
    rw [RR.zero_add] at h4
    exact RR.le_trans h1 h4
theorem ABS.mul {x b y c : RR} (h : ABS x b) (hy : 0 ≤ y) (hc : y ≤ c) : ABS (x * y) (b * c):=by
  have hb:=h.nn
  have h1:=RR.mul_nn (RR.le_iff_sub.1 h.2) hy
  have h2:=RR.mul_nn (RR.le_iff_sub.1 h.1) hy
  have h3:=RR.mul_nn hb (RR.le_iff_sub.1 hc)
  constructor
  · rw [RR.le_iff_sub]
    have e : x * y - -(b * c) = (x - -b) * y + b * (c - y):=by
      obtain ⟨f,hf,rfl⟩:=RR.rep x;obtain ⟨g,hg,rfl⟩:=RR.rep y;obtain ⟨i,hi,rfl⟩:=RR.rep b;obtain ⟨j,hj,rfl⟩:=RR.rep c
      exact RR.ext fun n=>by grind
    rw [e];exact RR.add_nn h2 h3
  · rw [RR.le_iff_sub]
    have e : b * c - x * y = (b - x) * y + b * (c - y):=by
      obtain ⟨f,hf,rfl⟩:=RR.rep x;obtain ⟨g,hg,rfl⟩:=RR.rep y;obtain ⟨i,hi,rfl⟩:=RR.rep b;obtain ⟨j,hj,rfl⟩:=RR.rep c
      exact RR.ext fun n=>by grind
    rw [e];exact RR.add_nn h1 h3
theorem ABS.add {x b y c : RR} (h : ABS x b) (k : ABS y c) : ABS (x + y) (b + c):=⟨by rw [RR.neg_add];exact RR.add_le h.1 k.1,RR.add_le h.2 k.2⟩
theorem ABS.up {x b c : RR} (h : ABS x b) (k : b ≤ c) : ABS x c:=⟨RR.le_trans (RR.neg_le.1 (by rw [RR.neg_neg];exact k)) h.1,RR.le_trans h.2 k⟩
theorem RR.sq_le {x : RR} (h : 0 ≤ x) {b : Rat} (hb : 1 ≤ b) (hx : x ≤ RR.of b) : x.sq ≤ RR.of b:=by
  rcases RR.le_total x.sq (RR.of b) with h1 | h1
  · exact h1
  · have h2:=RR.sq_nonneg x
    have hb0 : (0 : RR) ≤ RR.of b:=RR.of_le (p:=0) |>.2 (by grind)
    have h3 : RR.of b * RR.of b ≤ x:=by rw [← RR.sq_sq h];exact RR.mul_le hb0 h1 hb0 h1
    have h4 : RR.of b ≤ RR.of b * RR.of b:=by rw [← RR.of_mul];exact RR.of_le.2 (by have:=rmul_le (a:=1) (b:=b) (c:=b) (d:=b) (by decide) hb (by grind) (Rat.le_refl);grind)
    have h5:=RR.le_trans h4 h3
    have h6:=RR.le_antisymm hx h5
    have h7 : RR.of b * RR.of b ≤ RR.of b:=by rw [← h6] at h3 ⊢;exact h3
    have h8 : b * b ≤ b:=by rw [← RR.of_mul] at h7;exact RR.of_le.1 h7
    have h9 : b = 1:=by
      have:=rmul_le (a:=1) (b:=b) (c:=b) (d:=b) (by decide) hb (by grind) (Rat.le_refl)
      have hz : b * (b - 1) = 0:=by grind
      rcases Rat.mul_eq_zero.1 hz with h | h <;> grind
    have h10 : x.sq = RR.of b:=by
      refine rt_eq h2 hb0 ?_
      rw [RR.sq_sq h,h6,← RR.of_mul,h9,Rat.mul_one]
    rw [h10];exact RR.le_refl _
def wB : Nat → Nat → Nat → Nat
  | 0,n,_=>n
  | k + 1,n,r=>wB k n r + wB k r r + 1
def CB (n : Nat) (l : List Rat) : Prop:=∀ i,-(2 : Rat) ^ n ≤ cf l i ∧ cf l i ≤ 2 ^ n
theorem pow2_pos (n : Nat) : (0 : Rat) < 2 ^ n:=Rat.pow_pos (by decide)
theorem pow2_one (n : Nat) : (1 : Rat) ≤ 2 ^ n:=by
  induction n with
  | zero=>exact Rat.le_refl
  | succ n ih=>rw [Rat.pow_succ];grind
theorem pow2_add (a b : Nat) : (2 : Rat) ^ (a + b) = 2 ^ a * 2 ^ b:=by
  induction b with
  | zero=>rw [Nat.add_zero,Rat.pow_zero,Rat.mul_one]
  | succ b ih=>rw [← Nat.add_assoc,Rat.pow_succ,ih,Rat.pow_succ,Rat.mul_assoc]
open El in
theorem vl_abs {d : Rts} {n r K : Nat} (hk : ok d K) (hd : ∀ j, j < K → ∃ f : Nat → Rat, d j = toF j f ∧ ∀ i, -(2 : Rat) ^ r ≤ f i ∧ f i ≤ 2 ^ r) :
    ∀ (k : Nat),k ≤ K → ∀ (n : Nat) (f : Nat → Rat),(∀ i,-(2 : Rat) ^ n ≤ f i ∧ f i ≤ 2 ^ n) → ABS (vl d (toF k f)) (RR.of (2 ^ wB k n r)):=by
  intro k
  induction k with
  | zero =>
    intro _ n f hf
    have:=hf 0
    exact ⟨by rw [← RR.of_neg];exact RR.of_le.2 this.1,RR.of_le.2 this.2⟩
  | succ k ih =>
    intro hK n f hf
    have h1:=ih (by omega) n f hf
    have h2:=ih (by omega) n (fun i=>f (2 ^ k + i)) fun i=>hf _
    obtain ⟨g,hg,hgb⟩:=hd k (by omega)
    have h3:=ih (by omega) r g hgb
    have h0 : 0 ≤ vl d (d k):=hk k (by omega)
    rw [← hg] at h3
    have h4:=RR.sq_le h0 (pow2_one _) h3.2
    have h5:=h2.mul (RR.sq_nonneg _) h4
    have h6:=h1.add h5
    show ABS (vl d (toF k f) + vl d (toF k fun i=>f (2 ^ k + i)) * (vl d (d k)).sq) _
    refine h6.up ?_
    rw [← RR.of_mul,← RR.of_add]
    refine RR.of_le.2 ?_
    show _ ≤ (2 : Rat) ^ (wB k n r + wB k r r + 1)
    rw [pow2_add,pow2_add]
    have ha:=pow2_one (wB k n r);have hb:=pow2_one (wB k r r)
    have hab:=rmul_le (a:=(2 : Rat) ^ wB k n r) (b:=2 ^ wB k n r) (c:=1) (d:=2 ^ wB k r r) (by grind) Rat.le_refl (by decide) hb
    have e1 : (2 : Rat) ^ 1 = 2:=by decide +kernel
    rw [e1]
    generalize (2 : Rat) ^ wB k n r = A at *
    generalize (2 : Rat) ^ wB k r r = C at *
    clear h6 h5 h4 h3 h2 h1 ih hgb hg hf
    grind
theorem vlL_abs {rs : List (List Rat)} (ht : TOK rs) {n r : Nat} {l : List Rat} (hp : PW rs.length l) (hl : CB n l) (hr : ∀ j,CB r (rs.getD j [])) : ABS (vlL rs l) (RR.of (2 ^ wB rs.length n r)):=by
  rw [El.vl_at ht.1 hp.le]
  exact vl_abs (n:=n) (r:=r) ht.ok (fun j hj=>⟨_,rfl,fun i=>hr j i⟩) rs.length (Nat.le_refl _) n _ hl
theorem qb_abs {n : Nat} {x : Rat} (h : qb n x) : -(2 : Rat) ^ n ≤ x ∧ x ≤ 2 ^ n:=by
  have h1 : x.num.natAbs < 2 ^ n:=h.1
  have hd : 0 < (x.den : Rat):=by have:=x.den_pos;exact Rat.natCast_pos.2 this
  have e : x * x.den = x.num:=by
    have h : (x.num : Rat) / (x.den : Rat) = x:=by
      have h:=Rat.num_divInt_den x
      rw [Rat.divInt_eq_div] at h;exact_mod_cast h
    have hne : (x.den : Rat) ≠ 0:=by grind
    have h2:=Rat.div_mul_cancel (a:=(x.num : Rat)) hne
    rw [h] at h2;exact h2
  have hd1 : (1 : Rat) ≤ x.den:=by have:=x.den_pos;exact_mod_cast this
  have hn : ((x.num.natAbs : Nat) : Rat) ≤ ((2 ^ n : Nat) : Rat):=by exact_mod_cast Nat.le_of_lt h1
  have hc : ((2 ^ n : Nat) : Rat) = (2 : Rat) ^ n:=by push_cast;rfl
  rw [hc] at hn
  have hn1 : (x.num : Rat) ≤ ((x.num.natAbs : Nat) : Rat):=by exact_mod_cast Int.le_natAbs
  have hn2 : -(x.num : Rat) ≤ ((x.num.natAbs : Nat) : Rat):=by
    have : -x.num ≤ (x.num.natAbs : Int):=by omega
    exact_mod_cast this
  have hp:=pow2_pos n
  have key : ∀ y p d : Rat,0 < p → 1 ≤ d → y * d ≤ p → y ≤ p:=fun y p d hp hd h=>by
    rcases (Rat.le_total : y ≤ p ∨ p ≤ y) with h1 | h1
    · exact h1
    · have:=rmul_le (a:=y) (b:=y) (c:=1) (d:=d) (by grind) Rat.le_refl (by decide) hd
      grind
  constructor
  · have:=key (-x) (2 ^ n) x.den hp hd1 (by grind)
    grind
  · exact key x (2 ^ n) x.den hp hd1 (by grind)
open Classical in
noncomputable def flR (v : RR) : Int:=if h : ∃ z : Int,RR.of z ≤ v ∧ v < RR.of (z + 1 : Int) then h.choose else 0
theorem flR_u {v : RR} {y z : Int} (h : RR.of y ≤ v) (k : v < RR.of (z + 1 : Int)) : y ≤ z:=by
  have:=RR.of_lt.1 (RR.lt_of_le_of_lt h k)
  have h2 : y < z + 1:=by exact_mod_cast this
  omega
theorem flR_eq {v : RR} {z : Int} (h : RR.of z ≤ v) (k : v < RR.of (z + 1 : Int)) : flR v = z:=by
  have hx : ∃ z : Int,RR.of z ≤ v ∧ v < RR.of (z + 1 : Int):=⟨z,h,k⟩
  unfold flR
  rw [dif_pos hx]
  obtain ⟨h1,h2⟩:=hx.choose_spec
  have a:=flR_u h1 k;have b:=flR_u h h2
  omega
theorem sg_whole {rs : List (List Rat)} {l : List Rat} {z : Int} : (sgL rs (plusF l (minusF [(z : Rat)])) ≥ 0 ↔ RR.of z ≤ vlL rs l) ∧ (sgL rs (plusF l (minusF [(z : Rat)])) < 0 ↔ vlL rs l < RR.of z):=by
  have e : vlL rs (plusF l (minusF [(z : Rat)])) = vlL rs l - RR.of z:=by
    rw [vlL_plus,vlL_minus]
    have : vlL rs [(z : Rat)] = RR.of z:=by
      rw [El.vl_at (k:=0) (by decide) (by simp)];rfl
    rw [this];rfl
  unfold sgL
  rw [e]
  have h:=sgR_cases (vlL rs l - RR.of z)
  have h1 : RR.of z ≤ vlL rs l ↔ 0 ≤ vlL rs l - RR.of z:=RR.le_iff_sub
  have h2 : vlL rs l < RR.of z ↔ vlL rs l - RR.of z < 0:=by rw [RR.lt_def,RR.lt_def,h1]
  rw [h1,h2]
  generalize vlL rs l - RR.of z = u at *
  rcases h with ⟨h3,h4⟩ | ⟨h3,h4⟩ | ⟨h3,h4⟩
  · rw [h4];exact ⟨⟨fun e=>by omega,fun e=>absurd e (RR.not_le.2 h3)⟩,⟨fun _=>h3,fun _=>by decide⟩⟩
  · rw [h4,h3];exact ⟨⟨fun _=>RR.le_refl _,fun _=>by decide⟩,⟨fun e=>by omega,fun e=>absurd e (RR.lt_irrefl _)⟩⟩
  · rw [h4];exact ⟨⟨fun _=>RR.le_of_lt h3,fun _=>by decide⟩,⟨fun e=>by omega,fun e=>absurd e (RR.lt_asymm h3)⟩⟩
theorem pwq {K : Nat} {x : Rat} : PW K [x]:=.inr ⟨0,Nat.zero_le _,rfl⟩
theorem pow2_le {a b : Nat} (h : (2 : Rat) ^ a ≤ 2 ^ b) : a ≤ b:=by
  rcases Nat.lt_or_ge b a with h1 | h1
  · exfalso
    obtain ⟨c,rfl⟩ : ∃ c,a = b + (c + 1):=⟨a - b - 1,by omega⟩
    rw [pow2_add,pow2_add] at h
    have e1 : (2 : Rat) ^ 1 = 2:=by decide +kernel
    rw [e1] at h
    have h2:=pow2_one b;have h3:=pow2_one c
    have h4:=rmul_le (a:=(2 : Rat) ^ b) (b:=2 ^ b) (c:=2) (d:=2 ^ c * 2) (by grind) Rat.le_refl (by decide) (by grind)
    grind
  · exact h1
theorem pow2_z {j : Nat} : ((((2 : Int) ^ j : Int)) : Rat) = 2 ^ j:=by push_cast;rfl
theorem pow2_n {j : Nat} : ((((2 : Nat) ^ j : Nat)) : Int) = 2 ^ j:=by push_cast;rfl
theorem fl_hi {v : RR} {B j : Nat} (hv : ABS v (RR.of (2 ^ B))) (h : RR.of ((2 : Int) ^ j : Int) ≤ v) : j ≤ B:=by
  have:=RR.of_le.1 (RR.le_trans h hv.2)
  rw [pow2_z] at this
  exact pow2_le this
theorem fl_lo {v : RR} {B j : Nat} (hv : ABS v (RR.of (2 ^ B))) (h : v < RR.of (-(2 : Int) ^ j : Int)) : j ≤ B:=by
  have h1 : -RR.of (2 ^ B) < RR.of (-(2 : Int) ^ j : Int):=RR.lt_of_le_of_lt hv.1 h
  rw [← RR.of_neg] at h1
  have:=RR.of_lt.1 h1
  rw [Rat.intCast_neg,pow2_z] at this
  exact pow2_le (by grind)
theorem wB_mono {r : Nat} : ∀ {k n m : Nat},n ≤ m → wB k n r ≤ wB k m r
  | 0,_,_,h=>h
  | k + 1,n,m,h=>by
    have:=wB_mono (r:=r) (k:=k) h
    unfold wB;omega
theorem wB_le {r : Nat} : ∀ {k n : Nat},n ≤ wB k n r
  | 0,_=>Nat.le_refl _
  | k + 1,n=>by
    have:=wB_le (r:=r) (k:=k) (n:=n)
    unfold wB;omega
noncomputable def eLo (rs : List (List Rat)) (l : List Rat) (b : Nat) : Rat:=Rat.divInt (flR (vlL rs (tmF rs l [(((2 : Int) ^ b : Int) : Rat)]))) (2 ^ b)
noncomputable def eHi (rs : List (List Rat)) (l : List Rat) (b : Nat) : Rat:=Rat.divInt (-flR (vlL rs (minusF (tmF rs l [(((2 : Int) ^ b : Int) : Rat)])))) (2 ^ b)
def eN (K n r : Nat) : Nat:=tB K (n + 130) r
def eB (K n r : Nat) : Nat:=wB K (eN K n r) r + 66
def wF (rs : List (List Rat)) (n r : Nat) : Nat:=wB rs.length n r + 66
theorem fl_bit {W B j : Nat} (hW : W = B + 66) (hj : j ≤ B + 1) : ((2 : Int) ^ j).natAbs < 2 ^ W ∧ (-(2 : Int) ^ j).natAbs < 2 ^ W ∧ ((2 : Int) ^ j).natAbs = 2 ^ j ∧ 2 ^ j ≤ 2 ^ (B + 1) ∧ 2 ^ (B + 1) + 2 ^ (B + 1) < 2 ^ W:=by
  have e : ((2 : Int) ^ j).natAbs = 2 ^ j:=by rw [← pow2_n];rfl
  have h1 : 2 ^ j ≤ 2 ^ (B + 1):=Nat.pow_le_pow_right (by decide) hj
  have h2 : 2 ^ (B + 2) < 2 ^ W:=Nat.pow_lt_pow_right (by decide) (by omega)
  have h3 : 2 ^ (B + 2) = 2 ^ (B + 1) + 2 ^ (B + 1):=by rw [Nat.pow_succ];omega
  refine ⟨by omega,by rw [Int.natAbs_neg];omega,e,h1,by omega⟩
theorem fl_dbl {j : Nat} : (2 : Int) ^ j + 2 ^ j = 2 ^ (j + 1) ∧ -(2 : Int) ^ j + -(2 : Int) ^ j = -2 ^ (j + 1):=by
  have : (2 : Int) ^ (j + 1) = 2 ^ j * 2:=Int.pow_succ 2 j
  omega
theorem fl_mid {a b : Int} (h : b - a > 1) : a < (a + b) / 2 ∧ (a + b) / 2 < b:=by omega
theorem cmpZ_gt {a b : Int} (h : cmpZ (b - a) 1 > 0) : b - a > 1:=by
  unfold cmpZ at h
  split at h
  · omega
  · split at h <;> omega
theorem cmpZ_ngt {a b : Int} (h : ¬ cmpZ (b - a) 1 > 0) : b - a ≤ 1:=by
  unfold cmpZ at h
  split at h
  · omega
  · split at h <;> omega
theorem fl_end {v : RR} {a b : Int} (h1 : RR.of a ≤ v) (h2 : v < RR.of b) (h : b - a ≤ 1) : flR v = a:=by
  have h3:=RR.of_lt.1 (RR.lt_of_le_of_lt h1 h2)
  have h4 : a < b:=by exact_mod_cast h3
  obtain rfl : b = a + 1:=by omega
  exact flR_eq h1 h2
theorem en_f {rs : List (List Rat)} {l : List Rat} {z : Rat} {n r : Nat} (h1 : 1 ≤ n) (hp : PW rs.length l) (hb : sB rs.length (eN rs.length n r + eB rs.length n r + 2 + r) r ≤ BIG) :
    lev (max l.length [z].length) ≤ rs.length ∧ PW (lev (max l.length [z].length)) l ∧ PW (lev (max l.length [z].length)) [z] ∧ tB (lev (max l.length [z].length)) (n + 130) r ≤ BIG ∧ 1 ≤ tB (lev (max l.length [z].length)) (n + 130) r ∧
    sB rs.length (tB (lev (max l.length [z].length)) (n + 130) r + wF rs (tB (lev (max l.length [z].length)) (n + 130) r) r + 2 + r) r ≤ BIG ∧ wF rs (tB (lev (max l.length [z].length)) (n + 130) r) r ≤ eB rs.length n r ∧ 130 ≤ eB rs.length n r ∧ eB rs.length n r ≤ BIG ∧ n ≤ BIG:=by
  obtain ⟨p1,p2,p3⟩:=pw_lvM hp (pwq (x:=z))
  have t1:=tB_up (r:=r) (n:=n + 130) p1
  have t2:=tB_le (r:=r) (k:=lev (max l.length [z].length)) (n:=n + 130)
  have t3:=tB_le (r:=r) (k:=rs.length) (n:=n + 130)
  have w1:=wB_mono (r:=r) (k:=rs.length) t1
  have w2:=wB_le (r:=r) (k:=rs.length) (n:=tB rs.length (n + 130) r)
  have e1 : eN rs.length n r = tB rs.length (n + 130) r:=rfl
  have e2 : eB rs.length n r = wB rs.length (tB rs.length (n + 130) r) r + 66:=rfl
  have e3 : wF rs (tB (lev (max l.length [z].length)) (n + 130) r) r = wB rs.length (tB (lev (max l.length [z].length)) (n + 130) r) r + 66:=rfl
  have s1:=sB_le (r:=r) (k:=rs.length) (n:=eN rs.length n r + eB rs.length n r + 2 + r)
  have s2:=sB_mono (r:=r) (k:=rs.length) (show tB (lev (max l.length [z].length)) (n + 130) r + wF rs (tB (lev (max l.length [z].length)) (n + 130) r) r + 2 + r ≤ eN rs.length n r + eB rs.length n r + 2 + r by omega)
  exact ⟨p1,p2,p3,by omega,by omega,by omega,by omega,by omega,by omega,by omega⟩
theorem two_ne {b : Nat} : ((2 : Int) ^ b) ≠ 0:=fun e=>by
  have:=congrArg Int.natAbs e
  rw [← pow2_n] at this
  have h:=Nat.two_pow_pos b
  simp at this
theorem two_bit {j : Nat} (h : j ≤ 65) : ((2 : Int) ^ j).natAbs < 2 ^ 130:=by
  have e : ((2 : Int) ^ j).natAbs = 2 ^ j:=by rw [← pow2_n];rfl
  rw [e]
  exact Nat.pow_lt_pow_right (by decide) (by omega)
end Go.Proofs.YtboicjlbbbodgaaGreatDoor
set_option maxHeartbeats 4000000
set_option maxRecDepth 100000
set_option synthInstance.maxSize 100000
set_option synthInstance.maxHeartbeats 400000
namespace Go.Proofs.YtboicjlbbbodgaaGreatDoor
open Go.RowKit (Below)
attribute [local irreducible] Go.Code.wp Go.wpList Go.bodyPost
private theorem gS_ {W0 : World} {G0 : Gh} {N : Nat} {L : List (Nat × MT)} {B : List BX} {a : Act} {w : World} {G : Gh} {q : Prop} (h : St W0 G0 N L B a w G → q) : St W0 G0 N L B a w G → q:=h
private theorem gL_ {p : Prop} {P : Program} {arr : Array Oper} {Q : Exit → Act → World → Prop} {l : List Oper} {a : Act} {w : World} (h : p → wpList P arr Q l a w) : p → wpList P arr Q l a w:=h
private theorem gC_ {p : Prop} {P : Program} {c : Code} {Q : Exit → Act → World → Prop} {a : Act} {w : World} (h : p → c.wp P Q a w) : p → c.wp P Q a w:=h
private theorem mixedOrders : Tryz.prog.follows .mixedOrders = true:=by kernel_rfl
end Go.Proofs.YtboicjlbbbodgaaGreatDoor
namespace Go.Proofs.YtboicjlbbbodgaaGreatDoor
open Go.RowKit (Below)
end Go.Proofs.YtboicjlbbbodgaaGreatDoor
namespace Go.Proofs.YtboicjlbbbodgaaGreatDoor
end Go.Proofs.YtboicjlbbbodgaaGreatDoor
namespace Go.Proofs.YtboicjlbbbodgaaGreatDoor
open Go.RowKit (Below)
theorem len2 {l : List FR} (h : l.length ≤ 2) : l = [] ∨ (∃ a,l = [a]) ∨ ∃ a b,l = [a,b]:=by
  match l,h with
  | [],_=>exact .inl rfl
  | [a],_=>exact .inr (.inl ⟨a,rfl⟩)
  | [a,b],_=>exact .inr (.inr ⟨a,b,rfl⟩)
end Go.Proofs.YtboicjlbbbodgaaGreatDoor
namespace Go.Proofs.YtboicjlbbbodgaaGreatDoor
open Go.RowKit (Below)
end Go.Proofs.YtboicjlbbbodgaaGreatDoor
namespace Go.Proofs.YtboicjlbbbodgaaGreatDoor
open Go.RowKit (Below)
section
variable {xs : List Rat} {p q i j k m : Nat}
end
end Go.Proofs.YtboicjlbbbodgaaGreatDoor
namespace Go.Proofs.YtboicjlbbbodgaaGreatDoor
open Go.RowKit (Below)
section
variable {a b c d s p q m : Rat}
theorem min_comm : minQ a b = minQ b a:=by unfold minQ;split <;> split <;> grind
theorem max_le (h : a ≤ b) : maxQ a b = b:=by unfold maxQ;split <;> grind
variable (h0 : 0 ≤ s) (h1 : s ≤ p) (h2 : p ≤ q) (h3 : q ≤ m)
include h0 h1 h2 h3
end
end Go.Proofs.YtboicjlbbbodgaaGreatDoor
namespace Go.Proofs.YtboicjlbbbodgaaGreatDoor
end Go.Proofs.YtboicjlbbbodgaaGreatDoor
namespace Go.Proofs.YtboicjlbbbodgaaGreatDoor
section
variable {xs : List Rat} {a b c d : Nat}
end
end Go.Proofs.YtboicjlbbbodgaaGreatDoor
namespace Go.Proofs.YtboicjlbbbodgaaGreatDoor
end Go.Proofs.YtboicjlbbbodgaaGreatDoor
namespace Go.Proofs.YtboicjlbbbodgaaGreatDoor
open Go.RowKit (Below)
attribute [local irreducible] Go.Code.wp Go.wpList Go.bodyPost
end Go.Proofs.YtboicjlbbbodgaaGreatDoor
namespace Go.Proofs.YtboicjlbbbodgaaGreatDoor
open Go.RowKit (Below)
attribute [local irreducible] Go.Code.wp Go.wpList Go.bodyPost
end Go.Proofs.YtboicjlbbbodgaaGreatDoor
namespace Go.Proofs.YtboicjlbbbodgaaGreatDoor
open Go.RowKit (Below)
attribute [local irreducible] Go.Code.wp Go.wpList Go.bodyPost
instance : DecidableEq FR:=fun r s=>decidable_of_iff (r.s = s.s ∧ r.p = s.p ∧ r.q = s.q) ⟨fun h=>by obtain ⟨a,b,c⟩:=r;obtain ⟨d,e,f⟩:=s;simp only at h;obtain ⟨rfl,rfl,rfl⟩:=h;rfl,fun h=>by subst h;exact ⟨rfl,rfl,rfl⟩⟩
theorem FR.eq_dec {r s : FR} : ((r.s == s.s) && decide (r.p = s.p) && decide (r.q = s.q)) = decide (r = s):=by
  rw [Bool.eq_iff_iff,Bool.and_eq_true,Bool.and_eq_true,decide_eq_true_eq,decide_eq_true_eq,decide_eq_true_eq,beq_iff_eq]
  obtain ⟨a,b,c⟩:=r;obtain ⟨d,e,f⟩:=s;simp [and_assoc]
theorem FR.of_inj {x y : Rat} (h : FR.of x = FR.of y) : x = y:=by rw [← FR.of_val (x:=x),h,FR.of_val]
section
variable {α : Type} {l k : List α} {j : Nat}
theorem eq_ln [DecidableEq α] (h : decide (((l.length : Nat) : Int) ≠ ((k.length : Nat) : Int)) = true) : false = decide (l = k):=by
  rw [decide_eq_true_eq] at h;exact (decide_eq_false fun e=>h (by rw [e])).symm
theorem eq_at [Inhabited α] [DecidableEq α] (hj : j < l.length) (hl : l.length = k.length) (h : l.getD j default ≠ k.getD j default) : false = decide (l = k):=(decide_eq_false fun e=>h (by rw [e])).symm
theorem eq_nx [Inhabited α] (hj : j < l.length) (hl : l.length = k.length) (h : l.take j = k.take j) (e : l.getD j default = k.getD j default) : l.take (j + 1) = k.take (j + 1):=by
  rw [List.getD_eq_getElem?_getD,List.getD_eq_getElem?_getD,List.getElem?_eq_getElem hj,List.getElem?_eq_getElem (by omega)] at e
  rw [List.take_add_one,List.take_add_one,h,List.getElem?_eq_getElem hj,List.getElem?_eq_getElem (by omega)]
  simp only [Option.getD_some] at e;rw [e]
theorem eq_en [DecidableEq α] (hj : ¬ j < l.length) (hl : l.length = k.length) (h : l.take j = k.take j) : true = decide (l = k):=by
  rw [List.take_of_length_le (by omega),List.take_of_length_le (by omega)] at h
  exact (decide_eq_true h).symm
end
theorem dig_getD (l : List Nat) (j : Nat) : dig l j = l.getD j default:=rfl
theorem w136 {l k : List Nat} : Con Tryz.prog 136 [SL l,SL k] (True) (BT (decide (l = k))):=.o2 fun hok h1 h2 hp=>by
  refine St.enter (N:=26) Tryz.func136 rfl rfl rfl hok (enter2 h1 h2) fun a=>?_
  have hlim:=SL.lim h1
  have hlim2:=SL.lim h2
  simp only [LIM] at hlim hlim2
  repeat' (first|((with_reducible refine gS_ ?_);first|((with_reducible refine gL_ ?_);first|refine W.run ?_ fun a w G=>?_|refine W.mv fun a w G=>?_|refine W.asg fun a w G=>?_|(refine W.nn hK ?_;clear hK K)|refine W.nl ?_|refine W.ste ?_ fun w=>?_)|((with_reducible refine gC_ ?_);first|refine W.reg fun K hK=>?_|refine W.reg1 ?_|refine W.sq fun K hK=>?_|refine W.ds ?_ (fun β a w G hu=>W.fin ?_ hu) mixedOrders (by kernel_rfl)|refine W.sk ?_|refine W.cd (fun hc=>?_) (fun hc=>?_)|refine W.cb (fun hc=>?_) (fun hc=>?_)|refine W.bl ?_|refine W.ex ?_|refine W.rt ?_)|((with_reducible refine W.kn hK ?_);clear hK K)|(with_reducible first|refine W.bn ?_|refine W.xt ?_|refine W.xb ?_|refine W.xo ?_|refine W.tr ?_|refine W.br ?_)|refine W.rt1 rfl ?_)|refine W.lp 11 (α:=Nat) (fun j=>l.length - j) (fun j=>j ≤ l.length ∧ l.take j = k.take j) [4,5,11,12,13,14,15,16,17,18,19,20,21,22,23,24,25] (fun j=>[(5,NT j)]) (fun j=>[]) (0) ?_ ?_ ?_ fun j hj a w G=>?_|refine W.ag (x:=j) (j+1) ?_ ?_ ?_ ?_|clear hK K|clear hu|exact True.intro|exact Nat.le_trans (by clear hp;omega) hp|exact Nat.le_trans (by clear hp;omega) hp.1|exact Nat.le_trans (by clear hp;omega) hp.2|(clear hp;omega)|apply And.intro|refine GI.i fun _=>?_|with_reducible rfl|decide|(simp only [List.length_cons,List.length_nil];omega))
  all_goals first
    | exact eq_ln (decide_eq_true hc)
    | (simp;done)
    | (exact (decide_eq_false fun e=>hc (by rw [e])).symm)
    | (have hle : l.length = k.length := by (have h0 : ¬ ((l.length : Nat) : Int) ≠ ((k.length : Nat) : Int) := by assumption); omega
       first
       | omega
       | exact eq_en (by omega) hle hj.2
       | ((simp only [Int.toNat_natCast,dig_getD] at *);first
         | exact eq_at (by omega) hle (by assumption)
         | exact eq_nx (by omega) hle hj.2 (Classical.not_not.1 (by assumption))))
    | skip
instance {l k : List Nat} {τ1 : MT} [j1 : NL τ1 (SL l)] {τ2 : MT} [j2 : NL τ2 (SL k)] : Con Tryz.prog 136 [τ1,τ2] (True) (BT (decide (l = k))):=.o2 fun hok h1 h2 hp=>w136.c2 hok (j1.h h1) (j2.h h2) hp
theorem w88 {r s : FR} : Con Tryz.prog 88 [RX r,RX s] (True) (BT (decide (r = s))):=.o2 fun hok h1 h2 hp=>by
  refine St.enter (N:=24) Tryz.func88 rfl rfl rfl hok (enter2 h1 h2) fun a=>?_
  repeat' (first|((with_reducible refine gS_ ?_);first|((with_reducible refine gL_ ?_);first|refine W.run ?_ fun a w G=>?_|refine W.mv fun a w G=>?_|refine W.asg fun a w G=>?_|refine W.bx fun b a w G=>?_|(refine W.nn hK ?_;clear hK K)|refine W.nl ?_|refine W.ste ?_ fun w=>?_)|((with_reducible refine gC_ ?_);first|refine W.reg fun K hK=>?_|refine W.reg1 ?_|refine W.sq fun K hK=>?_|refine W.sk ?_|refine W.rt ?_)|((with_reducible refine W.kn hK ?_);clear hK K)|with_reducible refine W.tr ?_|with_reducible refine W.br ?_|refine W.rt1 rfl ?_)|clear hK K|clear hu|exact True.intro|exact Nat.le_trans (by clear hp;omega) hp|exact Nat.le_trans (by clear hp;omega) hp.1|exact Nat.le_trans (by clear hp;omega) hp.2|(clear hp;omega)|apply And.intro|refine GI.i fun _=>?_|with_reducible rfl|decide|(simp only [List.length_cons,List.length_nil];omega))
  all_goals first | exact FR.eq_dec | skip
instance {r s : FR} {τ1 : MT} [j1 : NR τ1 (RX r)] {τ2 : MT} [j2 : NR τ2 (RX s)] : Con Tryz.prog 88 [τ1,τ2] (True) (BT (decide (r = s))):=.o2 fun hok h1 h2 hp=>w88.c2 hok (j1.h h1) (j2.h h2) hp
theorem w68 {xs ys : List FR} : Con Tryz.prog 68 [LS (some 3) (xs.map RX),LS (some 3) (ys.map RX)] (True) (BT (decide (xs = ys))):=.o2 fun hok h1 h2 hp=>by
  refine St.enter (N:=27) Tryz.func68 rfl rfl rfl hok (enter2 h1 h2) fun a=>?_
  have hlim:=LS.lenM h1
  have hlim2:=LS.lenM h2
  simp only [LIM] at hlim hlim2
  repeat' (first|((with_reducible refine gS_ ?_);first|((with_reducible refine gL_ ?_);first|refine W.run ?_ fun a w G=>?_|refine W.mv fun a w G=>?_|refine W.asg fun a w G=>?_|(refine W.nn hK ?_;clear hK K)|refine W.nl ?_|refine W.ste ?_ fun w=>?_)|((with_reducible refine gC_ ?_);first|refine W.reg fun K hK=>?_|refine W.reg1 ?_|refine W.sq fun K hK=>?_|refine W.ds ?_ (fun β a w G hu=>W.fin ?_ hu) mixedOrders (by kernel_rfl)|refine W.sk ?_|refine W.cd (fun hc=>?_) (fun hc=>?_)|refine W.cb (fun hc=>?_) (fun hc=>?_)|refine W.bl ?_|refine W.ex ?_|refine W.rt ?_)|((with_reducible refine W.kn hK ?_);clear hK K)|(with_reducible first|refine W.bn ?_|refine W.xt ?_|refine W.xb ?_|refine W.xo ?_|refine W.tr ?_|refine W.br ?_)|refine W.rt1 rfl ?_)|refine W.lp 11 (α:=Nat) (fun j=>xs.length - j) (fun j=>j ≤ xs.length ∧ xs.take j = ys.take j) [4,5,11,12,13,14,15,16,17,18,19,20,21,22,23,24,25,26] (fun j=>[(5,NT j)]) (fun j=>[]) (0) ?_ ?_ ?_ fun j hj a w G=>?_|refine W.ag (x:=j) (j+1) ?_ ?_ ?_ ?_|clear hK K|clear hu|exact True.intro|exact Nat.le_trans (by clear hp;omega) hp|exact Nat.le_trans (by clear hp;omega) hp.1|exact Nat.le_trans (by clear hp;omega) hp.2|(clear hp;omega)|apply And.intro|refine GI.i fun _=>?_|with_reducible rfl|decide|(simp only [List.length_cons,List.length_nil];omega))
  all_goals first
    | exact eq_ln (decide_eq_true hc)
    | (simp;done)
    | (exact (decide_eq_false fun e=>hc (by rw [e])).symm)
    | (have hle : xs.length = ys.length := by (have h0 : ¬ ((xs.length : Nat) : Int) ≠ ((ys.length : Nat) : Int) := by assumption); omega
       first
       | omega
       | exact eq_en (by omega) hle hj.2
       | (first
         | (refine eq_at (j:=j) (by omega) hle ?_;simp only [Bool.not_eq_true',decide_eq_false_iff_not] at hc;exact hc)
         | exact eq_nx (by omega) hle hj.2 (by simpa using hc)))
    | skip
instance {xs ys : List FR} {τ1 : MT} [j1 : NR τ1 (LS (some 3) (xs.map RX))] {τ2 : MT} [j2 : NR τ2 (LS (some 3) (ys.map RX))] : Con Tryz.prog 68 [τ1,τ2] (True) (BT (decide (xs = ys))):=.o2 fun hok h1 h2 hp=>w68.c2 hok (j1.h h1) (j2.h h2) hp
abbrev LFR (l : List FR) : MT:=LS (some 3) (l.map RX)
instance {l : List FR} : AsT (LS (some 3) (l.map RX)) LFR l:=⟨fun h=>h⟩
theorem NM.lfr {n : Nat} {l : List Rat} {v : Value} {G : Gh} (h : (NM n l).t v G) : (LFR (l.map FR.of)).t v G:=LS.convM (T:=QC n) (U:=RX) (f:=FR.of) h (by simp) fun x hx v G hv=>FX.toRX (QC.toFX hv (one_le_of_lt x.den_nz hv.1.2))
instance NR.nm {n : Nat} {l : List Rat} : NR (LS (some 3) (l.map (QC n))) (LS (some 3) ((l.map FR.of).map RX)):=⟨NM.lfr⟩
instance NR.rts {n : Nat} {rs : List (List Rat)} : NR (LS none (rs.map (NM n))) (LS none ((rs.map (List.map FR.of)).map LFR)):=⟨fun h=>LS.convM (T:=NM n) (U:=LFR) (f:=List.map FR.of) h (by simp) fun x hx v G hv=>NM.lfr hv⟩
theorem mof_inj {l k : List Rat} (h : l.map FR.of = k.map FR.of) : l = k:=by
  induction l generalizing k with
  | nil=>cases k with
    | nil=>rfl
    | cons y k=>cases h
  | cons x l ih=>cases k with
    | nil=>cases h
    | cons y k=>simp only [List.map_cons,List.cons.injEq] at h;rw [FR.of_inj h.1,ih h.2]
theorem mof_dec {l k : List Rat} : decide (l.map FR.of = k.map FR.of) = decide (l = k):=decide_eq_decide.2 ⟨mof_inj,fun h=>by rw [h]⟩
theorem PTS.lenL {α : Type} {T : α → MT} {xs : List α} {v : Value} {G : Gh} (h : (PTS [(none,LS none (xs.map T))]).t v G) : xs.length ≤ LIM:=by
  obtain ⟨us,_,hl,hE⟩:=h
  match us,hl with
  | u :: us,_=>exact LS.lenM (hE 0 _ u rfl rfl).2
instance (priority:=1100) {n m : Nat} {l k : List Rat} {τ1 τ2 : MT} [j1 : NU τ1 (NM n l)] [j2 : NU τ2 (NM m k)] : Con Tryz.prog 68 [τ1,τ2] True (BT (decide (l = k))):=.o2 fun hok h1 h2 hp=>by
  have:=(inferInstance : Con Tryz.prog 68 [NM n l,NM m k] _ _).c2 hok (j1.h h1) (j2.h h2) hp
  rwa [mof_dec] at this
end Go.Proofs.YtboicjlbbbodgaaGreatDoor
namespace Go.Proofs.YtboicjlbbbodgaaGreatDoor
open Go.RowKit (Below)
class Drp (L : List (Nat × MT)) (ws : List Nat) (L' : outParam (List (Nat × MT))) : Prop where
  h : ∀ p ∈ L',p ∈ L
instance Drp.nil {ws : List Nat} : Drp [] ws []:=⟨fun _ h=>h⟩
instance Drp.hd {L L' : List (Nat × MT)} {ws : List Nat} {t : Nat} {τ : MT} [In ws t] [h : Drp L ws L'] : Drp ((t,τ) :: L) ws L':=⟨fun p hp=>.tail _ (h.h p hp)⟩
instance (priority:=500) Drp.tl {L L' : List (Nat × MT)} {ws : List Nat} {x : Nat × MT} [h : Drp L ws L'] : Drp (x :: L) ws (x :: L'):=⟨fun p hp=>by
  rcases List.mem_cons.1 hp with e | e
  · subst e;exact .head _
  · exact .tail _ (h.h p e)⟩
class GcT (f id : Nat) (k : Bool) (t : outParam Nat) (ws : outParam (List Nat)) : Prop
section
variable {P : Program} {B : List BX} {L L' : List (Nat × MT)} {W0 : World} {G0 : Gh} {N : Nat} {a : Act} {w : World} {G : Gh} {Q : Exit → Act → World → Prop} {c c1 : Code} {τ0 : MT} {bd : Bool} {l : Array Oper}
theorem W.gcc (f : Nat) {id t : Nat} {ws : List Nat} [g : GcT f id false t ws] [Lk L t τ0] [d : Drp L (t :: ws) L'] (h : St W0 G0 N L' B a w G → (Code.seq (.region id l bd) c).wp P Q a w) : St W0 G0 N L B a w G → (Code.seq (.region id l bd) c).wp P Q a w:=fun S=>h (S.only d.h)
theorem W.gcd (f : Nat) {id t : Nat} {ws : List Nat} [g : GcT f id true t ws] [Lk L t τ0] [d : Drp L (t :: ws) L'] (h : St W0 G0 N L' B a w G → (Code.seq (.block id c1) c).wp P Q a w) : St W0 G0 N L B a w G → (Code.seq (.block id c1) c).wp P Q a w:=fun S=>h (S.only d.h)
end
end Go.Proofs.YtboicjlbbbodgaaGreatDoor
namespace Go.Proofs.YtboicjlbbbodgaaGreatDoor
class ApM (l m : List MT) (r : outParam (List MT)) : Prop where
  h : l ++ m = r
instance ApM.nil {m : List MT} : ApM [] m m:=⟨rfl⟩
instance ApM.cons {x : MT} {l m r : List MT} [h : ApM l m r] : ApM (x :: l) m (x :: r):=⟨by rw [← h.h];rfl⟩
instance Op1.apc {P : Program} {L : List (Nat × MT)} {B : List BX} {x y : Operand} {u v : List Nat} {t e by0 : Nat} {τ : MT} {τs σs ρs : List MT} [el : ElS P t e none by0 (.slice none 0 0)] [hx : Opd L x (LSC none τs) u] [hy : Opd L y τ v] [ay : AsLS τ none σs] [ap : ApM τs σs ρs] : Op1 P L B (.call { callee:=.builtin .append,args:=#[x,y],argTypes:=#[t,t] }) (τs.length + σs.length ≤ LIM ∧ (τs.length + σs.length) * by0 ≤ 140737488355328) (LS none ρs) (u ++ v):=⟨fun ho hok e' _ hp=>by
  have h:=OpR.appSC hok ho el.h1 el.h2 ⟨rfl,rfl⟩ (hx.h e'.l) (ay.h (hy.h e'.r)) hp.1 hp.2
  rw [ap.h] at h;exact h⟩
end Go.Proofs.YtboicjlbbbodgaaGreatDoor
namespace Go.Proofs.YtboicjlbbbodgaaGreatDoor
open Go.Shelf
def laysItoa_ren : Go.Shelf.Ren:=⟨fun | 171=>154 | 243=>168 | 246=>185 | 283=>192 | 284=>193 | 285=>194 | 286=>195 | 129=>199 | 317=>198 | 318=>200 | 319=>201 | 320=>202 | 337=>203 | 338=>204 | n=>n,fun | 3=>3 | 9=>9 | 2=>2 | 4=>4 | 171=>179 | 0=>0 | 53=>139 | 37=>161 | 5=>5 | 173=>182 | 212=>189 | 51=>99 | 20=>20 | 213=>190 | 46=>140 | 232=>193 | 233=>194 | n=>n,fun | 17=>0 | 18=>2 | 19=>3 | n=>n⟩
theorem laysItoa : Go.Proofs.LaysM.n171 Tryz.prog laysItoa_ren:={
  mixed:=by kernel_rfl
  f129:=Tryz.func199.trans (congrArg some (by kernel_rfl))
  f171:=Tryz.func154.trans (congrArg some (by kernel_rfl))
  f243:=Tryz.func168.trans (congrArg some (by kernel_rfl))
  f246:=Tryz.func185.trans (congrArg some (by kernel_rfl))
  f283:=Tryz.func192.trans (congrArg some (by kernel_rfl))
  f284:=Tryz.func193.trans (congrArg some (by kernel_rfl))
  f285:=Tryz.func194.trans (congrArg some (by kernel_rfl))
  f286:=Tryz.func195.trans (congrArg some (by kernel_rfl))
  f317:=Tryz.func198.trans (congrArg some (by kernel_rfl))
  f318:=Tryz.func200.trans (congrArg some (by kernel_rfl))
  f319:=Tryz.func201.trans (congrArg some (by kernel_rfl))
  f320:=Tryz.func202.trans (congrArg some (by kernel_rfl))
  f337:=Tryz.func203.trans (congrArg some (by kernel_rfl))
  f338:=Tryz.func204.trans (congrArg some (by kernel_rfl))
  t0:=Tryz.underlying0
  a0:=Tryz.isAgg0
  z0:=Tryz.sizeOf0
  v0:=Tryz.zeroValue0
  t2:=Tryz.underlying2
  a2:=Tryz.isAgg2
  z2:=Tryz.sizeOf2
  v2:=Tryz.zeroValue2
  t3:=Tryz.underlying3
  a3:=Tryz.isAgg3
  z3:=Tryz.sizeOf3
  v3:=Tryz.zeroValue3
  t4:=Tryz.underlying4
  a4:=Tryz.isAgg4
  z4:=Tryz.sizeOf4
  v4:=Tryz.zeroValue4
  t5:=Tryz.underlying5
  a5:=Tryz.isAgg5
  z5:=Tryz.sizeOf5
  v5:=Tryz.zeroValue5
  t9:=Tryz.underlying9
  a9:=Tryz.isAgg9
  z9:=Tryz.sizeOf9
  v9:=Tryz.zeroValue9
  t20:=Tryz.underlying20
  a20:=Tryz.isAgg20
  z20:=Tryz.sizeOf20
  v20:=Tryz.zeroValue20
  t37:=Tryz.underlying161
  a37:=Tryz.isAgg161
  z37:=Tryz.sizeOf161
  v37:=Tryz.zeroValue161
  t46:=Tryz.underlying140
  a46:=Tryz.isAgg140
  z46:=Tryz.sizeOf140
  v46:=Tryz.zeroValue140
  t51:=Tryz.underlying99
  a51:=Tryz.isAgg99
  z51:=Tryz.sizeOf99
  v51:=Tryz.zeroValue99
  t53:=Tryz.underlying139
  a53:=Tryz.isAgg139
  z53:=Tryz.sizeOf139
  v53:=Tryz.zeroValue139
  t171:=Tryz.underlying179
  a171:=Tryz.isAgg179
  z171:=Tryz.sizeOf179
  v171:=Tryz.zeroValue179
  t173:=Tryz.underlying182
  a173:=Tryz.isAgg182
  z173:=Tryz.sizeOf182
  v173:=Tryz.zeroValue182
  t212:=Tryz.underlying189
  a212:=Tryz.isAgg189
  z212:=Tryz.sizeOf189
  v212:=Tryz.zeroValue189
  t213:=Tryz.underlying190
  a213:=Tryz.isAgg190
  z213:=Tryz.sizeOf190
  t232:=Tryz.underlying193
  a232:=Tryz.isAgg193
  z232:=Tryz.sizeOf193
  v232:=Tryz.zeroValue193
  t233:=Tryz.underlying194
  a233:=Tryz.isAgg194
  z233:=Tryz.sizeOf194
  v233:=Tryz.zeroValue194
  g17:=by kernel_rfl
  g18:=by kernel_rfl
  g19:=by kernel_rfl
  i0:=by kernel_rfl
  i2:=by kernel_rfl
  i3:=by kernel_rfl
  i4:=by kernel_rfl
  i5:=by kernel_rfl
  i9:=by kernel_rfl
  i20:=by kernel_rfl
  i37:=by kernel_rfl
  i46:=by kernel_rfl
  i51:=by kernel_rfl
  i53:=by kernel_rfl
  i171:=by kernel_rfl
  i173:=by kernel_rfl
  i212:=by kernel_rfl
  i232:=by kernel_rfl
  i233:=by kernel_rfl
  m17:=by kernel_rfl
  m18:=by kernel_rfl
  m19:=by kernel_rfl }
end Go.Proofs.YtboicjlbbbodgaaGreatDoor
namespace Go.Proofs.YtboicjlbbbodgaaGreatDoor
open Go.RowKit (Below)
def tabC : Array Value:=(Lib.pow10Tab.map fun z=>Value.int .u64 z).toArray
def TAB (G : Gh) : Prop:=∃ t f,G (laysItoa_ren.g 17) = some (.cells tabC t f)
theorem TAB.mono {G G' : Gh} (h : Gle G G') : TAB G → TAB G':=fun ⟨t,f,e⟩=>⟨t,f,h _ _ e⟩
def TABT : MT:=⟨fun _ G=>TAB G,fun h k=>k.mono h⟩
theorem TAB.is {P : Program} {w : World} {G : Gh} {n : String} (hok : Gok w G) (h : TAB G) (hn : P.globalNamed n = some (laysItoa_ren.g 17)) : Lib.TabIs P w n .u64 Lib.pow10Tab:=by
  obtain ⟨t,f,e⟩:=h
  unfold Lib.TabIs World.var?
  rw [hn,Option.bind_some,hok _ _ e];rfl
theorem TAB.of {P : Program} {W : World} {n : String} (hn : P.globalNamed n = some (laysItoa_ren.g 17)) (h : Lib.TabIs P W n .u64 Lib.pow10Tab) {G : Gh} (hG : ∀ b,G b = W.heap[b]?) : TAB G:=by
  unfold Lib.TabIs World.var? at h
  rw [hn,Option.bind_some] at h
  split at h
  · rename_i cs t f e
    cases h
    exact ⟨t,f,(hG _).trans e⟩
  · cases h
class ConT (P : Program) (f : Nat) (τs : List MT) (pre : outParam Prop) (ρ : outParam MT) : Prop where
  h : ∀ {vs : List Value} {w : World} {G : Gh},Gok w G → TAB G → Args vs τs G → pre → Calls P f vs.toArray w (Ret w G ρ)
section
variable {P : Program} {f : Nat} {τ1 τ2 τ3 τ4 ρ : MT} {pre : Prop}
theorem ConT.o0 (h : ∀ {w : World} {G : Gh},Gok w G → TAB G → pre → Calls P f #[] w (Ret w G ρ)) : ConT P f [] pre ρ:=⟨fun {vs _ _} hok ht ha hp=>match vs,ha with | [],_=>h hok ht hp⟩
theorem ConT.o1 (h : ∀ {v1 : Value} {w : World} {G : Gh},Gok w G → TAB G → τ1.t v1 G → pre → Calls P f #[v1] w (Ret w G ρ)) : ConT P f [τ1] pre ρ:=⟨fun {vs _ _} hok ht ha hp=>match vs,ha with | [_],ha=>h hok ht ha.1 hp⟩
theorem ConT.o2 (h : ∀ {v1 v2 : Value} {w : World} {G : Gh},Gok w G → TAB G → τ1.t v1 G → τ2.t v2 G → pre → Calls P f #[v1,v2] w (Ret w G ρ)) : ConT P f [τ1,τ2] pre ρ:=⟨fun {vs _ _} hok ht ha hp=>match vs,ha with | [_,_],ha=>h hok ht ha.1 ha.2.1 hp⟩
theorem ConT.o3 (h : ∀ {v1 v2 v3 : Value} {w : World} {G : Gh},Gok w G → TAB G → τ1.t v1 G → τ2.t v2 G → τ3.t v3 G → pre → Calls P f #[v1,v2,v3] w (Ret w G ρ)) : ConT P f [τ1,τ2,τ3] pre ρ:=⟨fun {vs _ _} hok ht ha hp=>match vs,ha with | [_,_,_],ha=>h hok ht ha.1 ha.2.1 ha.2.2.1 hp⟩
section
variable {w : World} {G : Gh} {v1 v2 v3 v4 : Value}
theorem ConT.c1 (c : ConT P f [τ1] pre ρ) (hok : Gok w G) (ht : TAB G) (h1 : τ1.t v1 G) (hp : pre) : Calls P f #[v1] w (Ret w G ρ):=c.h (vs:=[v1]) hok ht ⟨h1,trivial⟩ hp
theorem ConT.c2 (c : ConT P f [τ1,τ2] pre ρ) (hok : Gok w G) (ht : TAB G) (h1 : τ1.t v1 G) (h2 : τ2.t v2 G) (hp : pre) : Calls P f #[v1,v2] w (Ret w G ρ):=c.h (vs:=[v1,v2]) hok ht ⟨h1,h2,trivial⟩ hp
theorem ConT.c3 (c : ConT P f [τ1,τ2,τ3] pre ρ) (hok : Gok w G) (ht : TAB G) (h1 : τ1.t v1 G) (h2 : τ2.t v2 G) (h3 : τ3.t v3 G) (hp : pre) : Calls P f #[v1,v2,v3] w (Ret w G ρ):=c.h (vs:=[v1,v2,v3]) hok ht ⟨h1,h2,h3,trivial⟩ hp
end
instance Op1.callT {L : List (Nat × MT)} {B : List BX} {xs : List Operand} {ats : Array TypeId} {τs : List MT} {u : List Nat} [h : OpdL L xs τs u] [l : Lk L 999999 TABT] [c : ConT P f τs pre ρ] [k : Cb P f] : Op1 P L B (.call { callee:=.value (.func f),args:=xs.toArray,argTypes:=ats }) pre ρ (999999 :: u) :=
  ⟨fun ho hok e _ hp=>.call ho k.h (by rw [List.map_toArray];exact c.h hok (e _ _ (.head _) l.m) (h.h fun t τ ht hm=>e t τ (.tail _ ht) hm) hp)⟩
end
section
variable {P : Program} {W0 : World} {G0 : Gh} {N : Nat} {L : List (Nat × MT)} {B : List BX} {a : Act} {w : World} {G : Gh}
theorem W.tab {X : Prop} (ht : TAB G) (h : St W0 G0 N ((999999,TABT) :: L) B a w G → X) : St W0 G0 N L B a w G → X:=fun S=>h ⟨S.nxt,S.size,S.dfr,fun i p hp=>match i,hp with | 0,hp=>by cases hp;exact ht | i + 1,hp=>S.ty i p hp,S.bx,S.nd⟩
end
abbrev TXT (l : List UInt8) : MT:=.ex (.string ⟨l.toArray⟩)
instance {s : ByteArray} : Shp (.ex (.string s)) none:=⟨fun {_ _} h=>by cases h;exact ⟨rfl,rfl⟩⟩
instance (priority:=850) Cv.txt {a b : List UInt8} : Cv (TXT a) (TXT b) (a = b):=⟨fun e _ _ h=>e ▸ h⟩
instance AsT.txt {a : List UInt8} : AsT (TXT a) TXT a:=⟨fun h=>h⟩
section
variable {P : Program} {L : List (Nat × MT)} {B : List BX} {x y : Operand} {u v : List Nat} {t t' : TypeId} {a b : List UInt8}
instance Op1.apcS {L : List (Nat × MT)} {B : List BX} {x y : Operand} {u v : List Nat} {t e by0 : Nat} {τ : MT} {τs σs ρs : List MT} [el : ElS P t e none by0 (.string ⟨#[]⟩)] [hx : Opd L x (LSC none τs) u] [hy : Opd L y τ v] [ay : AsLS τ none σs] [ap : ApM τs σs ρs] : Op1 P L B (.call { callee:=.builtin .append,args:=#[x,y],argTypes:=#[t,t] }) (τs.length + σs.length ≤ LIM ∧ (τs.length + σs.length) * by0 ≤ 140737488355328) (LS none ρs) (u ++ v):=⟨fun ho hok e' _ hp=>by
  have h:=OpR.appSC hok ho el.h1 el.h2 ⟨rfl,rfl⟩ (hx.h e'.l) (ay.h (hy.h e'.r)) hp.1 hp.2
  rw [ap.h] at h;exact h⟩
instance Op1.seql [h : Opd L x (TXT a) u] [k : Opd L y (TXT b) v] : Op1 P L B (.binOp .eql t x y t') True (BT (decide (a = b))) (u ++ v) :=
  ⟨fun ho hok e _ _=>.run hok (by simp only [execOp,ho,show _ = _ from h.h e.l,show _ = _ from k.h e.r];simp [eqGuard,binOp_string_eql];rfl) (by
    show _ = _
    simp [ByteArray.toList_eq]
    by_cases hab : a = b <;> simp [hab])⟩
instance Op1.sadd [h : Opd L x (TXT a) u] [k : Opd L y (TXT b) v] : Op1 P L B (.binOp .add t x y t') (a.length + b.length ≤ 1000000) (TXT (a ++ b)) (u ++ v) :=
  ⟨fun ho hok e _ hp=>.run hok (by simp only [execOp,ho,show _ = _ from h.h e.l,show _ = _ from k.h e.r];simp [eqGuard,binOp_string_add,Op.stringOp,ByteArray.size];rw [if_neg (by omega)]) (by
    show _ = _
    congr 1)⟩
end
end Go.Proofs.YtboicjlbbbodgaaGreatDoor
namespace Go.Proofs.YtboicjlbbbodgaaGreatDoor
open Go.RowKit (Below)
attribute [local irreducible] Go.Code.wp Go.wpList Go.bodyPost
instance {n : Int} : ConT Tryz.prog 154 [IT n] (0 ≤ n ∧ n < 9223372036854775808) (TXT (Lib.itoa n)):=.o1 fun {v1 w G} hok ht h1 hp=>by
  obtain rfl : v1 = .int .i64 n:=h1
  refine Calls.mono (Any.strconv_Itoa laysItoa n (by omega) (by omega) w (ht.is hok laysItoa.m17)) ?_
  rintro e w' ⟨rfl,k,os,rfl⟩
  have hb : Below w.heap.size w (Sort.grow (w.drewN k) os):=⟨rfl,rfl,rfl,by simp [Sort.grow,World.drewN],fun i hi=>by simp [Sort.grow,World.drewN,Array.getElem?_append,hi]⟩
  exact ⟨_,G,rfl,rfl,hb,fun _ _=>rfl,Gle.refl _,fun b o hbo=>(hb.block b (hok.lt hbo)).trans (hok b o hbo)⟩
instance {n x : Nat} : Con Tryz.prog 153 [SN n x,.ex (.int .u32 1000000000)] (True) (MT.tup2 (SN n (x / 1000000000)) (.ex (.int .u32 ((x % 1000000000 : Nat) : Int)))):=.o2 fun hok h1 h2 hp=>short_ok hok h1 (d:=1000000000) h2 (by decide) (by decide)
def tX (x : Int) (j : Nat) : List (List UInt8):=if j = 0 then [] else [Lib.itoa x]
def tV (x : Int) (j : Nat) : Nat:=if j = 0 then x.natAbs else 0
theorem txt_len {x : Int} (h : 0 < x) : ¬ ((words x.natAbs).length : Int) = 0:=by
  have:=@len_pos_iff x.natAbs
  omega
theorem txt_b {x : Int} {j : Nat} (h : 0 < x ∧ x < 1000000000) : ¬ ((words (tV x j / 1000000000)).length : Int) > 0:=by
  have : tV x j / 1000000000 = 0:=by unfold tV;split <;> omega
  rw [this,words_zero];simp
theorem txt_w (n : Nat) : IntKind.i64.wrap ((n % 1000000000 : Nat) : Int) = ((n % 1000000000 : Nat) : Int):=by
  rw [IntKind.wrap_i64];omega
theorem txt_w0 (n : Nat) : 0 ≤ IntKind.i64.wrap ((n % 1000000000 : Nat) : Int):=by rw [txt_w];omega
theorem txt_w1 (n : Nat) : IntKind.i64.wrap ((n % 1000000000 : Nat) : Int) < 9223372036854775808:=by rw [txt_w];omega
theorem tX_len (x : Int) (j : Nat) : (tX x j).length ≤ 1:=by unfold tX;split <;> simp
theorem txt_j {x : Int} {j : Nat} (hc : ((words (tV x j)).length : Int) > 0) : j = 0:=by
  rcases Nat.eq_zero_or_pos j with h | h
  · exact h
  · rw [show tV x j = 0 by unfold tV;rw [if_neg (by omega)],words_zero] at hc;simp at hc
theorem txt_j1 {x : Int} {j : Nat} (h : 0 < x) (hc : ¬ ((words (tV x j)).length : Int) > 0) (hj : j ≤ 1) : j = 1:=by
  rcases Nat.eq_zero_or_pos j with e | e
  · subst e;exact absurd (show ((words x.natAbs).length : Int) > 0 by have:=@len_pos_iff x.natAbs;omega) hc
  · omega
theorem txt_nx {x : Int} {j : Nat} (h : 0 < x ∧ x < 1000000000) (hc : ((words (tV x j)).length : Int) > 0) : tV x j / 1000000000 = tV x (j + 1) ∧ Lib.itoa (IntKind.i64.wrap ((tV x j % 1000000000 : Nat) : Int)) :: tX x j = tX x (j + 1):=by
  obtain rfl:=txt_j hc
  rw [txt_w]
  have e : ((tV x 0 % 1000000000 : Nat) : Int) = x:=by unfold tV;rw [if_pos rfl];omega
  rw [e]
  exact ⟨by unfold tV;rw [if_pos rfl,if_neg (by omega)];omega,rfl⟩
theorem itoa_len {z : Int} (h : 0 < z) (h2 : z < 1000000000) : (Lib.itoa z).length ≤ 20:=by
  obtain ⟨u,rfl⟩ : ∃ u : Nat,z = u:=⟨z.toNat,by omega⟩
  rw [Lib.itoa_nonneg,Lib.decDigits_length]
  have:=Lib.numDigits_eq u (by omega) (by omega)
  split at this <;> omega
theorem cmpZ_one {z : Nat} : cmpZ (z : Int) 1 = 0 ↔ z = 1:=by
  unfold cmpZ
  by_cases h : z = 1
  · subst h;simp
  · constructor
    · intro e;split at e <;> (try split at e) <;> omega
    · intro e;exact absurd e h
instance {ls : List (List UInt8)} : Con Tryz.prog 156 [LS none (ls.map TXT),TXT []] (ls.length = 1) (TXT (ls.getD 0 default)):=.o2 fun hok h1 h2 hp=>by
  refine St.enter (N:=75) Tryz.func156 rfl rfl rfl hok (enter2 h1 h2) fun a=>?_
  repeat' (first|((with_reducible refine gS_ ?_);first|((with_reducible refine gL_ ?_);first|refine W.run ?_ fun a w G=>?_|refine W.mv fun a w G=>?_|refine W.asg fun a w G=>?_|(refine W.nn hK ?_;clear hK K)|refine W.nl ?_|refine W.al fun b a w G=>?_|refine W.ste ?_ fun w=>?_)|((with_reducible refine gC_ ?_);first|with_reducible refine W.cbt (by first|assumption|(simp [hp];done)|fail) ?_|with_reducible refine W.cbf (by first|assumption|(simp [hp];done)|fail) ?_|refine W.reg fun K hK=>?_|refine W.reg1 ?_|refine W.sq fun K hK=>?_|refine W.sk ?_|refine W.cd (fun hc=>?_) (fun hc=>?_)|refine W.cb (fun hc=>?_) (fun hc=>?_)|refine W.bl ?_|refine W.ex ?_|refine W.rt ?_)|((with_reducible refine W.kn hK ?_);clear hK K)|(with_reducible first|refine W.bn ?_|refine W.xt ?_|refine W.xb ?_|refine W.xo ?_|refine W.tr ?_|refine W.br ?_)|refine W.rt1 rfl ?_)|clear hK K|clear hu|exact True.intro|exact Nat.le_trans (by clear hp;omega) hp|exact Nat.le_trans (by clear hp;omega) hp.1|exact Nat.le_trans (by clear hp;omega) hp.2|(clear hp;omega)|apply And.intro|refine GI.i fun _=>?_|with_reducible rfl|decide|(simp only [List.length_cons,List.length_nil];omega))
theorem w119 {n : Nat} {x : Int} : ConT Tryz.prog 119 [W n x] (0 < x ∧ x < 1000000000) (TXT (Lib.itoa x)):=.o1 fun hok ht h1 hp=>by
  refine St.enter (N:=44) Tryz.func119 rfl rfl rfl hok (enter1 h1) fun a=>?_
  refine W.tab ht ?_
  repeat' (first|((with_reducible refine gS_ ?_);first|((with_reducible refine gL_ ?_);first|refine W.run ?_ fun a w G=>?_|refine W.mv fun a w G=>?_|refine W.asg fun a w G=>?_|refine W.bx fun b a w G=>?_|(refine W.nn hK ?_;clear hK K)|refine W.nl ?_|refine W.ste ?_ fun w=>?_)|((with_reducible refine gC_ ?_);first|with_reducible refine W.cbf (decide_eq_false (txt_len hp.1)) ?_|with_reducible refine W.cbf (decide_eq_false (txt_b hp)) ?_|with_reducible refine W.cbt (by first|assumption|(simp [];done)|fail) ?_|with_reducible refine W.cbf (by first|assumption|(simp [];done)|fail) ?_|refine W.reg fun K hK=>?_|refine W.reg1 ?_|refine W.sq fun K hK=>?_|refine W.sk ?_|refine W.cd (fun hc=>?_) (fun hc=>?_)|refine W.cb (fun hc=>?_) (fun hc=>?_)|refine W.bl ?_|refine W.ex ?_|refine W.rt ?_)|((with_reducible refine W.kn hK ?_);clear hK K)|(with_reducible first|refine W.bn ?_|refine W.xt ?_|refine W.xb ?_|refine W.xo ?_|refine W.tr ?_|refine W.br ?_)|refine W.rt1 rfl ?_)|refine W.lp 13 (α:=Nat) (fun j=>1 - j) (fun j=>j ≤ 1) [3,4,5,6,13,14,15,16,17,18,19,20,21,22,23,24,25,26,27,28,29,30,31,32,33,34,35,36] (fun j=>[(3,SN n (tV x j)),(4,LS none ((tX x j).map TXT))]) (fun j=>[]) (0) ?_ ?_ ?_ fun j hj a w G=>?_|refine W.ag (x:=j) (j+1) ?_ ?_ ?_ ?_|clear hK K|clear hu|exact True.intro|exact Nat.le_trans (by clear hp;omega) hp|exact Nat.le_trans (by clear hp;omega) hp.1|exact Nat.le_trans (by clear hp;omega) hp.2|(clear hp;omega)|apply And.intro|refine GI.i fun _=>?_|with_reducible rfl|decide|(simp only [List.length_cons,List.length_nil];omega))
  all_goals have htl:=tX_len x
  all_goals first
    | exact txt_w0 _
    | exact txt_w1 _
    | exact (txt_nx hp (by assumption)).1
    | exact (txt_nx hp (by assumption)).2
    | exact (txt_nx hp (by assumption)).1.symm
    | exact (txt_nx hp (by assumption)).2.symm
    | rfl
    | (have:=htl ‹Nat›;simp [LIM] <;> omega)
    | (have:=txt_j (by assumption);omega)
    | (have:=txt_j1 hp.1 (by assumption) (by assumption);subst this;rfl)
    | skip
instance {n : Nat} {x : Int} {τ1 : MT} [j1 : NW τ1 (W n x)] : ConT Tryz.prog 119 [τ1] (0 < x ∧ x < 1000000000) (TXT (Lib.itoa x)):=.o1 fun hok ht h1 hp=>w119.c1 hok ht (j1.h h1) hp
theorem w64 {n : Nat} {x : Rat} : ConT Tryz.prog 64 [QV n x] (0 < x ∧ x.num < 1000000000 ∧ x.den < 1000000000 ∧ n ≤ BIG) (TXT (if x.den = 1 then Lib.itoa x.num else Lib.itoa x.num ++ 47 :: Lib.itoa x.den)):=.o1 fun hok ht h1 hp=>by
  refine St.enter (N:=22) Tryz.func64 rfl rfl rfl hok (enter1 h1) fun a=>?_
  refine W.tab ht ?_
  have hnum : 0 < x.num:=by have:=hp.1;rw [Rat.lt_iff] at this;simpa using this
  have hden : 0 < x.den:=x.den_pos
  repeat' (first|((with_reducible refine gS_ ?_);first|((with_reducible refine gL_ ?_);first|refine W.run ?_ fun a w G=>?_|refine W.mv fun a w G=>?_|refine W.asg fun a w G=>?_|refine W.bx fun b a w G=>?_|(refine W.nn hK ?_;clear hK K)|refine W.nl ?_|refine W.al fun b a w G=>?_|refine W.st fun w=>?_|refine W.stp fun w=>?_|refine W.ste ?_ fun w=>?_)|((with_reducible refine gC_ ?_);first|refine W.reg fun K hK=>?_|refine W.reg1 ?_|refine W.sq fun K hK=>?_|refine W.ds ?_ (fun β a w G hu=>W.fin ?_ hu) mixedOrders (by kernel_rfl)|refine W.sk ?_|refine W.cd (fun hc=>?_) (fun hc=>?_)|refine W.cb (fun hc=>?_) (fun hc=>?_)|refine W.rt ?_)|((with_reducible refine W.kn hK ?_);clear hK K)|with_reducible refine W.tr ?_|with_reducible refine W.br ?_|refine W.rt1 rfl ?_)|clear hK K|clear hu|exact True.intro|exact Nat.le_trans (by clear hp;omega) hp|exact Nat.le_trans (by clear hp;omega) hp.1|exact Nat.le_trans (by clear hp;omega) hp.2|(clear hp;omega)|apply And.intro|refine GI.i fun _=>?_|with_reducible rfl|decide|(simp only [List.length_cons,List.length_nil];omega))
  all_goals first
    | with_reducible exact hp.2.2.2
    | with_reducible exact hnum
    | with_reducible exact hp.2.1
    | omega
    | (rw [if_pos (cmpZ_one.1 hc)];done)
    | (rw [if_neg fun e=>hc (cmpZ_one.2 e)];simp;done)
    | (have h1_:=itoa_len hnum hp.2.1;have h2_:=itoa_len (z:=(x.den : Int)) (by omega) (by omega);simp only [List.length_append,List.length_cons,List.length_nil];omega)
    | skip
instance {n : Nat} {x : Rat} {τ1 : MT} [j1 : NQ τ1 (QV n x)] : ConT Tryz.prog 64 [τ1] (0 < x ∧ x.num < 1000000000 ∧ x.den < 1000000000 ∧ n ≤ BIG) (TXT (if x.den = 1 then Lib.itoa x.num else Lib.itoa x.num ++ 47 :: Lib.itoa x.den)):=.o1 fun hok ht h1 hp=>w64.c1 hok ht (j1.h h1) hp
end Go.Proofs.YtboicjlbbbodgaaGreatDoor
