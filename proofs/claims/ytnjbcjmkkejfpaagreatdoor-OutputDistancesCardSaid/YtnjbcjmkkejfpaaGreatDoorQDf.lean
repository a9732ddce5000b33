import Derived.Test.YtnjbcjmkkejfpaaGreatDoorQDe
set_option linter.unusedVariables false
set_option linter.unusedSimpArgs false
namespace Go.Proofs.YtnjbcjmkkejfpaaGreatDoor
abbrev cf (l : List Rat) (i : Nat) : Rat:=l.getD i 0
namespace El
def toF : (k : Nat) → (Nat → Rat) → El k
  | 0,f=>f 0
  | k + 1,f=>(toF k f,toF k fun i=>f (2 ^ k + i))
abbrev toE (k : Nat) (l : List Rat) : El k:=toF k (cf l)
theorem toF_ext : ∀ {k : Nat} {f g : Nat → Rat},(∀ i,i < 2 ^ k → f i = g i) → toF k f = toF k g
  | 0,f,g,h=>h 0 (by decide)
  | k + 1,f,g,h=>by
    have e : 2 ^ (k + 1) = 2 ^ k + 2 ^ k:=by rw [Nat.pow_succ];omega
    exact Prod.ext (toF_ext fun i hi=>h i (by omega)) (toF_ext fun i hi=>h (2 ^ k + i) (by omega))
theorem toF_zero : ∀ {k : Nat},toF k (fun _=>0) = zero k
  | 0=>rfl
  | k + 1=>Prod.ext toF_zero toF_zero
theorem toF_add : ∀ {k : Nat} (f g : Nat → Rat),toF k (fun i=>f i + g i) = add (toF k f) (toF k g)
  | 0,f,g=>rfl
  | k + 1,f,g=>Prod.ext (toF_add f g) (toF_add (fun i=>f (2 ^ k + i)) (fun i=>g (2 ^ k + i)))
theorem toF_neg : ∀ {k : Nat} (f : Nat → Rat),toF k (fun i=>-f i) = neg (toF k f)
  | 0,f=>rfl
  | k + 1,f=>Prod.ext (toF_neg f) (toF_neg (fun i=>f (2 ^ k + i)))
end El
def zeroF (a : List Rat) : Bool:=a.all fun x=>decide (x.num.sign = 0)
def wideF (a : List Rat) (n : Nat) : List Rat:=a.take n ++ (List.replicate n 0).drop a.length
def plusF (a b : List Rat) : List Rat:=(List.range (max a.length b.length)).map fun i=>cf a i + cf b i
def minusF (a : List Rat) : List Rat:=a.map fun x=>-x
def joinF (a b : List Rat) (n : Nat) : List Rat:=wideF a n ++ wideF b n
def lev : Nat → Nat
  | n=>Nat.log2 n
def stepF (rs : List (List Rat)) (r : List Rat → List Rat → List Rat) (a b : List Rat) : List Rat :=
  if zeroF a || zeroF b then [] else if a.length = 1 then [cf a 0 * cf b 0] else
  if b.length ≤ a.length / 2 then joinF (r (a.take (a.length / 2)) b) (r (a.drop (a.length / 2)) b) (a.length / 2)
  else joinF (plusF (r (a.take (a.length / 2)) (b.take (a.length / 2))) (r (r (a.drop (a.length / 2)) (b.drop (a.length / 2))) (rs.getD (lev a.length - 1) [])))
    (plusF (r (a.take (a.length / 2)) (b.drop (a.length / 2))) (r (a.drop (a.length / 2)) (b.take (a.length / 2)))) (a.length / 2)
def timesF (rs : List (List Rat)) : Nat → List Rat → List Rat → List Rat
  | 0,_,_=>[]
  | n + 1,a,b=>if a.length < b.length then stepF rs (timesF rs n) b a else stepF rs (timesF rs n) a b
theorem cf_wide {a : List Rat} {n i : Nat} (hi : i < n) (ha : a.length ≤ n) : cf (wideF a n) i = cf a i:=by
  unfold wideF cf
  rw [List.take_of_length_le ha,List.getD_eq_getElem?_getD,List.getD_eq_getElem?_getD]
  rcases Nat.lt_or_ge i a.length with h | h
  · rw [List.getElem?_append_left h]
  · rw [List.getElem?_append_right h,List.getElem?_eq_none h,List.getElem?_drop,List.getElem?_replicate]
    split <;> rfl
theorem wide_len {a : List Rat} {n : Nat} (ha : a.length ≤ n) : (wideF a n).length = n:=by unfold wideF;simp;omega
theorem cf_plus {a b : List Rat} {i : Nat} : cf (plusF a b) i = cf a i + cf b i:=by
  unfold plusF cf
  rw [List.getD_eq_getElem?_getD,List.getElem?_map]
  rcases Nat.lt_or_ge i (max a.length b.length) with h | h
  · rw [List.getElem?_range h];rfl
  · rw [List.getElem?_eq_none (by simpa using h),List.getD_eq_getElem?_getD,List.getD_eq_getElem?_getD,List.getElem?_eq_none (by omega),List.getElem?_eq_none (by omega)]
    exact (Rat.add_zero 0).symm
theorem cf_minus {a : List Rat} {i : Nat} : cf (minusF a) i = -cf a i:=by
  unfold minusF cf
  rw [List.getD_eq_getElem?_getD,List.getD_eq_getElem?_getD,List.getElem?_map]
  cases a[i]? <;> rfl
theorem cf_take {a : List Rat} {n i : Nat} (hi : i < n) : cf (a.take n) i = cf a i:=by
  unfold cf;rw [List.getD_eq_getElem?_getD,List.getD_eq_getElem?_getD,List.getElem?_take_of_lt hi]
theorem cf_drop {a : List Rat} {n i : Nat} : cf (a.drop n) i = cf a (n + i):=by
  unfold cf;rw [List.getD_eq_getElem?_getD,List.getD_eq_getElem?_getD,List.getElem?_drop]
theorem cf_join {a b : List Rat} {n i : Nat} (ha : a.length ≤ n) (hb : b.length ≤ n) (hi : i < n) : cf (joinF a b n) i = cf a i ∧ cf (joinF a b n) (n + i) = cf b i:=by
  have h1:=wide_len ha
  constructor
  · rw [← cf_wide hi ha]
    unfold joinF cf
    rw [List.getD_eq_getElem?_getD,List.getD_eq_getElem?_getD,List.getElem?_append_left (by omega)]
  · rw [← cf_wide hi hb]
    unfold joinF cf
    rw [List.getD_eq_getElem?_getD,List.getD_eq_getElem?_getD,List.getElem?_append_right (by omega),h1,Nat.add_sub_cancel_left]
theorem zero_iff {a : List Rat} : zeroF a = true ↔ ∀ i,cf a i = 0:=by
  unfold zeroF
  rw [List.all_eq_true]
  constructor
  · intro h i
    unfold cf
    rw [List.getD_eq_getElem?_getD]
    cases hx : a[i]? with
    | none=>rfl
    | some x =>
      have:=h x (List.mem_of_getElem? hx)
      rw [decide_eq_true_eq,Int.sign_eq_zero_iff_zero,Rat.num_eq_zero] at this
      exact this
  · intro h x hx
    obtain ⟨i,hi⟩:=List.mem_iff_getElem?.1 hx
    have:=h i
    unfold cf at this
    rw [List.getD_eq_getElem?_getD,hi] at this
    rw [decide_eq_true_eq,Int.sign_eq_zero_iff_zero,Rat.num_eq_zero]
    exact this
namespace El
theorem toE_low {k : Nat} {l : List Rat} (h : l.length ≤ 2 ^ k) : toE (k + 1) l = (toE k l,zero k):=by
  refine Prod.ext rfl ?_
  show toF k (fun i=>cf l (2 ^ k + i)) = zero k
  rw [← toF_zero]
  exact toF_ext fun i _=>by unfold cf;rw [List.getD_eq_getElem?_getD,List.getElem?_eq_none (by omega)];rfl
theorem toE_take (k : Nat) (l : List Rat) : toE k (l.take (2 ^ k)) = toE k l:=toF_ext fun i hi=>cf_take hi
theorem toE_halves (k : Nat) (l : List Rat) : toE (k + 1) l = (toE k (l.take (2 ^ k)),toE k (l.drop (2 ^ k))) :=
  Prod.ext (toE_take k l).symm (toF_ext fun i _=>cf_drop.symm)
theorem toE_plus (k : Nat) (a b : List Rat) : toE k (plusF a b) = add (toE k a) (toE k b):=by rw [← toF_add];exact toF_ext fun i _=>cf_plus
theorem toE_minus (k : Nat) (a : List Rat) : toE k (minusF a) = neg (toE k a):=by rw [← toF_neg];exact toF_ext fun i _=>cf_minus
theorem toE_join {k : Nat} {a b : List Rat} (ha : a.length ≤ 2 ^ k) (hb : b.length ≤ 2 ^ k) : toE (k + 1) (joinF a b (2 ^ k)) = (toE k a,toE k b) :=
  Prod.ext (toF_ext fun i hi=>(cf_join ha hb hi).1) (toF_ext fun i hi=>(cf_join ha hb hi).2)
theorem toE_zero {k : Nat} {a : List Rat} (h : zeroF a = true) : toE k a = zero k:=by rw [← toF_zero];exact toF_ext fun i _=>zero_iff.1 h i
theorem toE_nil {k : Nat} : toE k [] = zero k:=toE_zero rfl
end El
def PW (k : Nat) (a : List Rat) : Prop:=a.length = 0 ∨ ∃ j,j ≤ k ∧ a.length = 2 ^ j
theorem PW.le {k : Nat} {a : List Rat} (h : PW k a) : a.length ≤ 2 ^ k:=by
  rcases h with h | ⟨j,hj,h⟩
  · rw [h];exact Nat.zero_le _
  · rw [h];exact Nat.pow_le_pow_right (by decide) hj
theorem PW.low {k : Nat} {a : List Rat} (h : PW (k + 1) a) (h2 : a.length ≤ 2 ^ k) : PW k a:=by
  rcases h with h | ⟨j,hj,h⟩
  · exact .inl h
  · refine .inr ⟨j,?_,h⟩
    rcases Nat.lt_or_ge k j with h3 | h3
    · have : 2 ^ k < 2 ^ j:=Nat.pow_lt_pow_right (by decide) h3
      omega
    · exact h3
theorem PW.top {k : Nat} {a : List Rat} (h : PW (k + 1) a) (h2 : ¬ a.length ≤ 2 ^ k) : a.length = 2 ^ (k + 1):=by
  rcases h with h | ⟨j,hj,h⟩
  · exact absurd (h ▸ Nat.zero_le _) h2
  · rcases Nat.lt_or_ge k j with h3 | h3
    · rw [h,show j = k + 1 by omega]
    · have : 2 ^ j ≤ 2 ^ k:=Nat.pow_le_pow_right (by decide) h3
      omega
theorem PW.pow {k : Nat} {a : List Rat} (h : a.length = 2 ^ k) : PW k a:=.inr ⟨k,Nat.le_refl _,h⟩
theorem PW.of {k : Nat} {a : List Rat} (h : a.length = 0 ∨ a.length = 2 ^ k) : PW k a:=h.imp id fun h=>⟨k,Nat.le_refl _,h⟩
theorem lev_pow (k : Nat) : lev (2 ^ k) = k:=Nat.log2_two_pow
theorem plus_len {a b : List Rat} : (plusF a b).length = max a.length b.length:=by simp [plusF]
theorem join_len {a b : List Rat} {n : Nat} (ha : a.length ≤ n) (hb : b.length ≤ n) : (joinF a b n).length = n + n:=by unfold joinF;rw [List.length_append,wide_len ha,wide_len hb]
open El in
theorem times_E {rs : List (List Rat)} {d : Rts} {K : Nat} (hd : ∀ j, j < K → (rs.getD j []).length = 2 ^ j ∧ toE j (rs.getD j []) = d j) :
    ∀ (k n : Nat),k ≤ K → k < n → ∀ a b : List Rat,PW k a → PW k b → toE k (timesF rs n a b) = mul d (toE k a) (toE k b) ∧ ((timesF rs n a b).length = 0 ∨ (timesF rs n a b).length = max a.length b.length):=by
  intro k
  induction k with
  | zero =>
    intro n _ hn a b ha hb
    obtain ⟨n,rfl⟩ : ∃ m,n = m + 1:=⟨n - 1,by omega⟩
    have key : ∀ a b : List Rat,a.length ≤ 1 → b.length ≤ a.length → toE 0 (stepF rs (timesF rs n) a b) = mul d (toE 0 a) (toE 0 b) ∧ ((stepF rs (timesF rs n) a b).length = 0 ∨ (stepF rs (timesF rs n) a b).length = a.length):=by
      intro a b ha hb
      unfold stepF
      split
      · rename_i h
        refine ⟨?_,.inl rfl⟩
        rw [toE_nil]
        rcases Bool.or_eq_true_iff.1 h with h | h
        · rw [toE_zero h,zero_mul]
        · rw [toE_zero h,mul_zero]
      · rename_i h
        have h1 : a.length = 1:=by
          rcases Nat.lt_or_ge a.length 1 with h2 | h2
          · exfalso;apply h;rw [List.length_eq_zero_iff.1 (show a.length = 0 by omega)];rfl
          · omega
        rw [if_pos h1]
        exact ⟨rfl,.inr h1.symm⟩
    have h1:=ha.le;have h2:=hb.le
    simp only [Nat.pow_zero] at h1 h2
    unfold timesF
    split
    · rw [mul_comm,Nat.max_eq_right (by omega)];exact key b a h2 (by omega)
    · rw [Nat.max_eq_left (by omega)];exact key a b h1 (by omega)
  | succ k ih =>
    intro n hK hn a b ha hb
    by_cases hlow : a.length ≤ 2 ^ k ∧ b.length ≤ 2 ^ k
    · obtain ⟨h1,h2⟩:=ih n (by omega) (by omega) a b (ha.low hlow.1) (hb.low hlow.2)
      refine ⟨?_,h2⟩
      rw [toE_low (by omega),toE_low hlow.1,toE_low hlow.2,h1]
      refine Prod.ext ?_ ?_
      · show _ = add (mul d _ _) (mul d (mul d (zero k) (zero k)) (d k))
        rw [zero_mul,zero_mul,add_zero]
      · show _ = add (mul d _ (zero k)) (mul d (zero k) _)
        rw [mul_zero,zero_mul,add_zero]
    · obtain ⟨n,rfl⟩ : ∃ m,n = m + 1:=⟨n - 1,by omega⟩
      have e2 : 2 ^ (k + 1) = 2 ^ k + 2 ^ k:=by rw [Nat.pow_succ];omega
      have ep:=Nat.two_pow_pos k
      have key : ∀ a b : List Rat,a.length = 2 ^ (k + 1) → PW (k + 1) b → toE (k + 1) (stepF rs (timesF rs n) a b) = mul d (toE (k + 1) a) (toE (k + 1) b) ∧ ((stepF rs (timesF rs n) a b).length = 0 ∨ (stepF rs (timesF rs n) a b).length = a.length):=by
        intro a b ha hb
        have hh : a.length / 2 = 2 ^ k:=by omega
        unfold stepF
        split
        · rename_i h
          refine ⟨?_,.inl rfl⟩
          rw [toE_nil]
          rcases Bool.or_eq_true_iff.1 h with h | h
          · rw [toE_zero h,zero_mul]
          · rw [toE_zero h,mul_zero]
        · rw [if_neg (by omega),hh]
          have hx : PW k (a.take (2 ^ k)):=.pow (by rw [List.length_take];omega)
          have hy : PW k (a.drop (2 ^ k)):=.pow (by rw [List.length_drop];omega)
          have ihk:=ih n (by omega) (by omega)
          split
          · rename_i hbl
            have hb':=hb.low hbl
            obtain ⟨h1,h2⟩:=ihk _ b hx hb'
            obtain ⟨h3,h4⟩:=ihk _ b hy hb'
            have l1:=hx.le;have l2:=hy.le
            refine ⟨?_,.inr (by rw [join_len (by omega) (by omega),ha,e2])⟩
            rw [toE_join (by omega) (by omega),h1,h3,toE_halves k a,toE_low hbl]
            refine Prod.ext ?_ ?_
            · show _ = add (mul d _ _) (mul d (mul d _ (zero k)) (d k))
              rw [mul_zero,zero_mul,add_zero]
            · show _ = add (mul d _ (zero k)) (mul d _ _)
              rw [mul_zero,zero_add]
          · rename_i hbl
            have hbt:=hb.top hbl
            have hu : PW k (b.take (2 ^ k)):=.pow (by rw [List.length_take];omega)
            have hv : PW k (b.drop (2 ^ k)):=.pow (by rw [List.length_drop];omega)
            have hdk:=hd k (by omega)
            rw [ha,lev_pow,Nat.add_sub_cancel]
            obtain ⟨p1,q1⟩:=ihk _ _ hx hu
            obtain ⟨p2,q2⟩:=ihk _ _ hy hv
            obtain ⟨p3,q3⟩:=ihk _ _ hx hv
            obtain ⟨p4,q4⟩:=ihk _ _ hy hu
            have m1 : (a.take (2 ^ k)).length = 2 ^ k:=by rw [List.length_take];omega
            have m2 : (a.drop (2 ^ k)).length = 2 ^ k:=by rw [List.length_drop];omega
            have m3 : (b.take (2 ^ k)).length = 2 ^ k:=by rw [List.length_take];omega
            have m4 : (b.drop (2 ^ k)).length = 2 ^ k:=by rw [List.length_drop];omega
            rw [m1,m3,Nat.max_self] at q1;rw [m2,m4,Nat.max_self] at q2;rw [m1,m4,Nat.max_self] at q3;rw [m2,m3,Nat.max_self] at q4
            obtain ⟨p5,q5⟩:=ihk _ _ (PW.of q2) (PW.pow hdk.1)
            rw [hdk.1] at q5
            rw [p2,hdk.2] at p5
            have g1:=plus_len (a:=timesF rs n (a.take (2 ^ k)) (b.take (2 ^ k))) (b:=timesF rs n (timesF rs n (a.drop (2 ^ k)) (b.drop (2 ^ k))) (rs.getD k []))
            have g2:=plus_len (a:=timesF rs n (a.take (2 ^ k)) (b.drop (2 ^ k))) (b:=timesF rs n (a.drop (2 ^ k)) (b.take (2 ^ k)))
            refine ⟨?_,.inr (by rw [join_len (by omega) (by omega),e2])⟩
            rw [toE_join (by omega) (by omega),toE_plus,toE_plus,p1,p5,p3,p4,toE_halves k a,toE_halves k b]
            rfl
      have h1:=ha.le;have h2:=hb.le
      unfold timesF
      split
      · have hbt : b.length = 2 ^ (k + 1):=hb.top (by omega)
        rw [mul_comm,Nat.max_eq_right (by omega)];exact key b a hbt ha
      · have hat : a.length = 2 ^ (k + 1):=ha.top (by omega)
        rw [Nat.max_eq_left (by omega)];exact key a b hat hb
end Go.Proofs.YtnjbcjmkkejfpaaGreatDoor
namespace Go.Proofs.YtnjbcjmkkejfpaaGreatDoor
def clg (n : Nat) : Nat:=if n ≤ 1 then 0 else Nat.log2 (n - 1) + 1
def levI (n : Nat) : Int:=if 2 ^ clg n = n then (clg n : Int) else -1
theorem clg_of {n k : Nat} (h : ∀ j,j < k → 2 ^ j < n) (h2 : n ≤ 2 ^ k) : clg n = k:=by
  unfold clg
  cases k with
  | zero=>rw [if_pos (by simpa using h2)]
  | succ k =>
    have h3:=h k (Nat.lt_succ_self k)
    have h4:=Nat.two_pow_pos k
    have h5:=h 0 (Nat.succ_pos k)
    rw [Nat.pow_succ] at h2
    have e : Nat.log2 (n - 1) = k:=(Nat.log2_eq_iff (by omega)).2 ⟨by omega,by rw [Nat.pow_succ];omega⟩
    rw [if_neg (by simp at h5;omega),e]
theorem clg_pow (k : Nat) : clg (2 ^ k) = k:=clg_of (fun j hj=>Nat.pow_lt_pow_right (by decide) hj) (Nat.le_refl _)
theorem levI_pow (k : Nat) : levI (2 ^ k) = k:=by unfold levI;rw [clg_pow,if_pos rfl]
theorem lev_lt {n k : Nat} (hk : ∀ j,j < k → 2 ^ j < n) (h : 2 ^ k < n) : ∀ j,j < k + 1 → 2 ^ j < n:=fun j hj=>by
  rcases Nat.lt_or_ge j k with h1 | h1
  · exact hk j h1
  · rw [show j = k by omega];exact h
theorem lev_le {n k : Nat} (hk : ∀ j,j < k → 2 ^ j < n) (hn : n ≤ 35184372088832) : k ≤ 45 ∧ 2 ^ k ≤ 35184372088832:=by
  have e : 2 ^ 45 = 35184372088832:=by decide
  have h : k ≤ 45:=by
    rcases Nat.lt_or_ge 45 k with h | h
    · have:=hk 45 h;omega
    · exact h
  refine ⟨h,?_⟩
  rw [← e];exact Nat.pow_le_pow_right (by decide) h
theorem levI_n {n k : Nat} (hk : ∀ j,j < k → 2 ^ j < n) (h : n ≤ 2 ^ k) (hn : 2 ^ k ≠ n) : levI n = -1:=by unfold levI;rw [clg_of hk h,if_neg hn]
theorem levI_y {n k : Nat} (h : 2 ^ k = n) : levI n = k:=by rw [← h,levI_pow]
def shN (a : List Rat) : Nat → Nat → Nat
  | 0,n=>n
  | f + 1,n=>if 1 < n ∧ zeroF ((a.take n).drop (n / 2)) = true then shN a f (n / 2) else n
theorem shN_fuel {a : List Rat} : ∀ {f g n : Nat},n ≤ f → n ≤ g → shN a f n = shN a g n
  | 0,0,_,_,_=>rfl
  | 0,g + 1,n,h,_=>by
    obtain rfl : n = 0:=by omega
    unfold shN;rw [if_neg (by omega)]
  | f + 1,0,n,_,h=>by
    obtain rfl : n = 0:=by omega
    unfold shN;rw [if_neg (by omega)]
  | f + 1,g + 1,n,h1,h2=>by
    unfold shN
    split
    · exact shN_fuel (by omega) (by omega)
    · rfl
def shL (a : List Rat) (n : Nat) : Nat:=shN a n n
theorem shL_go {a : List Rat} {n : Nat} (h : 1 < n) (hz : zeroF ((a.take n).drop (n / 2)) = true) : shL a n = shL a (n / 2):=by
  unfold shL
  obtain ⟨m,rfl⟩ : ∃ m,n = m + 1:=⟨n - 1,by omega⟩
  conv=>lhs;unfold shN
  rw [if_pos ⟨h,hz⟩]
  exact shN_fuel (by omega) (Nat.le_refl _)
theorem shL_end {a : List Rat} {n : Nat} (h : ¬ (1 < n ∧ zeroF ((a.take n).drop (n / 2)) = true)) : shL a n = n:=by
  unfold shL
  cases n with
  | zero=>rfl
  | succ m=>unfold shN;rw [if_neg h]
def shoF (a : List Rat) : List Rat :=
  if 0 < a.length ∧ (levI a.length < 0 ∨ 5 < levI a.length) then a else if shL a a.length = 1 ∧ zeroF (a.take 1) = true then [] else a.take (shL a a.length)
theorem cf_cut {a : List Rat} {m n i : Nat} : cf ((a.take n).drop m) i = if m + i < n then cf a (m + i) else 0:=by
  rw [cf_drop]
  split
  · rename_i h;exact cf_take h
  · unfold cf;rw [List.getD_eq_getElem?_getD,List.getElem?_eq_none (by rw [List.length_take];omega)];rfl
theorem cf_out {a : List Rat} {i : Nat} (h : a.length ≤ i) : cf a i = 0:=by
  unfold cf;rw [List.getD_eq_getElem?_getD,List.getElem?_eq_none h];rfl
theorem shL_pow {a : List Rat} : ∀ j : Nat,∃ i,i ≤ j ∧ shL a (2 ^ j) = 2 ^ i ∧ (∀ x,2 ^ i ≤ x → x < 2 ^ j → cf a x = 0) ∧ (i = 0 ∨ ∃ x,2 ^ (i - 1) ≤ x ∧ x < 2 ^ i ∧ cf a x ≠ 0)
  | 0=>⟨0,Nat.le_refl _,shL_end (by simp),fun x h1 h2=>absurd h1 (by omega),.inl rfl⟩
  | j + 1=>by
    have e : 2 ^ (j + 1) = 2 ^ j + 2 ^ j:=by rw [Nat.pow_succ];omega
    have hp:=Nat.two_pow_pos j
    have hh : 2 ^ (j + 1) / 2 = 2 ^ j:=by omega
    by_cases hz : zeroF ((a.take (2 ^ (j + 1))).drop (2 ^ (j + 1) / 2)) = true
    · obtain ⟨i,h1,h2,h3,h4⟩:=shL_pow (a:=a) j
      refine ⟨i,by omega,by rw [shL_go (by omega) hz,hh,h2],fun x hx hx2=>?_,h4⟩
      rcases Nat.lt_or_ge x (2 ^ j) with h5 | h5
      · exact h3 x hx h5
      · have:=zero_iff.1 hz (x - 2 ^ j)
        rw [cf_cut,hh,if_pos (by omega),show 2 ^ j + (x - 2 ^ j) = x by omega] at this
        exact this
    · refine ⟨j + 1,Nat.le_refl _,shL_end (fun h=>hz h.2),fun x h1 h2=>absurd h1 (by omega),.inr ?_⟩
      rw [hh,zero_iff] at hz
      rw [Nat.add_sub_cancel]
      obtain ⟨i,hi⟩:=Classical.not_forall.1 hz
      rw [cf_cut] at hi
      split at hi
      · rename_i h;exact ⟨2 ^ j + i,by omega,h,hi⟩
      · exact absurd rfl hi
def SHP (s : List Rat) : Prop:=s = [] ∨ (s.length = 1 ∧ cf s 0 ≠ 0) ∨ ∃ i,s.length = 2 ^ (i + 1) ∧ ∃ x,2 ^ i ≤ x ∧ x < 2 ^ (i + 1) ∧ cf s x ≠ 0
theorem sho_nil : shoF [] = []:=by
  unfold shoF
  rw [if_neg (by simp),if_neg (by decide)];rfl
theorem sho_ok {k : Nat} {a : List Rat} (hk : k ≤ 5) (h : PW k a) : SHP (shoF a) ∧ PW k (shoF a) ∧ (∀ x,cf (shoF a) x = cf a x) ∧ (shoF a).length ≤ a.length:=by
  rcases h with h | ⟨j,hj,h⟩
  · obtain rfl : a = []:=List.length_eq_zero_iff.1 h
    rw [sho_nil];exact ⟨.inl rfl,.inl rfl,fun _=>rfl,Nat.le_refl _⟩
  · obtain ⟨i,h1,h2,h3,h4⟩:=shL_pow (a:=a) j
    unfold shoF
    rw [h,levI_pow,if_neg (by omega),h2]
    have hle : 2 ^ i ≤ 2 ^ j:=Nat.pow_le_pow_right (by decide) h1
    have hlen : (a.take (2 ^ i)).length = 2 ^ i:=by rw [List.length_take];omega
    have hcf : ∀ x,cf (a.take (2 ^ i)) x = cf a x:=fun x=>by
      rcases Nat.lt_or_ge x (2 ^ i) with h5 | h5
      · exact cf_take h5
      · rw [cf_out (by omega)]
        rcases Nat.lt_or_ge x (2 ^ j) with h6 | h6
        · exact (h3 x h5 h6).symm
        · exact (cf_out (by omega)).symm
    split
    · rename_i hz
      have e : ∀ x,cf a x = 0:=fun x=>by
        rw [← hcf,hz.1];exact zero_iff.1 hz.2 x
      exact ⟨.inl rfl,.inl rfl,fun x=>by rw [e,cf_out (by simp)],Nat.zero_le _⟩
    · rename_i hz
      refine ⟨?_,.inr ⟨i,by omega,hlen⟩,hcf,by omega⟩
      rcases h4 with h4 | ⟨x,h5,h6,h7⟩
      · subst h4
        refine .inr (.inl ⟨by rw [hlen],fun e=>hz ⟨rfl,zero_iff.2 fun x=>?_⟩⟩)
        cases x with
        | zero=>exact e
        | succ x=>exact cf_out (by rw [List.length_take];omega)
      · cases i with
        | zero =>
          exfalso
          simp at h5 h6
          omega
        | succ i=>exact .inr (.inr ⟨i,hlen,x,by simpa using h5,h6,by rw [hcf];exact h7⟩)
theorem SHP.le {s s' : List Rat} (h : SHP s) (h' : SHP s') (e : ∀ x,cf s x = cf s' x) : s.length ≤ s'.length:=by
  rcases Nat.lt_or_ge s'.length s.length with hl | hl
  · exfalso
    rcases h with rfl | ⟨h1,h2⟩ | ⟨i,h1,x,h2,h3,h4⟩
    · simp at hl
    · exact h2 ((e 0).trans (cf_out (by omega)))
    · have hp:=Nat.two_pow_pos i
      have e2 : 2 ^ (i + 1) = 2 ^ i + 2 ^ i:=by rw [Nat.pow_succ];omega
      refine h4 ((e x).trans (cf_out ?_))
      rcases h' with rfl | ⟨h5,_⟩ | ⟨m,h5,_⟩
      · exact Nat.zero_le _
      · omega
      · rw [h5,h1] at hl
        have h6 : m + 1 < i + 1:=(Nat.pow_lt_pow_iff_right (by decide)).1 hl
        have : 2 ^ (m + 1) ≤ 2 ^ i:=Nat.pow_le_pow_right (by decide) (by omega)
        omega
  · exact hl
def tmF (rs : List (List Rat)) (a b : List Rat) : List Rat:=timesF rs (rs.length + 1) a b
def normF (rs : List (List Rat)) (a : List Rat) : List Rat :=
  plusF (tmF rs (a.take (a.length / 2)) (a.take (a.length / 2))) (minusF (tmF rs (tmF rs (a.drop (a.length / 2)) (a.drop (a.length / 2))) (rs.getD (lev a.length - 1) [])))
def dR (rs : List (List Rat)) : El.Rts:=fun k=>El.toE k (rs.getD k [])
def RLN (rs : List (List Rat)) : Prop:=∀ j,j < rs.length → (rs.getD j []).length = 2 ^ j
noncomputable def vlL (rs : List (List Rat)) (a : List Rat) : RR:=El.vl (dR rs) (El.toE 5 a)
noncomputable def sgL (rs : List (List Rat)) (a : List Rat) : Int:=sgR (vlL rs a)
def TOK (rs : List (List Rat)) : Prop:=rs.length ≤ 5 ∧ RLN rs ∧ ∀ j,j < rs.length → 0 ≤ vlL rs (rs.getD j [])
namespace El
theorem vl_low {d : Rts} {k : Nat} {l : List Rat} (h : l.length ≤ 2 ^ k) : vl d (toE (k + 1) l) = vl d (toE k l):=by
  rw [toE_low h]
  show vl d (toE k l) + vl d (zero k) * _ = _
  rw [vl_zero,RR.zero_mul,RR.add_zero]
theorem vl_ups {d : Rts} {l : List Rat} {k : Nat} (h : l.length ≤ 2 ^ k) : ∀ j,vl d (toE (k + j) l) = vl d (toE k l)
  | 0=>rfl
  | j + 1=>(vl_low (Nat.le_trans h (Nat.pow_le_pow_right (by decide) (Nat.le_add_right k j)))).trans (vl_ups h j)
theorem vl_at {rs : List (List Rat)} {l : List Rat} {k : Nat} (hk : k ≤ 5) (h : l.length ≤ 2 ^ k) : vlL rs l = vl (dR rs) (toE k l):=by
  have:=vl_ups (d:=dR rs) h (5 - k)
  rwa [show k + (5 - k) = 5 by omega] at this
theorem vl_congr {d d' : Rts} : ∀ {k : Nat} (x : El k),(∀ j,j < k → d j = d' j) → vl d x = vl d' x
  | 0,_,_=>rfl
  | k + 1,x,h=>by
    show vl d x.1 + vl d x.2 * (vl d (d k)).sq = vl d' x.1 + vl d' x.2 * (vl d' (d' k)).sq
    rw [vl_congr x.1 fun j hj=>h j (by omega),vl_congr x.2 fun j hj=>h j (by omega),vl_congr (d k) fun j hj=>h j (by omega),h k (Nat.lt_succ_self k)]
theorem toE_cf {k : Nat} {a b : List Rat} (h : ∀ x,cf a x = cf b x) : toE k a = toE k b:=toF_ext fun i _=>h i
end El
theorem TOK.ok {rs : List (List Rat)} (h : TOK rs) : El.ok (dR rs) rs.length:=fun j hj=>by
  have:=h.2.2 j hj
  have hl:=h.2.1 j hj
  rwa [El.vl_at (k:=j) (by have:=h.1;omega) (by rw [hl];exact Nat.le_refl _)] at this
theorem RLN.at {rs : List (List Rat)} (h : RLN rs) {j : Nat} (hj : j < rs.length) : (rs.getD j []).length = 2 ^ j:=h j hj
theorem RLN.hd {rs : List (List Rat)} (h : RLN rs) : ∀ j,j < rs.length → (rs.getD j []).length = 2 ^ j ∧ El.toE j (rs.getD j []) = dR rs j:=fun j hj=>⟨h j hj,rfl⟩
theorem tm_ok {rs : List (List Rat)} {k : Nat} {a b : List Rat} (hr : RLN rs) (hk : k ≤ rs.length) (ha : PW k a) (hb : PW k b) :
    El.toE k (tmF rs a b) = El.mul (dR rs) (El.toE k a) (El.toE k b) ∧ ((tmF rs a b).length = 0 ∨ (tmF rs a b).length = max a.length b.length):=times_E hr.hd k (rs.length + 1) hk (by omega) a b ha hb
theorem PW.mono {k m : Nat} {a : List Rat} (h : PW k a) (hk : k ≤ m) : PW m a:=by
  rcases h with h | ⟨j,hj,h⟩
  · exact .inl h
  · exact .inr ⟨j,by omega,h⟩
theorem PW.tmn {rs : List (List Rat)} {k m : Nat} {a b : List Rat} (hr : RLN rs) (hk : k ≤ rs.length) (hm : k < m) (ha : PW k a) (hb : PW k b) : PW k (timesF rs m a b):=by
  rcases (times_E hr.hd k m hk hm a b ha hb).2 with h | h
  · exact .inl h
  · rcases Nat.le_total a.length b.length with hl | hl
    · rw [Nat.max_eq_right hl] at h
      exact hb.imp (fun hb=>h.trans hb) fun ⟨j,hj,hb⟩=>⟨j,hj,h.trans hb⟩
    · rw [Nat.max_eq_left hl] at h
      exact ha.imp (fun ha=>h.trans ha) fun ⟨j,hj,ha⟩=>⟨j,hj,h.trans ha⟩
theorem PW.tm {rs : List (List Rat)} {k : Nat} {a b : List Rat} (hr : RLN rs) (hk : k ≤ rs.length) (ha : PW k a) (hb : PW k b) : PW k (tmF rs a b):=PW.tmn hr hk (by omega) ha hb
theorem PW.half {k : Nat} {a : List Rat} (ha : PW k a) (hz : ¬ zeroF a = true) (h1 : ¬ a.length = 1) : ∃ j,j < k ∧ a.length = 2 ^ (j + 1) ∧ a.length / 2 = 2 ^ j ∧ (a.take (2 ^ j)).length = 2 ^ j ∧ (a.drop (2 ^ j)).length = 2 ^ j:=by
  rcases ha with ha | ⟨i,hi,ha⟩
  · exfalso;apply hz;rw [List.length_eq_zero_iff.1 ha];rfl
  · cases i with
    | zero=>exact absurd ha h1
    | succ j =>
      have e2 : 2 ^ (j + 1) = 2 ^ j + 2 ^ j:=by rw [Nat.pow_succ];omega
      exact ⟨j,by omega,ha,by omega,by rw [List.length_take];omega,by rw [List.length_drop];omega⟩
theorem PW.pos {k : Nat} {b : List Rat} {j : Nat} (hb : PW k b) (hz : ¬ b.length ≤ 2 ^ j) (hl : b.length ≤ 2 ^ (j + 1)) : b.length = 2 ^ (j + 1):=by
  rcases hb with hb | ⟨i,hi,hb⟩
  · exact absurd (Nat.zero_le _) (by rw [← hb];exact hz)
  · have h1 : j < i := by
      rcases Nat.lt_or_ge j i with h | h
      · exact h
      · exact absurd (by rw [hb];exact Nat.pow_le_pow_right (by decide) h) hz
    have h2 : i ≤ j + 1:=by
      rcases Nat.lt_or_ge (j + 1) i with h | h
      · have:=Nat.pow_lt_pow_right (a:=2) (by decide) h;omega
      · exact h
    rw [hb,show i = j + 1 by omega]
theorem times_fuel {rs : List (List Rat)} (hr : RLN rs) : ∀ k : Nat,k ≤ rs.length → ∀ m m' : Nat,k < m → k < m' → ∀ a b : List Rat,PW k a → PW k b → timesF rs m a b = timesF rs m' a b:=by
  intro k
  induction k with
  | zero =>
    intro _ m m' hm hm' a b ha hb
    obtain ⟨m,rfl⟩ : ∃ i,m = i + 1:=⟨m - 1,by omega⟩
    obtain ⟨m',rfl⟩ : ∃ i,m' = i + 1:=⟨m' - 1,by omega⟩
    have key : ∀ a b : List Rat,PW 0 a → stepF rs (timesF rs m) a b = stepF rs (timesF rs m') a b:=fun a b ha=>by
      unfold stepF
      by_cases hz : (zeroF a || zeroF b) = true
      · rw [if_pos hz,if_pos hz]
      · rw [if_neg hz,if_neg hz]
        by_cases h1 : a.length = 1
        · rw [if_pos h1,if_pos h1]
        · obtain ⟨j,hj,_⟩:=ha.half (fun e=>hz (by rw [e];rfl)) h1
          omega
    unfold timesF
    split
    · exact key b a hb
    · exact key a b ha
  | succ k ih =>
    intro hk m m' hm hm' a b ha hb
    obtain ⟨m,rfl⟩ : ∃ i,m = i + 1:=⟨m - 1,by omega⟩
    obtain ⟨m',rfl⟩ : ∃ i,m' = i + 1:=⟨m' - 1,by omega⟩
    have IH:=ih (by omega) m m' (by omega) (by omega)
    have key : ∀ a b : List Rat,PW (k + 1) a → PW (k + 1) b → b.length ≤ a.length → stepF rs (timesF rs m) a b = stepF rs (timesF rs m') a b:=fun a b ha hb hab=>by
      unfold stepF
      by_cases hz : (zeroF a || zeroF b) = true
      · rw [if_pos hz,if_pos hz]
      · rw [if_neg hz,if_neg hz]
        by_cases h1 : a.length = 1
        · rw [if_pos h1,if_pos h1]
        · obtain ⟨j,hj,hla,hh,hx,hy⟩:=ha.half (fun e=>hz (by rw [e];rfl)) h1
          rw [if_neg h1,if_neg h1,hh,hla,lev_pow,Nat.add_sub_cancel]
          have px : PW k (a.take (2 ^ j)):=(PW.pow hx).mono (by omega)
          have py : PW k (a.drop (2 ^ j)):=(PW.pow hy).mono (by omega)
          by_cases hbl : b.length ≤ 2 ^ j
          · have pb : PW k b:=hb.low (Nat.le_trans hbl (Nat.pow_le_pow_right (by decide) (by omega)))
            rw [if_pos hbl,if_pos hbl,IH _ _ px pb,IH _ _ py pb]
          · have hb2:=hb.pos hbl (by omega)
            have e2 : 2 ^ (j + 1) = 2 ^ j + 2 ^ j:=by rw [Nat.pow_succ];omega
            have pu : PW k (b.take (2 ^ j)):=(PW.pow (k:=j) (by rw [List.length_take];omega)).mono (by omega)
            have pv : PW k (b.drop (2 ^ j)):=(PW.pow (k:=j) (by rw [List.length_drop];omega)).mono (by omega)
            have pd : PW k (rs.getD j []):=(PW.pow (hr j (by omega))).mono (by omega)
            rw [if_neg hbl,if_neg hbl,IH _ _ px pu,IH _ _ py pv,IH _ _ (PW.tmn hr (by omega) (by omega) py pv) pd,IH _ _ px pv,IH _ _ py pu]
    unfold timesF
    split
    · exact key b a hb ha (by omega)
    · exact key a b ha hb (by omega)
theorem PW.plus {k : Nat} {a b : List Rat} (ha : PW k a) (hb : PW k b) : PW k (plusF a b):=by
  have h:=plus_len (a:=a) (b:=b)
  rcases Nat.le_total a.length b.length with hl | hl
  · rw [Nat.max_eq_right hl] at h
    exact hb.imp (fun hb=>h.trans hb) fun ⟨j,hj,hb⟩=>⟨j,hj,h.trans hb⟩
  · rw [Nat.max_eq_left hl] at h
    exact ha.imp (fun ha=>h.trans ha) fun ⟨j,hj,ha⟩=>⟨j,hj,h.trans ha⟩
theorem minus_len {a : List Rat} : (minusF a).length = a.length:=by simp [minusF]
theorem PW.minus {k : Nat} {a : List Rat} (ha : PW k a) : PW k (minusF a):=by
  unfold PW;rw [minus_len];exact ha
theorem norm_ok {rs : List (List Rat)} {k : Nat} {a : List Rat} (hr : RLN rs) (hk : k < rs.length) (ha : a.length = 2 ^ (k + 1)) :
    El.toE k (normF rs a) = El.norm (dR rs) (El.toE (k + 1) a) ∧ PW k (normF rs a):=by
  have e2 : 2 ^ (k + 1) = 2 ^ k + 2 ^ k:=by rw [Nat.pow_succ];omega
  have hh : a.length / 2 = 2 ^ k:=by omega
  have hx : PW k (a.take (2 ^ k)):=.pow (by rw [List.length_take];omega)
  have hy : PW k (a.drop (2 ^ k)):=.pow (by rw [List.length_drop];omega)
  have hd : PW k (rs.getD k []):=.pow (hr k hk)
  have hyy:=PW.tm hr (by omega) hy hy
  unfold normF
  rw [hh,ha,lev_pow,Nat.add_sub_cancel]
  refine ⟨?_,(PW.tm hr (by omega) hx hx).plus (PW.tm hr (by omega) hyy hd).minus⟩
  rw [El.toE_plus,El.toE_minus,(tm_ok hr (by omega) hx hx).1,(tm_ok hr (by omega) hyy hd).1,(tm_ok hr (by omega) hy hy).1,El.toE_halves k a]
  rfl
theorem sgL_nil {rs : List (List Rat)} : sgL rs [] = 0:=by
  unfold sgL
  rw [El.vl_at (k:=0) (by decide) (by simp)]
  show sgR (RR.of 0) = 0
  rw [sgR_of];rfl
theorem sgL_one {rs : List (List Rat)} {a : List Rat} (h : a.length = 1) : sgL rs a = (cf a 0).num.sign:=by
  unfold sgL
  rw [El.vl_at (k:=0) (by decide) (by rw [h];decide)]
  exact sgR_of _
theorem sgL_cf {rs : List (List Rat)} {a b : List Rat} (h : ∀ x,cf a x = cf b x) : sgL rs a = sgL rs b:=by unfold sgL vlL;rw [El.toE_cf h]
theorem sgL_short {rs : List (List Rat)} {k : Nat} {a : List Rat} (hk : k ≤ 5) (h : PW k a) : sgL rs (shoF a) = sgL rs a:=sgL_cf (sho_ok hk h).2.2.1
theorem sgL_step {rs : List (List Rat)} (ht : TOK rs) {k : Nat} {a : List Rat} (hk : k < rs.length) (ha : a.length = 2 ^ (k + 1)) :
    sgL rs a = if sgL rs (rs.getD k []) = 0 then sgL rs (a.take (a.length / 2)) else if sgL rs (a.take (a.length / 2)) = sgL rs (a.drop (a.length / 2)) ∨ sgL rs (a.drop (a.length / 2)) = 0 then sgL rs (a.take (a.length / 2)) else
      if sgL rs (a.take (a.length / 2)) = 0 then sgL rs (a.drop (a.length / 2)) else sgL rs (a.take (a.length / 2)) * sgL rs (normF rs a):=by
  have e2 : 2 ^ (k + 1) = 2 ^ k + 2 ^ k:=by rw [Nat.pow_succ];omega
  have h5:=ht.1
  have hh : a.length / 2 = 2 ^ k:=by omega
  have hx : (a.take (2 ^ k)).length = 2 ^ k:=by rw [List.length_take];omega
  have hy : (a.drop (2 ^ k)).length = 2 ^ k:=by rw [List.length_drop];omega
  obtain ⟨n1,n2⟩:=norm_ok ht.2.1 hk ha
  have hr:=ht.2.1 k hk
  rw [hh]
  unfold sgL
  rw [El.vl_at (k:=k + 1) (by omega) (by omega),El.vl_at (l:=rs.getD k []) (k:=k) (by omega) (by omega),El.vl_at (l:=a.take (2 ^ k)) (k:=k) (by omega) (by omega),El.vl_at (l:=a.drop (2 ^ k)) (k:=k) (by omega) (by omega),El.vl_at (l:=normF rs a) (k:=k) (by omega) n2.le,n1]
  have:=El.sg_step (ht.ok.mono (Nat.succ_le_of_lt hk)) (El.toE (k + 1) a)
  unfold El.sg at this
  rw [this,El.toE_halves k a]
  rfl
theorem sgL_bd (rs : List (List Rat)) (a : List Rat) : -1 ≤ sgL rs a ∧ sgL rs a ≤ 1:=by
  unfold sgL
  rcases sgR_cases (vlL rs a) with ⟨_,h⟩ | ⟨_,h⟩ | ⟨_,h⟩ <;> omega
theorem sgL_mul_bd (rs : List (List Rat)) (a b : List Rat) : -9223372036854775808 ≤ sgL rs a * sgL rs b ∧ sgL rs a * sgL rs b ≤ 9223372036854775807:=by
  have h1:=sgL_bd rs a;have h2:=sgL_bd rs b
  generalize sgL rs a = x at *;generalize sgL rs b = y at *
  rcases (show x = -1 ∨ x = 0 ∨ x = 1 by omega) with rfl | rfl | rfl <;> omega
theorem TOK.take {rs : List (List Rat)} (h : TOK rs) (j : Nat) : TOK (rs.take j) ∧ ∀ l : List Rat,PW (rs.take j).length l → sgL (rs.take j) l = sgL rs l:=by
  have hlen : (rs.take j).length ≤ rs.length:=by rw [List.length_take];omega
  have hget : ∀ i,i < (rs.take j).length → (rs.take j).getD i [] = rs.getD i []:=fun i hi=>by
    rw [List.length_take] at hi
    rw [List.getD_eq_getElem?_getD,List.getD_eq_getElem?_getD,List.getElem?_take_of_lt (by omega)]
  have h5:=h.1
  have hv : ∀ (k : Nat) (l : List Rat),k ≤ (rs.take j).length → l.length ≤ 2 ^ k → vlL (rs.take j) l = vlL rs l:=fun k l hk hl=>by
    rw [El.vl_at (k:=k) (by omega) hl,El.vl_at (k:=k) (by omega) hl]
    exact El.vl_congr _ fun i hi=>by unfold dR;rw [hget i (by omega)]
  refine ⟨⟨by omega,fun i hi=>by rw [hget i hi];exact h.2.1 i (by omega),fun i hi=>?_⟩,fun l hl=>by unfold sgL;rw [hv _ l (Nat.le_refl _) hl.le]⟩
  rw [hget i hi,hv i _ (by omega) (by rw [h.2.1 i (by omega)];exact Nat.le_refl _)]
  exact h.2.2 i (by omega)
theorem TOK.nn {rs : List (List Rat)} (h : TOK rs) {j : Nat} (hj : j < rs.length) : 0 ≤ sgL rs (rs.getD j []):=by
  have:=h.2.2 j hj
  unfold sgL
  rcases sgR_cases (vlL rs (rs.getD j [])) with ⟨h3,h4⟩ | ⟨h3,h4⟩ | ⟨h3,h4⟩
  · exact absurd h3 (RR.not_lt.2 this)
  · omega
  · omega
def tB : Nat → Nat → Nat → Nat
  | 0,n,_=>n
  | k + 1,n,r=>tB k n r + tB k (tB k n r + r) r + 1
def sB : Nat → Nat → Nat → Nat
  | 0,n,_=>n
  | k + 1,n,r=>sB k (tB (k + 1) (n + n) r) r
theorem tB_add {r : Nat} : ∀ {k n m : Nat},tB k n r + m ≤ tB k (n + m) r
  | 0,_,_=>Nat.le_refl _
  | k + 1,n,m=>by
    have h1:=tB_add (r:=r) (k:=k) (n:=n) (m:=m)
    have h2:=tB_add (r:=r) (k:=k) (n:=tB k n r + r) (m:=tB k (n + m) r - tB k n r)
    rw [show tB k n r + r + (tB k (n + m) r - tB k n r) = tB k (n + m) r + r by omega] at h2
    unfold tB;omega
theorem tB_mono {r k n m : Nat} (h : n ≤ m) : tB k n r ≤ tB k m r:=by
  have:=tB_add (r:=r) (k:=k) (n:=n) (m:=m - n)
  rw [show n + (m - n) = m by omega] at this;omega
theorem tB_le {r k n : Nat} : n ≤ tB k n r:=by
  have:=tB_add (r:=r) (k:=k) (n:=0) (m:=n)
  rw [Nat.zero_add] at this;omega
theorem tB_up {r : Nat} : ∀ {k m n : Nat},k ≤ m → tB k n r ≤ tB m n r:=fun {k m n} h=>by
  induction m with
  | zero=>rw [show k = 0 by omega];exact Nat.le_refl _
  | succ m ih =>
    rcases Nat.lt_or_ge k (m + 1) with h1 | h1
    · exact Nat.le_trans (ih (by omega)) (by conv => rhs; unfold tB
                                             omega)
    · rw [show k = m + 1 by omega];exact Nat.le_refl _
theorem sB_mono {r : Nat} : ∀ {k n m : Nat},n ≤ m → sB k n r ≤ sB k m r
  | 0,_,_,h=>h
  | k + 1,n,m,h=>by
    unfold sB;exact sB_mono (tB_mono (by omega))
theorem sB_le {r : Nat} : ∀ {k n : Nat},n ≤ sB k n r
  | 0,n=>Nat.le_refl _
  | k + 1,n=>Nat.le_trans (by have:=tB_le (r:=r) (k:=k + 1) (n:=n + n);omega) (sB_le (k:=k) (n:=tB (k + 1) (n + n) r))
theorem sB_up {r : Nat} {k n : Nat} : sB k n r ≤ sB (k + 1) n r:=by
  unfold sB
  have:=tB_le (r:=r) (k:=k + 1) (n:=n + n)
  cases k with
  | zero=>show n ≤ tB (0 + 1) (n + n) r;omega
  | succ k=>exact sB_mono (k:=k + 1) (by omega)
theorem sB_ups {r : Nat} {k m n : Nat} (h : k ≤ m) : sB k n r ≤ sB m n r:=by
  induction m with
  | zero=>rw [show k = 0 by omega];exact Nat.le_refl _
  | succ m ih =>
    rcases Nat.lt_or_ge k (m + 1) with h1 | h1
    · exact Nat.le_trans (ih (by omega)) sB_up
    · rw [show k = m + 1 by omega];exact Nat.le_refl _
end Go.Proofs.YtnjbcjmkkejfpaaGreatDoor
set_option linter.unusedVariables false
set_option linter.unusedSimpArgs false
set_option maxHeartbeats 4000000
set_option maxRecDepth 100000
set_option synthInstance.maxSize 100000
set_option synthInstance.maxHeartbeats 400000
namespace Go.Proofs.YtnjbcjmkkejfpaaGreatDoor
open Go.RowKit (Below)
attribute [local irreducible] Go.Code.wp Go.wpList Go.bodyPost
private theorem gS_ {W0 : World} {G0 : Gh} {N : Nat} {L : List (Nat × MT)} {B : List BX} {a : Act} {w : World} {G : Gh} {q : Prop} (h : St W0 G0 N L B a w G → q) : St W0 G0 N L B a w G → q:=h
private theorem gL_ {p : Prop} {P : Program} {arr : Array Oper} {Q : Exit → Act → World → Prop} {l : List Oper} {a : Act} {w : World} (h : p → wpList P arr Q l a w) : p → wpList P arr Q l a w:=h
private theorem gC_ {p : Prop} {P : Program} {c : Code} {Q : Exit → Act → World → Prop} {a : Act} {w : World} (h : p → c.wp P Q a w) : p → c.wp P Q a w:=h
private theorem mixedOrders : Tryz.prog.follows .mixedOrders = true:=by kernel_rfl
def mnP (l : List Rat) (j : Nat) : List Rat:=(List.range l.length).map fun i=>if i < j then -cf l i else 0
def plP (n m : Nat) (l k : List Rat) (j : Nat) : List (Nat × Rat):=(List.range (max l.length k.length)).map fun i=>if i < j then (n + m + 1,cf l i + cf k i) else (n,cf l i)
theorem emp_z {x : Rat} : ((FR.of x).s || decide ((((FR.of x).p.length : Nat) : Int) > 0) || decide ((((FR.of x).q.length : Nat) : Int) > 0)) = !decide (x.num.sign = 0):=by
  by_cases h : x = 0
  · subst h
    have e1 : (FR.of 0).p = []:=words_zero
    have e2 : (FR.of 0).q = []:=by show dwords 0 = [];simp [dwords]
    rw [e1,e2]
    decide
  · have h2 : x.num.sign ≠ 0:=fun e=>h (Rat.num_eq_zero.1 (Int.sign_eq_zero_iff_zero.1 e))
    have h3 : 0 < (FR.of x).p.length:=by
      rcases Nat.eq_zero_or_pos (FR.of x).p.length with e | e
      · exfalso
        have e1 : words x.num.natAbs = []:=List.length_eq_zero_iff.1 e
        have e2:=val_words x.num.natAbs
        rw [e1] at e2
        exact h (Rat.num_eq_zero.1 (Int.natAbs_eq_zero.1 e2.symm))
      · exact e
    rw [decide_eq_false h2,decide_eq_true (show (((FR.of x).p.length : Nat) : Int) > 0 by omega)]
    simp
theorem mnP_0 {l : List Rat} : List.replicate l.length 0 = mnP l 0:=by
  unfold mnP
  refine List.ext_getElem (by simp) fun i h1 h2=>?_
  simp
theorem mnP_len {l : List Rat} {j : Nat} : (mnP l j).length = l.length:=by simp [mnP]
theorem mnP_s {l : List Rat} {j : Nat} (h : j < l.length) : (mnP l j).set j (-l.getD j default) = mnP l (j + 1):=by
  refine List.ext_getElem (by simp [mnP]) fun i h1 h2=>?_
  simp only [mnP,List.getElem_set,List.getElem_map,List.getElem_range]
  by_cases e : j = i
  · subst e;rw [if_pos rfl,if_pos (Nat.lt_succ_self j)];rfl
  · rw [if_neg e]
    by_cases h3 : i < j
    · rw [if_pos h3,if_pos (by omega)]
    · rw [if_neg h3,if_neg (by omega)]
theorem mnP_e {l : List Rat} {j : Nat} (h : l.length ≤ j) : mnP l j = minusF l:=by
  refine List.ext_getElem (by simp [mnP,minusF]) fun i h1 h2=>?_
  have hi : i < l.length:=by simpa [mnP] using h1
  simp only [mnP,minusF,List.getElem_map,List.getElem_range]
  rw [if_pos (by omega)]
  simp [cf,List.getD_eq_getElem?_getD,hi]
theorem plP_len {n m : Nat} {l k : List Rat} {j : Nat} : (plP n m l k j).length = max l.length k.length:=by simp [plP]
theorem wide_get {l : List Rat} {M i : Nat} (h : i < M) : (wideF l M).getD i default = cf l i ∧ ∀ h2 : i < (wideF l M).length,(wideF l M)[i] = cf l i:=by
  have key : (wideF l M)[i]? = some (cf l i):=by
    unfold wideF cf
    rcases Nat.lt_or_ge i l.length with h3 | h3
    · rw [List.getElem?_append_left (by rw [List.length_take];omega),List.getElem?_take_of_lt h,List.getElem?_eq_getElem h3,List.getD_eq_getElem?_getD,List.getElem?_eq_getElem h3];rfl
    · have e : (l.take M).length = l.length:=by rw [List.length_take];omega
      rw [List.getElem?_append_right (by omega),e,List.getElem?_drop,List.getElem?_replicate,if_pos (by omega),List.getD_eq_getElem?_getD,List.getElem?_eq_none h3];rfl
  refine ⟨by rw [List.getD_eq_getElem?_getD,key];rfl,fun h2=>?_⟩
  rw [List.getElem?_eq_getElem h2] at key;exact Option.some.inj key
theorem wide_ln {l : List Rat} {M : Nat} : (wideF l M).length = M:=by unfold wideF;simp;omega
theorem plP_0 {n m : Nat} {l k : List Rat} : plP n m l k 0 = (wideF l (max l.length k.length)).map fun x=>(n,x):=by
  refine List.ext_getElem (by simp [plP,wide_ln]) fun i h1 h2=>?_
  have hi : i < max l.length k.length:=by simpa [plP] using h1
  simp only [plP,List.getElem_map,List.getElem_range]
  rw [if_neg (by omega),(wide_get hi).2]
theorem plP_s {n m : Nat} {l k : List Rat} {j : Nat} (h : j < max l.length k.length) : (plP n m l k j).set j (((plP n m l k j).getD j default).1 + m + 1,((plP n m l k j).getD j default).2 + (wideF k (max l.length k.length)).getD j default) = plP n m l k (j + 1):=by
  have e0 : (plP n m l k j).getD j default = (n,cf l j):=by
    rw [List.getD_eq_getElem?_getD,List.getElem?_eq_getElem (by rw [plP_len];exact h)]
    simp [plP]
  rw [e0,(wide_get h).1]
  refine List.ext_getElem (by simp [plP]) fun i h1 h2=>?_
  simp only [plP,List.getElem_set,List.getElem_map,List.getElem_range]
  by_cases e : j = i
  · subst e;rw [if_pos rfl,if_pos (Nat.lt_succ_self j)]
  · rw [if_neg e]
    by_cases h3 : i < j
    · rw [if_pos h3,if_pos (by omega)]
    · rw [if_neg h3,if_neg (by omega)]
theorem plP_g {n m : Nat} {l k : List Rat} {j : Nat} (h : j < max l.length k.length) : ((plP n m l k j).getD j default).1 = n:=by
  rw [List.getD_eq_getElem?_getD,List.getElem?_eq_getElem (by rw [plP_len];exact h)]
  simp [plP]
theorem plP_e {n m : Nat} {l k : List Rat} {j : Nat} (h : max l.length k.length ≤ j) : (plP n m l k j).map Prod.snd = plusF l k ∧ ∀ p ∈ plP n m l k j,p.1 ≤ n + m + 1:=by
  constructor
  · refine List.ext_getElem (by simp [plP,plusF]) fun i h1 h2=>?_
    have hi : i < max l.length k.length:=by simpa [plP] using h1
    simp only [plP,plusF,List.getElem_map,List.getElem_range]
    rw [if_pos (by omega)]
  · intro p hp
    unfold plP at hp
    obtain ⟨i,_,rfl⟩:=List.mem_map.1 hp
    split <;> simp <;> omega
instance {α : Type} {T : α → MT} {l : List α} : Con Tryz.prog 131 [LS (some 3) (l.map T)] (True) (IT (levI l.length)):=.o1 fun hok h1 hp=>by
  refine St.enter (N:=17) Tryz.func131 rfl rfl rfl hok (enter1 h1) fun a=>?_
  have hlim:=LS.lenM h1
  simp only [LIM] at hlim
  repeat' (first|((with_reducible refine gS_ ?_);first|((with_reducible refine gL_ ?_);first|refine W.run ?_ fun a w G=>?_|refine W.mv fun a w G=>?_|refine W.asg fun a w G=>?_|refine W.bx fun b a w G=>?_|(refine W.nn hK ?_;clear hK K)|refine W.nl ?_|refine W.al fun b a w G=>?_|refine W.st fun w=>?_|refine W.stp fun w=>?_|refine W.ste ?_ fun w=>?_)|((with_reducible refine gC_ ?_);first|refine W.reg fun K hK=>?_|refine W.reg1 ?_|refine W.sq fun K hK=>?_|refine W.ds ?_ (fun β a w G hu=>W.fin ?_ hu) mixedOrders (by kernel_rfl)|refine W.sk ?_|refine W.cd (fun hc=>?_) (fun hc=>?_)|refine W.cb (fun hc=>?_) (fun hc=>?_)|refine W.bl ?_|refine W.ex ?_|refine W.rt ?_)|((with_reducible refine W.kn hK ?_);clear hK K)|(with_reducible first|refine W.bn ?_|refine W.xt ?_|refine W.xb ?_|refine W.xo ?_|refine W.tr ?_|refine W.br ?_)|refine W.rt1 rfl ?_|refine W.rt2 rfl ?_ ?_|refine W.rt3 rfl ?_ ?_ ?_)|refine W.lp 4 (α:=Nat) (fun j=>l.length - 2 ^ j) (fun j=>∀ i,i < j → 2 ^ i < l.length) [3,4,5,6,7,8,9,10] (fun j=>[(3,NT j)]) (fun j=>[]) (0) ?_ ?_ ?_ fun j hj a w G=>?_|refine W.ag (x:=j) (j+1) ?_ ?_ ?_ ?_|clear hK K|clear hu|exact True.intro|exact Nat.le_trans (by clear hp;omega) hp|exact Nat.le_trans (by clear hp;omega) hp.1|exact Nat.le_trans (by clear hp;omega) hp.2|(clear hp;omega)|apply And.intro|refine GI.i fun _=>?_|with_reducible rfl|decide|(simp only [List.length_cons,List.length_nil];omega))
  all_goals (obtain ⟨hl,hl2⟩:=lev_le hj hlim;have e2 : 2 ^ (j + 1) = 2 * 2 ^ j:=by rw [Nat.pow_succ,Nat.mul_comm])
  all_goals have hpj:=Nat.two_pow_pos j
  all_goals first
    | omega
    | exact fun i hi=>lev_lt hj (by omega) i hi
    | exact (levI_n hj (by omega) (by omega)).symm
    | exact (levI_y (by omega)).symm
theorem w195 {n : Nat} {l : List Rat} : Con Tryz.prog 195 [NM n l] (n ≤ BIG) (BT (zeroF l)):=.o1 fun hok h1 hp=>by
  refine St.enter (N:=15) Tryz.func195 rfl rfl rfl hok (enter1 h1) fun a=>?_
  have hlim:=LS.lenM h1
  simp only [LIM] at hlim
  repeat' (first|((with_reducible refine gS_ ?_);first|((with_reducible refine gL_ ?_);first|refine W.run ?_ fun a w G=>?_|refine W.mv fun a w G=>?_|refine W.asg fun a w G=>?_|refine W.bx fun b a w G=>?_|(refine W.nn hK ?_;clear hK K)|refine W.nl ?_|refine W.al fun b a w G=>?_|refine W.st fun w=>?_|refine W.stp fun w=>?_|refine W.ste ?_ fun w=>?_)|((with_reducible refine gC_ ?_);first|refine W.reg fun K hK=>?_|refine W.reg1 ?_|refine W.sq fun K hK=>?_|refine W.ds ?_ (fun β a w G hu=>W.fin ?_ hu) mixedOrders (by kernel_rfl)|refine W.sk ?_|refine W.cd (fun hc=>?_) (fun hc=>?_)|refine W.cb (fun hc=>?_) (fun hc=>?_)|refine W.bl ?_|refine W.ex ?_|refine W.rt ?_)|((with_reducible refine W.kn hK ?_);clear hK K)|(with_reducible first|refine W.bn ?_|refine W.xt ?_|refine W.xb ?_|refine W.xo ?_|refine W.tr ?_|refine W.br ?_)|refine W.rt1 rfl ?_|refine W.rt2 rfl ?_ ?_|refine W.rt3 rfl ?_ ?_ ?_)|refine W.lp 8 (α:=Nat) (fun j=>l.length - j) (fun j=>j ≤ l.length ∧ zeroF (l.take j) = true) [2,4,7,8,9,10,11,12,13,14] (fun j=>[(7,NT j)]) (fun j=>[]) (0) ?_ ?_ ?_ fun j hj a w G=>?_|refine W.ag (x:=j) (j+1) ?_ ?_ ?_ ?_|clear hK K|clear hu|exact True.intro|exact Nat.le_trans (by clear hp;omega) hp|exact Nat.le_trans (by clear hp;omega) hp.1|exact Nat.le_trans (by clear hp;omega) hp.2|(clear hp;omega)|apply And.intro|refine GI.i fun _=>?_|with_reducible rfl|decide|(simp only [List.length_cons,List.length_nil];omega))
  all_goals first
    | (simp [zeroF];done)
    | exact (all_not (p:=fun x : Rat=>decide (x.num.sign = 0)) (show j < l.length by omega) (by first | simpa using hc | (rw [emp_z] at hc;simpa using hc))).symm
    | exact all_snoc (p:=fun x : Rat=>decide (x.num.sign = 0)) (show j < l.length by omega) hj.2 (by first | simpa using hc | (rw [emp_z] at hc;simpa using hc))
    | exact (all_end (p:=fun x : Rat=>decide (x.num.sign = 0)) (by omega) hj.2).symm
instance {n : Nat} {l : List Rat} {τ1 : MT} [j1 : NU τ1 (NM n l)] : Con Tryz.prog 195 [τ1] (n ≤ BIG) (BT (zeroF l)):=.o1 fun hok h1 hp=>w195.c1 hok (j1.h h1) hp
theorem w133 {n : Nat} {l : List Rat} : Con Tryz.prog 133 [NM n l] (n ≤ BIG) (BT (zeroF l)):=.o1 fun hok h1 hp=>by
  refine St.enter (N:=26) Tryz.func133 rfl rfl rfl hok (enter1 h1) fun a=>?_
  have hlim:=LS.lenM h1
  simp only [LIM] at hlim
  repeat' (first|((with_reducible refine gS_ ?_);first|((with_reducible refine gL_ ?_);first|refine W.run ?_ fun a w G=>?_|refine W.mv fun a w G=>?_|refine W.asg fun a w G=>?_|refine W.bx fun b a w G=>?_|(refine W.nn hK ?_;clear hK K)|refine W.nl ?_|refine W.al fun b a w G=>?_|refine W.st fun w=>?_|refine W.stp fun w=>?_|refine W.ste ?_ fun w=>?_)|((with_reducible refine gC_ ?_);first|refine W.reg fun K hK=>?_|refine W.reg1 ?_|refine W.sq fun K hK=>?_|refine W.ds ?_ (fun β a w G hu=>W.fin ?_ hu) mixedOrders (by kernel_rfl)|refine W.sk ?_|refine W.cd (fun hc=>?_) (fun hc=>?_)|refine W.cb (fun hc=>?_) (fun hc=>?_)|refine W.bl ?_|refine W.ex ?_|refine W.rt ?_)|((with_reducible refine W.kn hK ?_);clear hK K)|(with_reducible first|refine W.bn ?_|refine W.xt ?_|refine W.xb ?_|refine W.xo ?_|refine W.tr ?_|refine W.br ?_)|refine W.rt1 rfl ?_|refine W.rt2 rfl ?_ ?_|refine W.rt3 rfl ?_ ?_ ?_)|refine W.lp 8 (α:=Nat) (fun j=>l.length - j) (fun j=>j ≤ l.length ∧ zeroF (l.take j) = true) [2,4,7,8,9,10,11,12,13,14,15,16,17,18,19,20,21,22,23,24,25] (fun j=>[(7,NT j)]) (fun j=>[]) (0) ?_ ?_ ?_ fun j hj a w G=>?_|refine W.ag (x:=j) (j+1) ?_ ?_ ?_ ?_|clear hK K|clear hu|exact True.intro|exact Nat.le_trans (by clear hp;omega) hp|exact Nat.le_trans (by clear hp;omega) hp.1|exact Nat.le_trans (by clear hp;omega) hp.2|(clear hp;omega)|apply And.intro|refine GI.i fun _=>?_|with_reducible rfl|decide|(simp only [List.length_cons,List.length_nil];omega))
  all_goals first
    | (simp [zeroF];done)
    | exact (all_not (p:=fun x : Rat=>decide (x.num.sign = 0)) (show j < l.length by omega) (by first | simpa using hc | (rw [emp_z] at hc;simpa using hc))).symm
    | exact all_snoc (p:=fun x : Rat=>decide (x.num.sign = 0)) (show j < l.length by omega) hj.2 (by first | simpa using hc | (rw [emp_z] at hc;simpa using hc))
    | exact (all_end (p:=fun x : Rat=>decide (x.num.sign = 0)) (by omega) hj.2).symm
instance {n : Nat} {l : List Rat} {τ1 : MT} [j1 : NU τ1 (NM n l)] : Con Tryz.prog 133 [τ1] (n ≤ BIG) (BT (zeroF l)):=.o1 fun hok h1 hp=>w133.c1 hok (j1.h h1) hp
theorem w135 {n m : Nat} {l : List Rat} : ConO Tryz.prog 135 [NM n l,NT m] (1 ≤ n ∧ n ≤ BIG ∧ m ≤ 64) (some 3) 24 (QC n) (wideF l m):=.o2 fun hok h1 h2 hp=>by
  obtain ⟨n,rfl⟩ : ∃ k,n = k + 1:=⟨n - 1,by omega⟩
  refine St.enter (N:=12) Tryz.func135 rfl rfl rfl hok (enter2 h1 h2) fun a=>?_
  have own7 : OwnAt 7:=⟨⟩
  have own10 : OwnAt 10:=⟨⟩
  repeat' (first|((with_reducible refine gS_ ?_);first|((with_reducible refine gL_ ?_);first|refine W.run ?_ fun a w G=>?_|refine W.mv fun a w G=>?_|refine W.asg fun a w G=>?_|refine W.bx fun b a w G=>?_|(refine W.nn hK ?_;clear hK K)|refine W.nl ?_|refine W.al fun b a w G=>?_|refine W.st fun w=>?_|refine W.stp fun w=>?_|refine W.ste ?_ fun w=>?_)|((with_reducible refine gC_ ?_);first|refine W.reg fun K hK=>?_|refine W.reg1 ?_|refine W.sq fun K hK=>?_|refine W.ds ?_ (fun β a w G hu=>W.fin ?_ hu) mixedOrders (by kernel_rfl)|refine W.sk ?_|refine W.cd (fun hc=>?_) (fun hc=>?_)|refine W.cb (fun hc=>?_) (fun hc=>?_)|refine W.bl ?_|refine W.ex ?_|refine W.rt ?_)|((with_reducible refine W.kn hK ?_);clear hK K)|(with_reducible first|refine W.bn ?_|refine W.xt ?_|refine W.xb ?_|refine W.xo ?_|refine W.tr ?_|refine W.br ?_)|refine W.rt1 rfl ?_|refine W.rt2 rfl ?_ ?_|refine W.rt3 rfl ?_ ?_ ?_)|refine W.mk (mt:=FX 1 default) (QC (n+1)) (0:Rat) ?_ fun b a w G=>?_|refine W.cp ?_ fun a w G=>?_|refine W.rto 4 rfl ?_|clear hK K|clear hu|exact True.intro|exact Nat.le_trans (by clear hp;omega) hp|exact Nat.le_trans (by clear hp;omega) hp.1|exact Nat.le_trans (by clear hp;omega) hp.2|(clear hp;omega)|apply And.intro|refine GI.i fun _=>?_|with_reducible rfl|decide|(simp only [List.length_cons,List.length_nil];omega))
  all_goals first | omega | rfl | (simp;done) | exact wide_ln.symm
instance {n m : Nat} {l : List Rat} {τ1 : MT} [j1 : NU τ1 (NM n l)] : ConO Tryz.prog 135 [τ1,NT m] (1 ≤ n ∧ n ≤ BIG ∧ m ≤ 64) (some 3) 24 (QC n) (wideF l m):=.o2 fun hok h1 h2 hp=>w135.c2 hok (j1.h h1) h2 hp
theorem w86 {n : Nat} {l : List Rat} : Con Tryz.prog 86 [NM n l] (1 ≤ n ∧ n ≤ BIG ∧ l.length ≤ 64) (NM n (minusF l)):=.o1 fun hok h1 hp=>by
  obtain ⟨n,rfl⟩ : ∃ k,n = k + 1:=⟨n - 1,by omega⟩
  refine St.enter (N:=23) Tryz.func86 rfl rfl rfl hok (enter1 h1) fun a=>?_
  have own7 : OwnAt 7:=⟨⟩
  repeat' (first|((with_reducible refine gS_ ?_);first|((with_reducible refine gL_ ?_);first|refine W.run ?_ fun a w G=>?_|refine W.mv fun a w G=>?_|refine W.asg fun a w G=>?_|refine W.bx fun b a w G=>?_|(refine W.nn hK ?_;clear hK K)|refine W.nl ?_|refine W.al fun b a w G=>?_|refine W.st fun w=>?_|refine W.stp fun w=>?_|refine W.ste ?_ fun w=>?_)|((with_reducible refine gC_ ?_);first|refine W.reg fun K hK=>?_|refine W.reg1 ?_|refine W.sq fun K hK=>?_|refine W.ds ?_ (fun β a w G hu=>W.fin ?_ hu) mixedOrders (by kernel_rfl)|refine W.sk ?_|refine W.cd (fun hc=>?_) (fun hc=>?_)|refine W.cb (fun hc=>?_) (fun hc=>?_)|refine W.bl ?_|refine W.ex ?_|refine W.rt ?_)|((with_reducible refine W.kn hK ?_);clear hK K)|(with_reducible first|refine W.bn ?_|refine W.xt ?_|refine W.xb ?_|refine W.xo ?_|refine W.tr ?_|refine W.br ?_)|refine W.rt1 rfl ?_|refine W.rt2 rfl ?_ ?_|refine W.rt3 rfl ?_ ?_ ?_)|refine W.mk (mt:=FX 1 default) (QC (n+1)) (0:Rat) ?_ fun b a w G=>?_|refine W.fz 2 ?_ fun G=>?_|refine W.lp 11 (α:=Nat) (fun j=>l.length - j) (fun j=>j ≤ l.length) [4,10,11,12,13,14,15,16,17,18,19,20,21] (fun j=>[(10,NT j)]) (fun j=>[(3,ROWS (some 3) ((mnP l j).map (QC (n+1))))]) (0) ?_ ?_ ?_ fun j hj a w G=>?_|refine W.ag (x:=j) (j+1) ?_ ?_ ?_ ?_|clear hK K|clear hu|exact True.intro|exact Nat.le_trans (by clear hp;omega) hp|exact Nat.le_trans (by clear hp;omega) hp.1|exact Nat.le_trans (by clear hp;omega) hp.2|(clear hp;omega)|apply And.intro|refine GI.i fun _=>?_|with_reducible rfl|decide|(simp only [List.length_cons,List.length_nil];omega))
  all_goals (try simp only [mnP_len] at *)
  all_goals first
    | omega
    | (simp only [LIM];omega)
    | exact mnP_0
    | exact mnP_s (by omega)
    | exact mnP_e (by omega)
instance {n : Nat} {l : List Rat} {τ1 : MT} [j1 : NU τ1 (NM n l)] : Con Tryz.prog 86 [τ1] (1 ≤ n ∧ n ≤ BIG ∧ l.length ≤ 64) (NM n (minusF l)):=.o1 fun hok h1 hp=>w86.c1 hok (j1.h h1) hp
theorem w88 {n m : Nat} {l k : List Rat} : Con Tryz.prog 88 [NM n l,NM m k] (1 ≤ n ∧ 1 ≤ m ∧ n + m + 1 ≤ BIG ∧ l.length ≤ 64 ∧ k.length ≤ 64) (NM (n + m + 1) (plusF l k)):=.o2 fun hok h1 h2 hp=>by
  refine St.enter (N:=37) Tryz.func88 rfl rfl rfl hok (enter2 h1 h2) fun a=>?_
  have own14 : OwnAt 14:=⟨⟩
  have own17 : OwnAt 17:=⟨⟩
  repeat' (first|((with_reducible refine gS_ ?_);first|((with_reducible refine gL_ ?_);first|refine W.run ?_ fun a w G=>?_|refine W.mv fun a w G=>?_|refine W.asg fun a w G=>?_|refine W.bx fun b a w G=>?_|(refine W.nn hK ?_;clear hK K)|refine W.nl ?_|refine W.al fun b a w G=>?_|refine W.st fun w=>?_|refine W.stp fun w=>?_|refine W.ste ?_ fun w=>?_)|((with_reducible refine gC_ ?_);first|refine W.reg fun K hK=>?_|refine W.reg1 ?_|refine W.sq fun K hK=>?_|refine W.ds ?_ (fun β a w G hu=>W.fin ?_ hu) mixedOrders (by kernel_rfl)|refine W.sk ?_|refine W.cd (fun hc=>?_) (fun hc=>?_)|refine W.cb (fun hc=>?_) (fun hc=>?_)|refine W.bl ?_|refine W.ex ?_|refine W.rt ?_)|((with_reducible refine W.kn hK ?_);clear hK K)|(with_reducible first|refine W.bn ?_|refine W.xt ?_|refine W.xb ?_|refine W.xo ?_|refine W.tr ?_|refine W.br ?_)|refine W.rt1 rfl ?_|refine W.rt2 rfl ?_ ?_|refine W.rt3 rfl ?_ ?_ ?_)|refine W.co ?_ fun b c a w G hle=>?_|refine W.fz 1 ?_ fun G=>?_|refine W.fz 4 ?_ fun G=>?_|refine W.lp 21 (α:=Nat) (fun j=>max l.length k.length - j) (fun j=>j ≤ max l.length k.length) [6,20,21,22,23,24,25,26,27,28,29,30,31,32,33,34,35] (fun j=>[(20,NT j)]) (fun j=>[(0,ROWS (some 3) ((plP n m l k j).map QP))]) (0) ?_ ?_ ?_ fun j hj a w G=>?_|refine W.ag (x:=j) (j+1) ?_ ?_ ?_ ?_|clear hK K|clear hu|exact True.intro|exact Nat.le_trans (by clear hp;omega) hp|exact Nat.le_trans (by clear hp;omega) hp.1|exact Nat.le_trans (by clear hp;omega) hp.2|(clear hp;omega)|apply And.intro|refine GI.i fun _=>?_|with_reducible rfl|decide|(simp only [List.length_cons,List.length_nil];omega))
  all_goals (try simp only [wide_ln,plP_len] at *)
  all_goals first
    | omega
    | (simp only [LIM];omega)
    | exact plP_0
    | (rw [plP_g (by omega)];omega)
    | exact plP_s (by omega)
    | exact (plP_e (by omega)).1
    | exact (plP_e (by omega)).2
instance {n m : Nat} {l k : List Rat} {τ1 : MT} [j1 : NU τ1 (NM n l)] {τ2 : MT} [j2 : NU τ2 (NM m k)] : Con Tryz.prog 88 [τ1,τ2] (1 ≤ n ∧ 1 ≤ m ∧ n + m + 1 ≤ BIG ∧ l.length ≤ 64 ∧ k.length ≤ 64) (NM (n + m + 1) (plusF l k)):=.o2 fun hok h1 h2 hp=>w88.c2 hok (j1.h h1) (j2.h h2) hp
theorem w196 {n m q : Nat} {l k : List Rat} : Con Tryz.prog 196 [NM n l,NM m k,NT q] (1 ≤ n ∧ 1 ≤ m ∧ n ≤ BIG ∧ m ≤ BIG ∧ 1 ≤ q ∧ q ≤ 32) (NM (max n m) (joinF l k q)):=.o3 fun hok h1 h2 h3 hp=>by
  refine St.enter (N:=14) Tryz.func196 rfl rfl rfl hok (enter3 h1 h2 h3) fun a=>?_
  have own9 : OwnAt 9:=⟨⟩
  have own12 : OwnAt 12:=⟨⟩
  have own13 : OwnAt 13:=⟨⟩
  repeat' (first|((with_reducible refine gS_ ?_);first|((with_reducible refine gL_ ?_);first|refine W.run ?_ fun a w G=>?_|refine W.mv fun a w G=>?_|refine W.asg fun a w G=>?_|refine W.bx fun b a w G=>?_|(refine W.nn hK ?_;clear hK K)|refine W.nl ?_|refine W.al fun b a w G=>?_|refine W.st fun w=>?_|refine W.stp fun w=>?_|refine W.ste ?_ fun w=>?_)|((with_reducible refine gC_ ?_);first|refine W.reg fun K hK=>?_|refine W.reg1 ?_|refine W.sq fun K hK=>?_|refine W.ds ?_ (fun β a w G hu=>W.fin ?_ hu) mixedOrders (by kernel_rfl)|refine W.sk ?_|refine W.cd (fun hc=>?_) (fun hc=>?_)|refine W.cb (fun hc=>?_) (fun hc=>?_)|refine W.bl ?_|refine W.ex ?_|refine W.rt ?_)|((with_reducible refine W.kn hK ?_);clear hK K)|(with_reducible first|refine W.bn ?_|refine W.xt ?_|refine W.xb ?_|refine W.xo ?_|refine W.tr ?_|refine W.br ?_)|refine W.rt1 rfl ?_|refine W.rt2 rfl ?_ ?_|refine W.rt3 rfl ?_ ?_ ?_)|refine W.co ?_ fun b c a w G hle=>?_|refine W.fz 12 ?_ fun G=>?_|refine W.cast (t:=12) (τ:=NM m (wideF k q)) (τ':=NM (max n m) (wideF k q)) (fun h=>NM.up h (Nat.le_max_right _ _)) ?_|refine W.casth (τ':=ROWS (some 3) ((wideF l q).map (QC (max n m)))) (fun h=>ROWS.upq (k:=some 3) (l:=wideF l q) (n:=n) (m:=max n m) h (Nat.le_max_left _ _)) ?_|refine W.ap (mt:=FX 1 default) (T:=QC (max n m)) (xs:=wideF l q) (OWNS.ofb (by assumption)) ?_ fun V own a w G hO=>?_|refine W.fzo (T:=QC (max n m)) 6 hO ?_ fun G=>?_|clear hK K|clear hu|exact True.intro|exact Nat.le_trans (by clear hp;omega) hp|exact Nat.le_trans (by clear hp;omega) hp.1|exact Nat.le_trans (by clear hp;omega) hp.2|(clear hp;omega)|apply And.intro|refine GI.i fun _=>?_|with_reducible rfl|decide|(simp only [List.length_cons,List.length_nil];omega))
  all_goals (try simp only [wide_ln,List.length_append] at *)
  all_goals first
    | omega
    | (simp only [LIM];omega)
    | rfl
instance {n m q : Nat} {l k : List Rat} {τ1 : MT} [j1 : NU τ1 (NM n l)] {τ2 : MT} [j2 : NU τ2 (NM m k)] : Con Tryz.prog 196 [τ1,τ2,NT q] (1 ≤ n ∧ 1 ≤ m ∧ n ≤ BIG ∧ m ≤ BIG ∧ 1 ≤ q ∧ q ≤ 32) (NM (max n m) (joinF l k q)):=.o3 fun hok h1 h2 h3 hp=>w196.c3 hok (j1.h h1) (j2.h h2) h3 hp
theorem take_snoc {l : List Rat} {j : Nat} (h : j < l.length) : l.take (j + 1) = l.take j ++ [l.getD j default]:=by
  rw [List.take_add_one,List.getElem?_eq_getElem h,List.getD_eq_getElem?_getD,List.getElem?_eq_getElem h];rfl
theorem w132 {n : Nat} {l : List Rat} : Con Tryz.prog 132 [NM n l] (n ≤ BIG ∧ l.length ≤ 64) (NM n l):=.o1 fun hok h1 hp=>by
  refine St.enter (N:=28) Tryz.func132 rfl rfl rfl hok (enter1 h1) fun a=>?_
  have hlim:=LS.lenM h1
  simp only [LIM] at hlim
  have own25 : OwnAt 25:=⟨⟩
  repeat' (first|((with_reducible refine gS_ ?_);first|((with_reducible refine gL_ ?_);first|refine W.run ?_ fun a w G=>?_|refine W.mv fun a w G=>?_|refine W.asg fun a w G=>?_|refine W.bx fun b a w G=>?_|(refine W.nn hK ?_;clear hK K)|refine W.nl ?_|refine W.al fun b a w G=>?_|refine W.st fun w=>?_|refine W.stp fun w=>?_|refine W.ste ?_ fun w=>?_)|((with_reducible refine gC_ ?_);first|refine W.reg fun K hK=>?_|refine W.reg1 ?_|refine W.sq fun K hK=>?_|refine W.ds ?_ (fun β a w G hu=>W.fin ?_ hu) mixedOrders (by kernel_rfl)|refine W.sk ?_|refine W.cd (fun hc=>?_) (fun hc=>?_)|refine W.cb (fun hc=>?_) (fun hc=>?_)|refine W.bl ?_|refine W.ex ?_|refine W.rt ?_)|((with_reducible refine W.kn hK ?_);clear hK K)|(with_reducible first|refine W.bn ?_|refine W.xt ?_|refine W.xb ?_|refine W.xo ?_|refine W.tr ?_|refine W.br ?_)|refine W.rt1 rfl ?_|refine W.rt2 rfl ?_ ?_|refine W.rt3 rfl ?_ ?_ ?_)|refine W.lpo 9 (OWNS.nil (k:=some 3) (e:=24)) (T:=QC n) (xs0:=[]) (fun j=>l.length - j) (fun j=>j ≤ l.length) (fun j=>l.take j) [3,8,9] (fun j V=>[(8,NT j),(3,.ex V)]) (fun j=>[]) 0 ?_ ?_ ?_ ?_ fun j hj V own a w G hO=>?_|refine W.ds ?_ (fun β a w G hu=>W.fing ?_) mixedOrders (by kernel_rfl)|refine W.ap (mt:=FX 1 default) (T:=QC n) hO ?_ fun V own a w G hO=>?_|refine W.ago (K:=fun _ _=>True) (T:=QC n) hO (x:=j) (j+1) ?_ ?_ ?_ ?_ ?_|refine W.fzo (T:=QC n) 2 hO ?_ fun G=>?_|clear hK K|clear hu|exact True.intro|exact Nat.le_trans (by clear hp;omega) hp|exact Nat.le_trans (by clear hp;omega) hp.1|exact Nat.le_trans (by clear hp;omega) hp.2|(clear hp;omega)|apply And.intro|refine GI.i fun _=>?_|with_reducible rfl|decide|(simp only [List.length_cons,List.length_nil];omega))
  all_goals (try simp only [List.length_take,List.length_append,List.length_cons,List.length_nil,LIM] at *)
  all_goals first
    | rfl
    | omega
    | exact List.take_of_length_le (by omega)
    | exact (take_snoc (by omega)).symm
    | exact take_snoc (by omega)
instance {n : Nat} {l : List Rat} {τ1 : MT} [j1 : NU τ1 (NM n l)] : Con Tryz.prog 132 [τ1] (n ≤ BIG ∧ l.length ≤ 64) (NM n l):=.o1 fun hok h1 hp=>w132.c1 hok (j1.h h1) hp
theorem sho_g {l : List Rat} (hc : (decide (((l.length : Nat) : Int) > 0) && (decide (levI l.length < 0) || decide (levI l.length > 5))) = true) : l = shoF l:=by
  simp only [Bool.and_eq_true,Bool.or_eq_true,decide_eq_true_eq] at hc
  unfold shoF;rw [if_pos ⟨by omega,by omega⟩]
theorem sho_ng {l : List Rat} (hc : (decide (((l.length : Nat) : Int) > 0) && (decide (levI l.length < 0) || decide (levI l.length > 5))) = false) : ¬ (0 < l.length ∧ (levI l.length < 0 ∨ 5 < levI l.length)):=fun e=>by
  rw [decide_eq_true (show ((l.length : Nat) : Int) > 0 by omega),Bool.true_and,Bool.or_eq_false_iff,decide_eq_false_iff_not,decide_eq_false_iff_not] at hc
  omega
theorem sho_go {l : List Rat} {q : Nat} (hc : (decide (((q : Nat) : Int) > 1) && zeroF (List.drop (q / 2) (List.take q l))) = true) : q / 2 < q ∧ shL l q = shL l (q / 2):=by
  simp only [Bool.and_eq_true,decide_eq_true_eq] at hc
  exact ⟨by omega,shL_go (by omega) hc.2⟩
theorem sho_q {l : List Rat} {q : Nat} (hq : shL l q = shL l l.length) (hc : (decide (((q : Nat) : Int) > 1) && zeroF (List.drop (q / 2) (List.take q l))) = false) : shL l l.length = q:=by
  rw [← hq]
  refine shL_end fun e=>?_
  rw [decide_eq_true (show ((q : Nat) : Int) > 1 by omega),Bool.true_and,e.2] at hc
  cases hc
theorem sho_n {l : List Rat} {q : Nat} (h0 : (decide (((l.length : Nat) : Int) > 0) && (decide (levI l.length < 0) || decide (levI l.length > 5))) = false) (hq : shL l q = shL l l.length) (hc : (decide (((q : Nat) : Int) > 1) && zeroF (List.drop (q / 2) (List.take q l))) = false)
    (h1 : (decide (((q : Nat) : Int) = 1) && zeroF (List.take 1 l)) = true) : shoF l = []:=by
  simp only [Bool.and_eq_true,decide_eq_true_eq] at h1
  unfold shoF;rw [if_neg (sho_ng h0),sho_q hq hc,if_pos ⟨by omega,h1.2⟩]
theorem sho_t {l : List Rat} {q : Nat} (h0 : (decide (((l.length : Nat) : Int) > 0) && (decide (levI l.length < 0) || decide (levI l.length > 5))) = false) (hq : shL l q = shL l l.length) (hc : (decide (((q : Nat) : Int) > 1) && zeroF (List.drop (q / 2) (List.take q l))) = false)
    (h1 : (decide (((q : Nat) : Int) = 1) && zeroF (List.take 1 l)) = false) : List.take q l = shoF l:=by
  unfold shoF;rw [if_neg (sho_ng h0),sho_q hq hc,if_neg fun e=>by rw [decide_eq_true (show ((q : Nat) : Int) = 1 by omega),Bool.true_and,e.2] at h1;cases h1]
theorem w85 {n : Nat} {l : List Rat} : Con Tryz.prog 85 [NM n l] (n ≤ BIG ∧ l.length ≤ 64) (NM n (shoF l)):=.o1 fun hok h1 hp=>by
  refine St.enter (N:=45) Tryz.func85 rfl rfl rfl hok (enter1 h1) fun a=>?_
  have hlim:=LS.lenM h1
  simp only [LIM] at hlim
  repeat' (first|((with_reducible refine gS_ ?_);first|((with_reducible refine gL_ ?_);first|refine W.run ?_ fun a w G=>?_|refine W.mv fun a w G=>?_|refine W.asg fun a w G=>?_|refine W.bx fun b a w G=>?_|(refine W.nn hK ?_;clear hK K)|refine W.nl ?_|refine W.al fun b a w G=>?_|refine W.st fun w=>?_|refine W.stp fun w=>?_|refine W.ste ?_ fun w=>?_)|((with_reducible refine gC_ ?_);first|refine W.reg fun K hK=>?_|refine W.reg1 ?_|refine W.sq fun K hK=>?_|refine W.ds ?_ (fun β a w G hu=>W.fin ?_ hu) mixedOrders (by kernel_rfl)|refine W.sk ?_|refine W.cd (fun hc=>?_) (fun hc=>?_)|refine W.cb (fun hc=>?_) (fun hc=>?_)|refine W.bl ?_|refine W.ex ?_|refine W.rt ?_)|((with_reducible refine W.kn hK ?_);clear hK K)|(with_reducible first|refine W.bn ?_|refine W.xt ?_|refine W.xb ?_|refine W.xo ?_|refine W.tr ?_|refine W.br ?_)|refine W.rt1 rfl ?_|refine W.rt2 rfl ?_ ?_|refine W.rt3 rfl ?_ ?_ ?_)|refine W.lp 22 (α:=Nat) (fun q=>q) (fun q=>q ≤ l.length ∧ shL l q = shL l l.length) [4,22,23,24,25,26,27,28,29,30,31,32,33] (fun q=>[(4,NT q)]) (fun q=>[]) (l.length) ?_ ?_ ?_ fun q hq a w G=>?_|refine W.ag (x:=q) (q / 2) ?_ ?_ ?_ ?_|clear hK K|clear hu|exact True.intro|exact Nat.le_trans (by clear hp;omega) hp|exact Nat.le_trans (by clear hp;omega) hp.1|exact Nat.le_trans (by clear hp;omega) hp.2|(clear hp;omega)|apply And.intro|refine GI.i fun _=>?_|with_reducible rfl|decide|(simp only [List.length_cons,List.length_nil];omega))
  all_goals first
    | omega
    | exact sho_g (by assumption)
    | exact (sho_go (by assumption)).1
    | (rw [← (sho_go (by assumption)).2];exact hq.2)
    | exact sho_n (by assumption) hq.2 (by assumption) (by assumption)
    | exact sho_t (by assumption) hq.2 (by assumption) (by assumption)
    | (rw [List.length_take];omega)
    | (have h1 : decide (((q : Nat) : Int) = 1) = true := by assumption
       simp only [decide_eq_true_eq] at h1;omega)
instance {n : Nat} {l : List Rat} {τ1 : MT} [j1 : NU τ1 (NM n l)] : Con Tryz.prog 85 [τ1] (n ≤ BIG ∧ l.length ≤ 64) (NM n (shoF l)):=.o1 fun hok h1 hp=>w85.c1 hok (j1.h h1) hp
end Go.Proofs.YtnjbcjmkkejfpaaGreatDoor
