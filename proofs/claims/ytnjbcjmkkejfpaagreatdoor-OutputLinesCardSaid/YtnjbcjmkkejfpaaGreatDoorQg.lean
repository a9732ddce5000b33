import Derived.MapKept
import Derived.Laws.IdiomRangeMap
import Derived.Shelf.Strconv.Itoa3
import Derived.Test.YtnjbcjmkkejfpaaGreatDoorProg
import Derived.Test.YtnjbcjmkkejfpaaGreatDoorQf
set_option linter.unusedVariables false
set_option linter.unusedSimpArgs false
namespace Go.Proofs.YtnjbcjmkkejfpaaGreatDoor
abbrev cf (l : List Rat) (i : Nat) : Rat:=l.getD i 0
namespace El
def toF : (k : Nat) → (Nat → Rat) → El k
  | 0,f=>f 0
  | k + 1,f=>(toF k f,toF k fun i=>f (2 ^ k + i))
abbrev toE (k : Nat) (l : List Rat) : El k:=toF k (cf l)
theorem toF_ext : ∀ {k : Nat} {f g : Nat → Rat},(∀ i,i < 2 ^ k → f i = g i) → toF k f = toF k g
  | 0,f,g,h=>h 0 (by decide)
  | k + 1,f,g,h=>by
    have e : 2 ^ (k + 1) = 2 ^ k + 2 ^ k:=by rw [Nat.pow_succ];omega
    exact Prod.ext (toF_ext fun i hi=>h i (by omega)) (toF_ext fun i hi=>h (2 ^ k + i) (by omega))
theorem toF_zero : ∀ {k : Nat},toF k (fun _=>0) = zero k
  | 0=>rfl
  | k + 1=>Prod.ext toF_zero toF_zero
theorem toF_add : ∀ {k : Nat} (f g : Nat → Rat),toF k (fun i=>f i + g i) = add (toF k f) (toF k g)
  | 0,f,g=>rfl
  | k + 1,f,g=>Prod.ext (toF_add f g) (toF_add (fun i=>f (2 ^ k + i)) (fun i=>g (2 ^ k + i)))
end El
def zeroF (a : List Rat) : Bool:=a.all fun x=>decide (x.num.sign = 0)
def wideF (a : List Rat) (n : Nat) : List Rat:=a.take n ++ (List.replicate n 0).drop a.length
def plusF (a b : List Rat) : List Rat:=(List.range (max a.length b.length)).map fun i=>cf a i + cf b i
def minusF (a : List Rat) : List Rat:=a.map fun x=>-x
def joinF (a b : List Rat) (n : Nat) : List Rat:=wideF a n ++ wideF b n
def lev : Nat → Nat
  | n=>Nat.log2 n
def stepF (rs : List (List Rat)) (r : List Rat → List Rat → List Rat) (a b : List Rat) : List Rat :=
  if zeroF a || zeroF b then [] else if a.length = 1 then [cf a 0 * cf b 0] else
  if b.length ≤ a.length / 2 then joinF (r (a.take (a.length / 2)) b) (r (a.drop (a.length / 2)) b) (a.length / 2)
  else joinF (plusF (r (a.take (a.length / 2)) (b.take (a.length / 2))) (r (r (a.drop (a.length / 2)) (b.drop (a.length / 2))) (rs.getD (lev a.length - 1) [])))
    (plusF (r (a.take (a.length / 2)) (b.drop (a.length / 2))) (r (a.drop (a.length / 2)) (b.take (a.length / 2)))) (a.length / 2)
def timesF (rs : List (List Rat)) : Nat → List Rat → List Rat → List Rat
  | 0,_,_=>[]
  | n + 1,a,b=>if a.length < b.length then stepF rs (timesF rs n) b a else stepF rs (timesF rs n) a b
theorem cf_wide {a : List Rat} {n i : Nat} (hi : i < n) (ha : a.length ≤ n) : cf (wideF a n) i = cf a i:=by
  unfold wideF cf
  rw [List.take_of_length_le ha,List.getD_eq_getElem?_getD,List.getD_eq_getElem?_getD]
  rcases Nat.lt_or_ge i a.length with h | h
  · rw [List.getElem?_append_left h]
  · rw [List.getElem?_append_right h,List.getElem?_eq_none h,List.getElem?_drop,List.getElem?_replicate]
    split <;> rfl
theorem wide_len {a : List Rat} {n : Nat} (ha : a.length ≤ n) : (wideF a n).length = n:=by unfold wideF;simp;omega
theorem cf_plus {a b : List Rat} {i : Nat} : cf (plusF a b) i = cf a i + cf b i:=by
  unfold plusF cf
  rw [List.getD_eq_getElem?_getD,List.getElem?_map]
  rcases Nat.lt_or_ge i (max a.length b.length) with h | h
  · rw [List.getElem?_range h];rfl
  · rw [List.getElem?_eq_none (by simpa using h),List.getD_eq_getElem?_getD,List.getD_eq_getElem?_getD,List.getElem?_eq_none (by omega),List.getElem?_eq_none (by omega)]
    exact (Rat.add_zero 0).symm
theorem cf_take {a : List Rat} {n i : Nat} (hi : i < n) : cf (a.take n) i = cf a i:=by
  unfold cf;rw [List.getD_eq_getElem?_getD,List.getD_eq_getElem?_getD,List.getElem?_take_of_lt hi]
theorem cf_drop {a : List Rat} {n i : Nat} : cf (a.drop n) i = cf a (n + i):=by
  unfold cf;rw [List.getD_eq_getElem?_getD,List.getD_eq_getElem?_getD,List.getElem?_drop]
theorem cf_join {a b : List Rat} {n i : Nat} (ha : a.length ≤ n) (hb : b.length ≤ n) (hi : i < n) : cf (joinF a b n) i = cf a i ∧ cf (joinF a b n) (n + i) = cf b i:=by
  have h1:=wide_len ha
  constructor
  · rw [← cf_wide hi ha]
    unfold joinF cf
    rw [List.getD_eq_getElem?_getD,List.getD_eq_getElem?_getD,List.getElem?_append_left (by omega)]
  · rw [← cf_wide hi hb]
    unfold joinF cf
    rw [List.getD_eq_getElem?_getD,List.getD_eq_getElem?_getD,List.getElem?_append_right (by omega),h1,Nat.add_sub_cancel_left]
theorem zero_iff {a : List Rat} : zeroF a = true ↔ ∀ i,cf a i = 0:=by
  unfold zeroF
  rw [List.all_eq_true]
  constructor
  · intro h i
    unfold cf
    rw [List.getD_eq_getElem?_getD]
    cases hx : a[i]? with
    | none=>rfl
    | some x =>
      have:=h x (List.mem_of_getElem? hx)
      rw [decide_eq_true_eq,Int.sign_eq_zero_iff_zero,Rat.num_eq_zero] at this
      exact this
  · intro h x hx
    obtain ⟨i,hi⟩:=List.mem_iff_getElem?.1 hx
    have:=h i
    unfold cf at this
    rw [List.getD_eq_getElem?_getD,hi] at this
    rw [decide_eq_true_eq,Int.sign_eq_zero_iff_zero,Rat.num_eq_zero]
    exact this
namespace El
theorem toE_low {k : Nat} {l : List Rat} (h : l.length ≤ 2 ^ k) : toE (k + 1) l = (toE k l,zero k):=by
  refine Prod.ext rfl ?_
  show toF k (fun i=>cf l (2 ^ k + i)) = zero k
  rw [← toF_zero]
  exact toF_ext fun i _=>by unfold cf;rw [List.getD_eq_getElem?_getD,List.getElem?_eq_none (by omega)];rfl
theorem toE_take (k : Nat) (l : List Rat) : toE k (l.take (2 ^ k)) = toE k l:=toF_ext fun i hi=>cf_take hi
theorem toE_halves (k : Nat) (l : List Rat) : toE (k + 1) l = (toE k (l.take (2 ^ k)),toE k (l.drop (2 ^ k))) :=
  Prod.ext (toE_take k l).symm (toF_ext fun i _=>cf_drop.symm)
theorem toE_plus (k : Nat) (a b : List Rat) : toE k (plusF a b) = add (toE k a) (toE k b):=by rw [← toF_add];exact toF_ext fun i _=>cf_plus
theorem toE_join {k : Nat} {a b : List Rat} (ha : a.length ≤ 2 ^ k) (hb : b.length ≤ 2 ^ k) : toE (k + 1) (joinF a b (2 ^ k)) = (toE k a,toE k b) :=
  Prod.ext (toF_ext fun i hi=>(cf_join ha hb hi).1) (toF_ext fun i hi=>(cf_join ha hb hi).2)
theorem toE_zero {k : Nat} {a : List Rat} (h : zeroF a = true) : toE k a = zero k:=by rw [← toF_zero];exact toF_ext fun i _=>zero_iff.1 h i
theorem toE_nil {k : Nat} : toE k [] = zero k:=toE_zero rfl
end El
def PW (k : Nat) (a : List Rat) : Prop:=a.length = 0 ∨ ∃ j,j ≤ k ∧ a.length = 2 ^ j
theorem PW.le {k : Nat} {a : List Rat} (h : PW k a) : a.length ≤ 2 ^ k:=by
  rcases h with h | ⟨j,hj,h⟩
  · rw [h];exact Nat.zero_le _
  · rw [h];exact Nat.pow_le_pow_right (by decide) hj
theorem PW.low {k : Nat} {a : List Rat} (h : PW (k + 1) a) (h2 : a.length ≤ 2 ^ k) : PW k a:=by
  rcases h with h | ⟨j,hj,h⟩
  · exact .inl h
  · refine .inr ⟨j,?_,h⟩
    rcases Nat.lt_or_ge k j with h3 | h3
    · have : 2 ^ k < 2 ^ j:=Nat.pow_lt_pow_right (by decide) h3
      omega
    · exact h3
theorem PW.top {k : Nat} {a : List Rat} (h : PW (k + 1) a) (h2 : ¬ a.length ≤ 2 ^ k) : a.length = 2 ^ (k + 1):=by
  rcases h with h | ⟨j,hj,h⟩
  · exact absurd (h ▸ Nat.zero_le _) h2
  · rcases Nat.lt_or_ge k j with h3 | h3
    · rw [h,show j = k + 1 by omega]
    · have : 2 ^ j ≤ 2 ^ k:=Nat.pow_le_pow_right (by decide) h3
      omega
theorem PW.pow {k : Nat} {a : List Rat} (h : a.length = 2 ^ k) : PW k a:=.inr ⟨k,Nat.le_refl _,h⟩
theorem PW.of {k : Nat} {a : List Rat} (h : a.length = 0 ∨ a.length = 2 ^ k) : PW k a:=h.imp id fun h=>⟨k,Nat.le_refl _,h⟩
theorem lev_pow (k : Nat) : lev (2 ^ k) = k:=Nat.log2_two_pow
theorem plus_len {a b : List Rat} : (plusF a b).length = max a.length b.length:=by simp [plusF]
theorem join_len {a b : List Rat} {n : Nat} (ha : a.length ≤ n) (hb : b.length ≤ n) : (joinF a b n).length = n + n:=by unfold joinF;rw [List.length_append,wide_len ha,wide_len hb]
open El in
theorem times_E {rs : List (List Rat)} {d : Rts} {K : Nat} (hd : ∀ j, j < K → (rs.getD j []).length = 2 ^ j ∧ toE j (rs.getD j []) = d j) :
    ∀ (k n : Nat),k ≤ K → k < n → ∀ a b : List Rat,PW k a → PW k b → toE k (timesF rs n a b) = mul d (toE k a) (toE k b) ∧ ((timesF rs n a b).length = 0 ∨ (timesF rs n a b).length = max a.length b.length):=by
  intro k
  induction k with
  | zero =>
    intro n _ hn a b ha hb
    obtain ⟨n,rfl⟩ : ∃ m,n = m + 1:=⟨n - 1,by omega⟩
    have key : ∀ a b : List Rat,a.length ≤ 1 → b.length ≤ a.length → toE 0 (stepF rs (timesF rs n) a b) = mul d (toE 0 a) (toE 0 b) ∧ ((stepF rs (timesF rs n) a b).length = 0 ∨ (stepF rs (timesF rs n) a b).length = a.length):=by
      intro a b ha hb
      unfold stepF
      split
      · rename_i h
        refine ⟨?_,.inl rfl⟩
        rw [toE_nil]
        rcases Bool.or_eq_true_iff.1 h with h | h
        · rw [toE_zero h,zero_mul]
        · rw [toE_zero h,mul_zero]
      · rename_i h
        have h1 : a.length = 1:=by
          rcases Nat.lt_or_ge a.length 1 with h2 | h2
          · exfalso;apply h;rw [List.length_eq_zero_iff.1 (show a.length = 0 by omega)];rfl
          · omega
        rw [if_pos h1]
        exact ⟨rfl,.inr h1.symm⟩
    have h1:=ha.le;have h2:=hb.le
    simp only [Nat.pow_zero] at h1 h2
    unfold timesF
    split
    · rw [mul_comm,Nat.max_eq_right (by omega)];exact key b a h2 (by omega)
    · rw [Nat.max_eq_left (by omega)];exact key a b h1 (by omega)
  | succ k ih =>
    intro n hK hn a b ha hb
    by_cases hlow : a.length ≤ 2 ^ k ∧ b.length ≤ 2 ^ k
    · obtain ⟨h1,h2⟩:=ih n (by omega) (by omega) a b (ha.low hlow.1) (hb.low hlow.2)
      refine ⟨?_,h2⟩
      rw [toE_low (by omega),toE_low hlow.1,toE_low hlow.2,h1]
      refine Prod.ext ?_ ?_
      · show _ = add (mul d _ _) (mul d (mul d (zero k) (zero k)) (d k))
        rw [zero_mul,zero_mul,add_zero]
      · show _ = add (mul d _ (zero k)) (mul d (zero k) _)
        rw [mul_zero,zero_mul,add_zero]
    · obtain ⟨n,rfl⟩ : ∃ m,n = m + 1:=⟨n - 1,by omega⟩
      have e2 : 2 ^ (k + 1) = 2 ^ k + 2 ^ k:=by rw [Nat.pow_succ];omega
      have ep:=Nat.two_pow_pos k
      have key : ∀ a b : List Rat,a.length = 2 ^ (k + 1) → PW (k + 1) b → toE (k + 1) (stepF rs (timesF rs n) a b) = mul d (toE (k + 1) a) (toE (k + 1) b) ∧ ((stepF rs (timesF rs n) a b).length = 0 ∨ (stepF rs (timesF rs n) a b).length = a.length):=by
        intro a b ha hb
        have hh : a.length / 2 = 2 ^ k:=by omega
        unfold stepF
        split
        · rename_i h
          refine ⟨?_,.inl rfl⟩
          rw [toE_nil]
          rcases Bool.or_eq_true_iff.1 h with h | h
          · rw [toE_zero h,zero_mul]
          · rw [toE_zero h,mul_zero]
        · rw [if_neg (by omega),hh]
          have hx : PW k (a.take (2 ^ k)):=.pow (by rw [List.length_take];omega)
          have hy : PW k (a.drop (2 ^ k)):=.pow (by rw [List.length_drop];omega)
          have ihk:=ih n (by omega) (by omega)
          split
          · rename_i hbl
            have hb':=hb.low hbl
            obtain ⟨h1,h2⟩:=ihk _ b hx hb'
            obtain ⟨h3,h4⟩:=ihk _ b hy hb'
            have l1:=hx.le;have l2:=hy.le
            refine ⟨?_,.inr (by rw [join_len (by omega) (by omega),ha,e2])⟩
            rw [toE_join (by omega) (by omega),h1,h3,toE_halves k a,toE_low hbl]
            refine Prod.ext ?_ ?_
            · show _ = add (mul d _ _) (mul d (mul d _ (zero k)) (d k))
              rw [mul_zero,zero_mul,add_zero]
            · show _ = add (mul d _ (zero k)) (mul d _ _)
              rw [mul_zero,zero_add]
          · rename_i hbl
            have hbt:=hb.top hbl
            have hu : PW k (b.take (2 ^ k)):=.pow (by rw [List.length_take];omega)
            have hv : PW k (b.drop (2 ^ k)):=.pow (by rw [List.length_drop];omega)
            have hdk:=hd k (by omega)
            rw [ha,lev_pow,Nat.add_sub_cancel]
            obtain ⟨p1,q1⟩:=ihk _ _ hx hu
            obtain ⟨p2,q2⟩:=ihk _ _ hy hv
            obtain ⟨p3,q3⟩:=ihk _ _ hx hv
            obtain ⟨p4,q4⟩:=ihk _ _ hy hu
            have m1 : (a.take (2 ^ k)).length = 2 ^ k:=by rw [List.length_take];omega
            have m2 : (a.drop (2 ^ k)).length = 2 ^ k:=by rw [List.length_drop];omega
            have m3 : (b.take (2 ^ k)).length = 2 ^ k:=by rw [List.length_take];omega
            have m4 : (b.drop (2 ^ k)).length = 2 ^ k:=by rw [List.length_drop];omega
            rw [m1,m3,Nat.max_self] at q1;rw [m2,m4,Nat.max_self] at q2;rw [m1,m4,Nat.max_self] at q3;rw [m2,m3,Nat.max_self] at q4
            obtain ⟨p5,q5⟩:=ihk _ _ (PW.of q2) (PW.pow hdk.1)
            rw [hdk.1] at q5
            rw [p2,hdk.2] at p5
            have g1:=plus_len (a:=timesF rs n (a.take (2 ^ k)) (b.take (2 ^ k))) (b:=timesF rs n (timesF rs n (a.drop (2 ^ k)) (b.drop (2 ^ k))) (rs.getD k []))
            have g2:=plus_len (a:=timesF rs n (a.take (2 ^ k)) (b.drop (2 ^ k))) (b:=timesF rs n (a.drop (2 ^ k)) (b.take (2 ^ k)))
            refine ⟨?_,.inr (by rw [join_len (by omega) (by omega),e2])⟩
            rw [toE_join (by omega) (by omega),toE_plus,toE_plus,p1,p5,p3,p4,toE_halves k a,toE_halves k b]
            rfl
      have h1:=ha.le;have h2:=hb.le
      unfold timesF
      split
      · have hbt : b.length = 2 ^ (k + 1):=hb.top (by omega)
        rw [mul_comm,Nat.max_eq_right (by omega)];exact key b a hbt ha
      · have hat : a.length = 2 ^ (k + 1):=ha.top (by omega)
        rw [Nat.max_eq_left (by omega)];exact key a b hat hb
end Go.Proofs.YtnjbcjmkkejfpaaGreatDoor
namespace Go.Proofs.YtnjbcjmkkejfpaaGreatDoor
def clg (n : Nat) : Nat:=if n ≤ 1 then 0 else Nat.log2 (n - 1) + 1
def levI (n : Nat) : Int:=if 2 ^ clg n = n then (clg n : Int) else -1
def shN (a : List Rat) : Nat → Nat → Nat
  | 0,n=>n
  | f + 1,n=>if 1 < n ∧ zeroF ((a.take n).drop (n / 2)) = true then shN a f (n / 2) else n
def shL (a : List Rat) (n : Nat) : Nat:=shN a n n
def shoF (a : List Rat) : List Rat :=
  if 0 < a.length ∧ (levI a.length < 0 ∨ 5 < levI a.length) then a else if shL a a.length = 1 ∧ zeroF (a.take 1) = true then [] else a.take (shL a a.length)
theorem cf_out {a : List Rat} {i : Nat} (h : a.length ≤ i) : cf a i = 0:=by
  unfold cf;rw [List.getD_eq_getElem?_getD,List.getElem?_eq_none h];rfl
def SHP (s : List Rat) : Prop:=s = [] ∨ (s.length = 1 ∧ cf s 0 ≠ 0) ∨ ∃ i,s.length = 2 ^ (i + 1) ∧ ∃ x,2 ^ i ≤ x ∧ x < 2 ^ (i + 1) ∧ cf s x ≠ 0
theorem SHP.le {s s' : List Rat} (h : SHP s) (h' : SHP s') (e : ∀ x,cf s x = cf s' x) : s.length ≤ s'.length:=by
  rcases Nat.lt_or_ge s'.length s.length with hl | hl
  · exfalso
    rcases h with rfl | ⟨h1,h2⟩ | ⟨i,h1,x,h2,h3,h4⟩
    · simp at hl
    · exact h2 ((e 0).trans (cf_out (by omega)))
    · have hp:=Nat.two_pow_pos i
      have e2 : 2 ^ (i + 1) = 2 ^ i + 2 ^ i:=by rw [Nat.pow_succ];omega
      refine h4 ((e x).trans (cf_out ?_))
      rcases h' with rfl | ⟨h5,_⟩ | ⟨m,h5,_⟩
      · exact Nat.zero_le _
      · omega
      · rw [h5,h1] at hl
        have h6 : m + 1 < i + 1:=(Nat.pow_lt_pow_iff_right (by decide)).1 hl
        have : 2 ^ (m + 1) ≤ 2 ^ i:=Nat.pow_le_pow_right (by decide) (by omega)
        omega
  · exact hl
def tmF (rs : List (List Rat)) (a b : List Rat) : List Rat:=timesF rs (rs.length + 1) a b
def normF (rs : List (List Rat)) (a : List Rat) : List Rat :=
  plusF (tmF rs (a.take (a.length / 2)) (a.take (a.length / 2))) (minusF (tmF rs (tmF rs (a.drop (a.length / 2)) (a.drop (a.length / 2))) (rs.getD (lev a.length - 1) [])))
def dR (rs : List (List Rat)) : El.Rts:=fun k=>El.toE k (rs.getD k [])
def RLN (rs : List (List Rat)) : Prop:=∀ j,j < rs.length → (rs.getD j []).length = 2 ^ j
noncomputable def vlL (rs : List (List Rat)) (a : List Rat) : RR:=El.vl (dR rs) (El.toE 5 a)
noncomputable def sgL (rs : List (List Rat)) (a : List Rat) : Int:=sgR (vlL rs a)
def TOK (rs : List (List Rat)) : Prop:=rs.length ≤ 5 ∧ RLN rs ∧ ∀ j,j < rs.length → 0 ≤ vlL rs (rs.getD j [])
namespace El
theorem vl_low {d : Rts} {k : Nat} {l : List Rat} (h : l.length ≤ 2 ^ k) : vl d (toE (k + 1) l) = vl d (toE k l):=by
  rw [toE_low h]
  show vl d (toE k l) + vl d (zero k) * _ = _
  rw [vl_zero,RR.zero_mul,RR.add_zero]
theorem vl_ups {d : Rts} {l : List Rat} {k : Nat} (h : l.length ≤ 2 ^ k) : ∀ j,vl d (toE (k + j) l) = vl d (toE k l)
  | 0=>rfl
  | j + 1=>(vl_low (Nat.le_trans h (Nat.pow_le_pow_right (by decide) (Nat.le_add_right k j)))).trans (vl_ups h j)
theorem vl_at {rs : List (List Rat)} {l : List Rat} {k : Nat} (hk : k ≤ 5) (h : l.length ≤ 2 ^ k) : vlL rs l = vl (dR rs) (toE k l):=by
  have:=vl_ups (d:=dR rs) h (5 - k)
  rwa [show k + (5 - k) = 5 by omega] at this
theorem vl_congr {d d' : Rts} : ∀ {k : Nat} (x : El k),(∀ j,j < k → d j = d' j) → vl d x = vl d' x
  | 0,_,_=>rfl
  | k + 1,x,h=>by
    show vl d x.1 + vl d x.2 * (vl d (d k)).sq = vl d' x.1 + vl d' x.2 * (vl d' (d' k)).sq
    rw [vl_congr x.1 fun j hj=>h j (by omega),vl_congr x.2 fun j hj=>h j (by omega),vl_congr (d k) fun j hj=>h j (by omega),h k (Nat.lt_succ_self k)]
end El
theorem TOK.ok {rs : List (List Rat)} (h : TOK rs) : El.ok (dR rs) rs.length:=fun j hj=>by
  have:=h.2.2 j hj
  have hl:=h.2.1 j hj
  rwa [El.vl_at (k:=j) (by have:=h.1;omega) (by rw [hl];exact Nat.le_refl _)] at this
theorem RLN.at {rs : List (List Rat)} (h : RLN rs) {j : Nat} (hj : j < rs.length) : (rs.getD j []).length = 2 ^ j:=h j hj
theorem RLN.hd {rs : List (List Rat)} (h : RLN rs) : ∀ j,j < rs.length → (rs.getD j []).length = 2 ^ j ∧ El.toE j (rs.getD j []) = dR rs j:=fun j hj=>⟨h j hj,rfl⟩
theorem PW.mono {k m : Nat} {a : List Rat} (h : PW k a) (hk : k ≤ m) : PW m a:=by
  rcases h with h | ⟨j,hj,h⟩
  · exact .inl h
  · exact .inr ⟨j,by omega,h⟩
theorem PW.tmn {rs : List (List Rat)} {k m : Nat} {a b : List Rat} (hr : RLN rs) (hk : k ≤ rs.length) (hm : k < m) (ha : PW k a) (hb : PW k b) : PW k (timesF rs m a b):=by
  rcases (times_E hr.hd k m hk hm a b ha hb).2 with h | h
  · exact .inl h
  · rcases Nat.le_total a.length b.length with hl | hl
    · rw [Nat.max_eq_right hl] at h
      exact hb.imp (fun hb=>h.trans hb) fun ⟨j,hj,hb⟩=>⟨j,hj,h.trans hb⟩
    · rw [Nat.max_eq_left hl] at h
      exact ha.imp (fun ha=>h.trans ha) fun ⟨j,hj,ha⟩=>⟨j,hj,h.trans ha⟩
theorem PW.tm {rs : List (List Rat)} {k : Nat} {a b : List Rat} (hr : RLN rs) (hk : k ≤ rs.length) (ha : PW k a) (hb : PW k b) : PW k (tmF rs a b):=PW.tmn hr hk (by omega) ha hb
theorem PW.half {k : Nat} {a : List Rat} (ha : PW k a) (hz : ¬ zeroF a = true) (h1 : ¬ a.length = 1) : ∃ j,j < k ∧ a.length = 2 ^ (j + 1) ∧ a.length / 2 = 2 ^ j ∧ (a.take (2 ^ j)).length = 2 ^ j ∧ (a.drop (2 ^ j)).length = 2 ^ j:=by
  rcases ha with ha | ⟨i,hi,ha⟩
  · exfalso;apply hz;rw [List.length_eq_zero_iff.1 ha];rfl
  · cases i with
    | zero=>exact absurd ha h1
    | succ j =>
      have e2 : 2 ^ (j + 1) = 2 ^ j + 2 ^ j:=by rw [Nat.pow_succ];omega
      exact ⟨j,by omega,ha,by omega,by rw [List.length_take];omega,by rw [List.length_drop];omega⟩
theorem PW.pos {k : Nat} {b : List Rat} {j : Nat} (hb : PW k b) (hz : ¬ b.length ≤ 2 ^ j) (hl : b.length ≤ 2 ^ (j + 1)) : b.length = 2 ^ (j + 1):=by
  rcases hb with hb | ⟨i,hi,hb⟩
  · exact absurd (Nat.zero_le _) (by rw [← hb];exact hz)
  · have h1 : j < i := by
      rcases Nat.lt_or_ge j i with h | h
      · exact h
      · exact absurd (by rw [hb];exact Nat.pow_le_pow_right (by decide) h) hz
    have h2 : i ≤ j + 1:=by
      rcases Nat.lt_or_ge (j + 1) i with h | h
      · have:=Nat.pow_lt_pow_right (a:=2) (by decide) h;omega
      · exact h
    rw [hb,show i = j + 1 by omega]
theorem TOK.take {rs : List (List Rat)} (h : TOK rs) (j : Nat) : TOK (rs.take j) ∧ ∀ l : List Rat,PW (rs.take j).length l → sgL (rs.take j) l = sgL rs l:=by
  have hlen : (rs.take j).length ≤ rs.length:=by rw [List.length_take];omega
  have hget : ∀ i,i < (rs.take j).length → (rs.take j).getD i [] = rs.getD i []:=fun i hi=>by
    rw [List.length_take] at hi
    rw [List.getD_eq_getElem?_getD,List.getD_eq_getElem?_getD,List.getElem?_take_of_lt (by omega)]
  have h5:=h.1
  have hv : ∀ (k : Nat) (l : List Rat),k ≤ (rs.take j).length → l.length ≤ 2 ^ k → vlL (rs.take j) l = vlL rs l:=fun k l hk hl=>by
    rw [El.vl_at (k:=k) (by omega) hl,El.vl_at (k:=k) (by omega) hl]
    exact El.vl_congr _ fun i hi=>by unfold dR;rw [hget i (by omega)]
  refine ⟨⟨by omega,fun i hi=>by rw [hget i hi];exact h.2.1 i (by omega),fun i hi=>?_⟩,fun l hl=>by unfold sgL;rw [hv _ l (Nat.le_refl _) hl.le]⟩
  rw [hget i hi,hv i _ (by omega) (by rw [h.2.1 i (by omega)];exact Nat.le_refl _)]
  exact h.2.2 i (by omega)
theorem TOK.nn {rs : List (List Rat)} (h : TOK rs) {j : Nat} (hj : j < rs.length) : 0 ≤ sgL rs (rs.getD j []):=by
  have:=h.2.2 j hj
  unfold sgL
  rcases sgR_cases (vlL rs (rs.getD j [])) with ⟨h3,h4⟩ | ⟨h3,h4⟩ | ⟨h3,h4⟩
  · exact absurd h3 (RR.not_lt.2 this)
  · omega
  · omega
def tB : Nat → Nat → Nat → Nat
  | 0,n,_=>n
  | k + 1,n,r=>tB k n r + tB k (tB k n r + r) r + 1
def sB : Nat → Nat → Nat → Nat
  | 0,n,_=>n
  | k + 1,n,r=>sB k (tB (k + 1) (n + n) r) r
end Go.Proofs.YtnjbcjmkkejfpaaGreatDoor
set_option linter.unusedVariables false
set_option linter.unusedSimpArgs false
set_option maxHeartbeats 4000000
set_option maxRecDepth 100000
set_option synthInstance.maxSize 100000
set_option synthInstance.maxHeartbeats 400000
namespace Go.Proofs.YtnjbcjmkkejfpaaGreatDoor
open Go.RowKit (Below)
attribute [local irreducible] Go.Code.wp Go.wpList Go.bodyPost
private theorem gS_ {W0 : World} {G0 : Gh} {N : Nat} {L : List (Nat × MT)} {B : List BX} {a : Act} {w : World} {G : Gh} {q : Prop} (h : St W0 G0 N L B a w G → q) : St W0 G0 N L B a w G → q:=h
private theorem gL_ {p : Prop} {P : Program} {arr : Array Oper} {Q : Exit → Act → World → Prop} {l : List Oper} {a : Act} {w : World} (h : p → wpList P arr Q l a w) : p → wpList P arr Q l a w:=h
private theorem gC_ {p : Prop} {P : Program} {c : Code} {Q : Exit → Act → World → Prop} {a : Act} {w : World} (h : p → c.wp P Q a w) : p → c.wp P Q a w:=h
private theorem mixedOrders : Tryz.prog.follows .mixedOrders = true:=by kernel_rfl
end Go.Proofs.YtnjbcjmkkejfpaaGreatDoor
set_option linter.unusedVariables false
set_option linter.unusedSimpArgs false
set_option maxHeartbeats 4000000
set_option maxRecDepth 100000
set_option synthInstance.maxSize 100000
set_option synthInstance.maxHeartbeats 400000
namespace Go.Proofs.YtnjbcjmkkejfpaaGreatDoor
open Go.RowKit (Below)
attribute [local irreducible] Go.Code.wp Go.wpList Go.bodyPost
attribute [local irreducible] plusF minusF joinF levI lev PW RLN
theorem PW.d0 {k : Nat} {l : List Rat} (h : PW k l) (hz : zeroF l = false) (h1 : ¬ l.length = 1) : ∃ j,j < k ∧ l.length = 2 ^ (j + 1) ∧ l.length / 2 = 2 ^ j ∧ (l.take (2 ^ j)).length = 2 ^ j ∧ (l.drop (2 ^ j)).length = 2 ^ j:=h.half (by rw [hz];decide) h1
theorem PW.rt {rs : List (List Rat)} (hr : RLN rs) {j k : Nat} (hj : j < rs.length) (hk : j ≤ k) : PW k (rs.getD j []):=(PW.pow (hr.at hj)).mono hk
section
variable {rs : List (List Rat)} {q : List Rat → List Rat → List Rat} {l k : List Rat}
end
end Go.Proofs.YtnjbcjmkkejfpaaGreatDoor
set_option linter.unusedVariables false
set_option linter.unusedSimpArgs false
set_option maxHeartbeats 4000000
set_option maxRecDepth 100000
set_option synthInstance.maxSize 100000
set_option synthInstance.maxHeartbeats 400000
namespace Go.Proofs.YtnjbcjmkkejfpaaGreatDoor
open Go.RowKit (Below)
attribute [local irreducible] Go.Code.wp Go.wpList Go.bodyPost
attribute [local irreducible] plusF minusF joinF levI lev PW RLN tB sB timesF stepF tmF normF shoF TOK
end Go.Proofs.YtnjbcjmkkejfpaaGreatDoor
set_option linter.unusedVariables false
set_option linter.unusedSimpArgs false
set_option maxHeartbeats 4000000
set_option maxRecDepth 100000
set_option synthInstance.maxSize 100000
set_option synthInstance.maxHeartbeats 400000
namespace Go.Proofs.YtnjbcjmkkejfpaaGreatDoor
open Go.RowKit (Below)
attribute [local irreducible] Go.Code.wp Go.wpList Go.bodyPost
attribute [local irreducible] plusF minusF joinF levI lev PW RLN tB sB timesF stepF tmF normF shoF TOK
end Go.Proofs.YtnjbcjmkkejfpaaGreatDoor
set_option linter.unusedVariables false
set_option linter.unusedSimpArgs false
set_option maxHeartbeats 4000000
set_option maxRecDepth 100000
set_option synthInstance.maxSize 100000
set_option synthInstance.maxHeartbeats 400000
namespace Go.Proofs.YtnjbcjmkkejfpaaGreatDoor
open Go.RowKit (Below)
attribute [local irreducible] Go.Code.wp Go.wpList Go.bodyPost
instance : DecidableEq FR:=fun r s=>decidable_of_iff (r.s = s.s ∧ r.p = s.p ∧ r.q = s.q) ⟨fun h=>by obtain ⟨a,b,c⟩:=r;obtain ⟨d,e,f⟩:=s;simp only at h;obtain ⟨rfl,rfl,rfl⟩:=h;rfl,fun h=>by subst h;exact ⟨rfl,rfl,rfl⟩⟩
theorem FR.eq_dec {r s : FR} : ((r.s == s.s) && decide (r.p = s.p) && decide (r.q = s.q)) = decide (r = s):=by
  rw [Bool.eq_iff_iff,Bool.and_eq_true,Bool.and_eq_true,decide_eq_true_eq,decide_eq_true_eq,decide_eq_true_eq,beq_iff_eq]
  obtain ⟨a,b,c⟩:=r;obtain ⟨d,e,f⟩:=s;simp [and_assoc]
theorem FR.of_inj {x y : Rat} (h : FR.of x = FR.of y) : x = y:=by rw [← FR.of_val (x:=x),h,FR.of_val]
section
variable {α : Type} {l k : List α} {j : Nat}
theorem eq_ln [DecidableEq α] (h : decide (((l.length : Nat) : Int) ≠ ((k.length : Nat) : Int)) = true) : false = decide (l = k):=by
  rw [decide_eq_true_eq] at h;exact (decide_eq_false fun e=>h (by rw [e])).symm
theorem eq_at [Inhabited α] [DecidableEq α] (hj : j < l.length) (hl : l.length = k.length) (h : l.getD j default ≠ k.getD j default) : false = decide (l = k):=(decide_eq_false fun e=>h (by rw [e])).symm
theorem eq_nx [Inhabited α] (hj : j < l.length) (hl : l.length = k.length) (h : l.take j = k.take j) (e : l.getD j default = k.getD j default) : l.take (j + 1) = k.take (j + 1):=by
  rw [List.getD_eq_getElem?_getD,List.getD_eq_getElem?_getD,List.getElem?_eq_getElem hj,List.getElem?_eq_getElem (by omega)] at e
  rw [List.take_add_one,List.take_add_one,h,List.getElem?_eq_getElem hj,List.getElem?_eq_getElem (by omega)]
  simp only [Option.getD_some] at e;rw [e]
theorem eq_en [DecidableEq α] (hj : ¬ j < l.length) (hl : l.length = k.length) (h : l.take j = k.take j) : true = decide (l = k):=by
  rw [List.take_of_length_le (by omega),List.take_of_length_le (by omega)] at h
  exact (decide_eq_true h).symm
end
theorem dig_getD (l : List Nat) (j : Nat) : dig l j = l.getD j default:=rfl
theorem w72 {l k : List Nat} : Con Tryz.prog 72 [SL l,SL k] (True) (BT (decide (l = k))):=.o2 fun hok h1 h2 hp=>by
  refine St.enter (N:=26) Tryz.func72 rfl rfl rfl hok (enter2 h1 h2) fun a=>?_
  have hlim:=SL.lim h1
  have hlim2:=SL.lim h2
  simp only [LIM] at hlim hlim2
  repeat' (first|((with_reducible refine gS_ ?_);first|((with_reducible refine gL_ ?_);first|refine W.run ?_ fun a w G=>?_|refine W.mv fun a w G=>?_|refine W.asg fun a w G=>?_|refine W.bx fun b a w G=>?_|(refine W.nn hK ?_;clear hK K)|refine W.nl ?_|refine W.al fun b a w G=>?_|refine W.st fun w=>?_|refine W.stp fun w=>?_|refine W.ste ?_ fun w=>?_)|((with_reducible refine gC_ ?_);first|refine W.reg fun K hK=>?_|refine W.reg1 ?_|refine W.sq fun K hK=>?_|refine W.ds ?_ (fun β a w G hu=>W.fin ?_ hu) mixedOrders (by kernel_rfl)|refine W.sk ?_|refine W.cd (fun hc=>?_) (fun hc=>?_)|refine W.cb (fun hc=>?_) (fun hc=>?_)|refine W.bl ?_|refine W.ex ?_|refine W.rt ?_)|((with_reducible refine W.kn hK ?_);clear hK K)|(with_reducible first|refine W.bn ?_|refine W.xt ?_|refine W.xb ?_|refine W.xo ?_|refine W.tr ?_|refine W.br ?_)|refine W.rt1 rfl ?_|refine W.rt2 rfl ?_ ?_|refine W.rt3 rfl ?_ ?_ ?_)|refine W.lp 11 (α:=Nat) (fun j=>l.length - j) (fun j=>j ≤ l.length ∧ l.take j = k.take j) [4,5,11,12,13,14,15,16,17,18,19,20,21,22,23,24,25] (fun j=>[(5,NT j)]) (fun j=>[]) (0) ?_ ?_ ?_ fun j hj a w G=>?_|refine W.ag (x:=j) (j+1) ?_ ?_ ?_ ?_|clear hK K|clear hu|exact True.intro|exact Nat.le_trans (by clear hp;omega) hp|exact Nat.le_trans (by clear hp;omega) hp.1|exact Nat.le_trans (by clear hp;omega) hp.2|(clear hp;omega)|apply And.intro|refine GI.i fun _=>?_|with_reducible rfl|decide|(simp only [List.length_cons,List.length_nil];omega))
  all_goals first
    | exact eq_ln (decide_eq_true hc)
    | (simp;done)
    | (exact (decide_eq_false fun e=>hc (by rw [e])).symm)
    | (have hle : l.length = k.length := by (have h0 : ¬ ((l.length : Nat) : Int) ≠ ((k.length : Nat) : Int) := by assumption); omega
       first
       | omega
       | exact eq_en (by omega) hle hj.2
       | ((simp only [Int.toNat_natCast,dig_getD] at *);first
         | exact eq_at (by omega) hle (by assumption)
         | exact eq_nx (by omega) hle hj.2 (Classical.not_not.1 (by assumption))))
    | skip
instance {l k : List Nat} {τ1 : MT} [j1 : NL τ1 (SL l)] {τ2 : MT} [j2 : NL τ2 (SL k)] : Con Tryz.prog 72 [τ1,τ2] (True) (BT (decide (l = k))):=.o2 fun hok h1 h2 hp=>w72.c2 hok (j1.h h1) (j2.h h2) hp
theorem w24 {r s : FR} : Con Tryz.prog 24 [RX r,RX s] (True) (BT (decide (r = s))):=.o2 fun hok h1 h2 hp=>by
  refine St.enter (N:=24) Tryz.func24 rfl rfl rfl hok (enter2 h1 h2) fun a=>?_
  repeat' (first|((with_reducible refine gS_ ?_);first|((with_reducible refine gL_ ?_);first|refine W.run ?_ fun a w G=>?_|refine W.mv fun a w G=>?_|refine W.asg fun a w G=>?_|refine W.bx fun b a w G=>?_|(refine W.nn hK ?_;clear hK K)|refine W.nl ?_|refine W.al fun b a w G=>?_|refine W.st fun w=>?_|refine W.stp fun w=>?_|refine W.ste ?_ fun w=>?_)|((with_reducible refine gC_ ?_);first|refine W.reg fun K hK=>?_|refine W.reg1 ?_|refine W.sq fun K hK=>?_|refine W.ds ?_ (fun β a w G hu=>W.fin ?_ hu) mixedOrders (by kernel_rfl)|refine W.sk ?_|refine W.cd (fun hc=>?_) (fun hc=>?_)|refine W.cb (fun hc=>?_) (fun hc=>?_)|refine W.bl ?_|refine W.ex ?_|refine W.rt ?_)|((with_reducible refine W.kn hK ?_);clear hK K)|(with_reducible first|refine W.bn ?_|refine W.xt ?_|refine W.xb ?_|refine W.xo ?_|refine W.tr ?_|refine W.br ?_)|refine W.rt1 rfl ?_|refine W.rt2 rfl ?_ ?_|refine W.rt3 rfl ?_ ?_ ?_)|clear hK K|clear hu|exact True.intro|exact Nat.le_trans (by clear hp;omega) hp|exact Nat.le_trans (by clear hp;omega) hp.1|exact Nat.le_trans (by clear hp;omega) hp.2|(clear hp;omega)|apply And.intro|refine GI.i fun _=>?_|with_reducible rfl|decide|(simp only [List.length_cons,List.length_nil];omega))
  all_goals first | exact FR.eq_dec | skip
instance {r s : FR} {τ1 : MT} [j1 : NR τ1 (RX r)] {τ2 : MT} [j2 : NR τ2 (RX s)] : Con Tryz.prog 24 [τ1,τ2] (True) (BT (decide (r = s))):=.o2 fun hok h1 h2 hp=>w24.c2 hok (j1.h h1) (j2.h h2) hp
theorem w33 {xs ys : List FR} : Con Tryz.prog 33 [LS (some 3) (xs.map RX),LS (some 3) (ys.map RX)] (True) (BT (decide (xs = ys))):=.o2 fun hok h1 h2 hp=>by
  refine St.enter (N:=27) Tryz.func33 rfl rfl rfl hok (enter2 h1 h2) fun a=>?_
  have hlim:=LS.lenM h1
  have hlim2:=LS.lenM h2
  simp only [LIM] at hlim hlim2
  repeat' (first|((with_reducible refine gS_ ?_);first|((with_reducible refine gL_ ?_);first|refine W.run ?_ fun a w G=>?_|refine W.mv fun a w G=>?_|refine W.asg fun a w G=>?_|refine W.bx fun b a w G=>?_|(refine W.nn hK ?_;clear hK K)|refine W.nl ?_|refine W.al fun b a w G=>?_|refine W.st fun w=>?_|refine W.stp fun w=>?_|refine W.ste ?_ fun w=>?_)|((with_reducible refine gC_ ?_);first|refine W.reg fun K hK=>?_|refine W.reg1 ?_|refine W.sq fun K hK=>?_|refine W.ds ?_ (fun β a w G hu=>W.fin ?_ hu) mixedOrders (by kernel_rfl)|refine W.sk ?_|refine W.cd (fun hc=>?_) (fun hc=>?_)|refine W.cb (fun hc=>?_) (fun hc=>?_)|refine W.bl ?_|refine W.ex ?_|refine W.rt ?_)|((with_reducible refine W.kn hK ?_);clear hK K)|(with_reducible first|refine W.bn ?_|refine W.xt ?_|refine W.xb ?_|refine W.xo ?_|refine W.tr ?_|refine W.br ?_)|refine W.rt1 rfl ?_|refine W.rt2 rfl ?_ ?_|refine W.rt3 rfl ?_ ?_ ?_)|refine W.lp 11 (α:=Nat) (fun j=>xs.length - j) (fun j=>j ≤ xs.length ∧ xs.take j = ys.take j) [4,5,11,12,13,14,15,16,17,18,19,20,21,22,23,24,25,26] (fun j=>[(5,NT j)]) (fun j=>[]) (0) ?_ ?_ ?_ fun j hj a w G=>?_|refine W.ag (x:=j) (j+1) ?_ ?_ ?_ ?_|clear hK K|clear hu|exact True.intro|exact Nat.le_trans (by clear hp;omega) hp|exact Nat.le_trans (by clear hp;omega) hp.1|exact Nat.le_trans (by clear hp;omega) hp.2|(clear hp;omega)|apply And.intro|refine GI.i fun _=>?_|with_reducible rfl|decide|(simp only [List.length_cons,List.length_nil];omega))
  all_goals first
    | exact eq_ln (decide_eq_true hc)
    | (simp;done)
    | (exact (decide_eq_false fun e=>hc (by rw [e])).symm)
    | (have hle : xs.length = ys.length := by (have h0 : ¬ ((xs.length : Nat) : Int) ≠ ((ys.length : Nat) : Int) := by assumption); omega
       first
       | omega
       | exact eq_en (by omega) hle hj.2
       | (first
         | (refine eq_at (j:=j) (by omega) hle ?_;simp only [Bool.not_eq_true',decide_eq_false_iff_not] at hc;exact hc)
         | exact eq_nx (by omega) hle hj.2 (by simpa using hc)))
    | skip
instance {xs ys : List FR} {τ1 : MT} [j1 : NR τ1 (LS (some 3) (xs.map RX))] {τ2 : MT} [j2 : NR τ2 (LS (some 3) (ys.map RX))] : Con Tryz.prog 33 [τ1,τ2] (True) (BT (decide (xs = ys))):=.o2 fun hok h1 h2 hp=>w33.c2 hok (j1.h h1) (j2.h h2) hp
abbrev LFR (l : List FR) : MT:=LS (some 3) (l.map RX)
instance {l : List FR} : AsT (LS (some 3) (l.map RX)) LFR l:=⟨fun h=>h⟩
theorem NM.lfr {n : Nat} {l : List Rat} {v : Value} {G : Gh} (h : (NM n l).t v G) : (LFR (l.map FR.of)).t v G:=LS.convM (T:=QC n) (U:=RX) (f:=FR.of) h (by simp) fun x hx v G hv=>FX.toRX (QC.toFX hv (QC.one hv))
instance NR.nm {n : Nat} {l : List Rat} : NR (LS (some 3) (l.map (QC n))) (LS (some 3) ((l.map FR.of).map RX)):=⟨NM.lfr⟩
instance NR.rts {n : Nat} {rs : List (List Rat)} : NR (LS none (rs.map (NM n))) (LS none ((rs.map (List.map FR.of)).map LFR)):=⟨fun h=>LS.convM (T:=NM n) (U:=LFR) (f:=List.map FR.of) h (by simp) fun x hx v G hv=>NM.lfr hv⟩
theorem mof_inj {l k : List Rat} (h : l.map FR.of = k.map FR.of) : l = k:=by
  induction l generalizing k with
  | nil=>cases k with
    | nil=>rfl
    | cons y k=>cases h
  | cons x l ih=>cases k with
    | nil=>cases h
    | cons y k=>simp only [List.map_cons,List.cons.injEq] at h;rw [FR.of_inj h.1,ih h.2]
theorem mmof_inj {l k : List (List Rat)} (h : l.map (List.map FR.of) = k.map (List.map FR.of)) : l = k:=by
  induction l generalizing k with
  | nil=>cases k with
    | nil=>rfl
    | cons y k=>cases h
  | cons x l ih=>cases k with
    | nil=>cases h
    | cons y k=>simp only [List.map_cons,List.cons.injEq] at h;rw [mof_inj h.1,ih h.2]
theorem mof_dec {l k : List Rat} : decide (l.map FR.of = k.map FR.of) = decide (l = k):=decide_eq_decide.2 ⟨mof_inj,fun h=>by rw [h]⟩
theorem mmof_dec {l k : List (List Rat)} : decide (l.map (List.map FR.of) = k.map (List.map FR.of)) = decide (l = k):=decide_eq_decide.2 ⟨mmof_inj,fun h=>by rw [h]⟩
theorem w19 {xs ys : List FR} : Con Tryz.prog 19 [LS (some 3) (xs.map RX),LS (some 3) (ys.map RX)] (True) (BT (decide (xs = ys))):=.o2 fun hok h1 h2 hp=>by
  refine St.enter (N:=8) Tryz.func19 rfl rfl rfl hok (enter2 h1 h2) fun a=>?_
  repeat' (first|((with_reducible refine gS_ ?_);first|((with_reducible refine gL_ ?_);first|refine W.run ?_ fun a w G=>?_|refine W.mv fun a w G=>?_|refine W.asg fun a w G=>?_|refine W.bx fun b a w G=>?_|(refine W.nn hK ?_;clear hK K)|refine W.nl ?_|refine W.al fun b a w G=>?_|refine W.st fun w=>?_|refine W.stp fun w=>?_|refine W.ste ?_ fun w=>?_)|((with_reducible refine gC_ ?_);first|refine W.reg fun K hK=>?_|refine W.reg1 ?_|refine W.sq fun K hK=>?_|refine W.ds ?_ (fun β a w G hu=>W.fin ?_ hu) mixedOrders (by kernel_rfl)|refine W.sk ?_|refine W.cd (fun hc=>?_) (fun hc=>?_)|refine W.cb (fun hc=>?_) (fun hc=>?_)|refine W.bl ?_|refine W.ex ?_|refine W.rt ?_)|((with_reducible refine W.kn hK ?_);clear hK K)|(with_reducible first|refine W.bn ?_|refine W.xt ?_|refine W.xb ?_|refine W.xo ?_|refine W.tr ?_|refine W.br ?_)|refine W.rt1 rfl ?_|refine W.rt2 rfl ?_ ?_|refine W.rt3 rfl ?_ ?_ ?_)|clear hK K|clear hu|exact True.intro|exact Nat.le_trans (by clear hp;omega) hp|exact Nat.le_trans (by clear hp;omega) hp.1|exact Nat.le_trans (by clear hp;omega) hp.2|(clear hp;omega)|apply And.intro|refine GI.i fun _=>?_|with_reducible rfl|decide|(simp only [List.length_cons,List.length_nil];omega))
instance {xs ys : List FR} {τ1 : MT} [j1 : NR τ1 (LS (some 3) (xs.map RX))] {τ2 : MT} [j2 : NR τ2 (LS (some 3) (ys.map RX))] : Con Tryz.prog 19 [τ1,τ2] (True) (BT (decide (xs = ys))):=.o2 fun hok h1 h2 hp=>w19.c2 hok (j1.h h1) (j2.h h2) hp
theorem PTS.lenL {α : Type} {T : α → MT} {xs : List α} {v : Value} {G : Gh} (h : (PTS [(none,LS none (xs.map T))]).t v G) : xs.length ≤ LIM:=by
  obtain ⟨us,_,hl,hE⟩:=h
  match us,hl with
  | u :: us,_=>exact LS.lenM (hE 0 _ u rfl rfl).2
theorem w18 {xs ys : List (List FR)} : Con Tryz.prog 18 [PTS [(none,LS none (xs.map LFR))],PTS [(none,LS none (ys.map LFR))]] (True) (BT (decide (xs = ys))):=.o2 fun hok h1 h2 hp=>by
  refine St.enter (N:=32) Tryz.func18 rfl rfl rfl hok (enter2 h1 h2) fun a=>?_
  have hlim:=PTS.lenL h1
  have hlim2:=PTS.lenL h2
  simp only [LIM] at hlim hlim2
  repeat' (first|((with_reducible refine gS_ ?_);first|((with_reducible refine gL_ ?_);first|refine W.run ?_ fun a w G=>?_|refine W.mv fun a w G=>?_|refine W.asg fun a w G=>?_|refine W.bx fun b a w G=>?_|(refine W.nn hK ?_;clear hK K)|refine W.nl ?_|refine W.al fun b a w G=>?_|refine W.st fun w=>?_|refine W.stp fun w=>?_|refine W.ste ?_ fun w=>?_)|((with_reducible refine gC_ ?_);first|refine W.reg fun K hK=>?_|refine W.reg1 ?_|refine W.sq fun K hK=>?_|refine W.ds ?_ (fun β a w G hu=>W.fin ?_ hu) mixedOrders (by kernel_rfl)|refine W.sk ?_|refine W.cd (fun hc=>?_) (fun hc=>?_)|refine W.cb (fun hc=>?_) (fun hc=>?_)|refine W.bl ?_|refine W.ex ?_|refine W.rt ?_)|((with_reducible refine W.kn hK ?_);clear hK K)|(with_reducible first|refine W.bn ?_|refine W.xt ?_|refine W.xb ?_|refine W.xo ?_|refine W.tr ?_|refine W.br ?_)|refine W.rt1 rfl ?_|refine W.rt2 rfl ?_ ?_|refine W.rt3 rfl ?_ ?_ ?_)|refine W.lp 13 (α:=Nat) (fun j=>xs.length - j) (fun j=>j ≤ xs.length ∧ xs.take j = ys.take j) [4,5,13,14,15,16,17,18,19,20,21,22,23,24,25,26,27,28,29,30,31] (fun j=>[(5,NT j)]) (fun j=>[]) (0) ?_ ?_ ?_ fun j hj a w G=>?_|refine W.ag (x:=j) (j+1) ?_ ?_ ?_ ?_|clear hK K|clear hu|exact True.intro|exact Nat.le_trans (by clear hp;omega) hp|exact Nat.le_trans (by clear hp;omega) hp.1|exact Nat.le_trans (by clear hp;omega) hp.2|(clear hp;omega)|apply And.intro|refine GI.i fun _=>?_|with_reducible rfl|decide|(simp only [List.length_cons,List.length_nil];omega))
  all_goals first
    | exact eq_ln (decide_eq_true hc)
    | (simp;done)
    | (exact (decide_eq_false fun e=>hc (by rw [e])).symm)
    | (have hle : xs.length = ys.length := by (have h0 : ¬ ((xs.length : Nat) : Int) ≠ ((ys.length : Nat) : Int) := by assumption); omega
       first
       | omega
       | exact eq_en (by omega) hle hj.2
       | (first
         | (refine eq_at (j:=j) (by omega) hle ?_;simp only [Bool.not_eq_true',decide_eq_false_iff_not] at hc;exact hc)
         | exact eq_nx (by omega) hle hj.2 (by simpa using hc)))
    | skip
instance {xs ys : List (List FR)} {τ1 : MT} [j1 : NR τ1 (PTS [(none,LS none (xs.map LFR))])] {τ2 : MT} [j2 : NR τ2 (PTS [(none,LS none (ys.map LFR))])] : Con Tryz.prog 18 [τ1,τ2] (True) (BT (decide (xs = ys))):=.o2 fun hok h1 h2 hp=>w18.c2 hok (j1.h h1) (j2.h h2) hp
instance (priority:=1100) {n m : Nat} {l k : List Rat} {τ1 τ2 : MT} [j1 : NU τ1 (NM n l)] [j2 : NU τ2 (NM m k)] : Con Tryz.prog 33 [τ1,τ2] True (BT (decide (l = k))):=.o2 fun hok h1 h2 hp=>by
  have:=(inferInstance : Con Tryz.prog 33 [NM n l,NM m k] _ _).c2 hok (j1.h h1) (j2.h h2) hp
  rwa [mof_dec] at this
instance (priority:=1100) {n m : Nat} {l k : List Rat} {τ1 τ2 : MT} [j1 : NU τ1 (NM n l)] [j2 : NU τ2 (NM m k)] : Con Tryz.prog 19 [τ1,τ2] True (BT (decide (l = k))):=.o2 fun hok h1 h2 hp=>by
  have:=(inferInstance : Con Tryz.prog 19 [NM n l,NM m k] _ _).c2 hok (j1.h h1) (j2.h h2) hp
  rwa [mof_dec] at this
instance (priority:=1100) {n m : Nat} {l k : List (List Rat)} {τ1 τ2 : MT} [j1 : NU τ1 (TWR n l)] [j2 : NU τ2 (TWR m k)] : Con Tryz.prog 18 [τ1,τ2] True (BT (decide (l = k))):=.o2 fun hok h1 h2 hp=>by
  have:=(inferInstance : Con Tryz.prog 18 [TWR n l,TWR m k] _ _).c2 hok (j1.h h1) (j2.h h2) hp
  rwa [mmof_dec] at this
end Go.Proofs.YtnjbcjmkkejfpaaGreatDoor
set_option linter.unusedVariables false
set_option linter.unusedSimpArgs false
set_option maxHeartbeats 4000000
set_option maxRecDepth 100000
set_option synthInstance.maxSize 100000
set_option synthInstance.maxHeartbeats 400000
namespace Go.Proofs.YtnjbcjmkkejfpaaGreatDoor
open Go.RowKit (Below)
attribute [local irreducible] Go.Code.wp Go.wpList Go.bodyPost
def nearF (g a b c : FR) (k : Rat) : Int:=surdsF (g.val + a.val - (b.val + c.val)) (-(2 * k)) (a.val * g.val) 2 (b.val * c.val)
def farF (g a b c : FR) (k : Rat) : Int:=surdsF (b.val + c.val - (g.val + a.val)) (2 * k) (a.val * g.val) 2 (b.val * c.val)
def gapC (g a b c k : FR) : Int:=if chkF [g,a,b,c] = 0 then (if k.ok then (if 1 < k.val ∨ k.val < -1 then 3 else 0) else 2) else chkF [g,a,b,c]
def fullF (g a b c : FR) : Bool:=decide (chkF [g,a,b,c] = 0) && decide (0 ≤ nearF g a b c 1) && decide (0 ≤ farF g a b c (-1))
instance NU.qc {τ : MT} {n : Nat} {x : Rat} [h : Rdn τ QC n x] : NU τ (QC n x):=⟨fun hv=>h.h hv⟩
attribute [local irreducible] plusF minusF joinF levI lev PW RLN tB sB timesF stepF tmF normF shoF TOK sgL surdsF chkF
end Go.Proofs.YtnjbcjmkkejfpaaGreatDoor
set_option linter.unusedVariables false
set_option linter.unusedSimpArgs false
namespace Go.Proofs.YtnjbcjmkkejfpaaGreatDoor
open Go.RowKit (Below)
def MT.tup4 (a b c d : MT) : MT:=⟨fun v G=>∃ x y z u,v = .tuple #[x,y,z,u] ∧ a.t x G ∧ b.t y G ∧ c.t z G ∧ d.t u G,fun hle ⟨x,y,z,u,h,h1,h2,h3,h4⟩=>⟨x,y,z,u,h,a.mono hle h1,b.mono hle h2,c.mono hle h3,d.mono hle h4⟩⟩
def MT.tup5 (a b c d e : MT) : MT:=⟨fun v G=>∃ x y z u s,v = .tuple #[x,y,z,u,s] ∧ a.t x G ∧ b.t y G ∧ c.t z G ∧ d.t u G ∧ e.t s G,fun hle ⟨x,y,z,u,s,h,h1,h2,h3,h4,h5⟩=>⟨x,y,z,u,s,h,a.mono hle h1,b.mono hle h2,c.mono hle h3,d.mono hle h4,e.mono hle h5⟩⟩
section
variable {P : Program} {L : List (Nat × MT)} {B : List BX} {x : Operand} {τ1 τ2 τ3 τ4 τ5 : MT} {u : List Nat}
instance Op1.ex40 [h : Opd L x (.tup4 τ1 τ2 τ3 τ4) u] : Op1 P L B (.extract x 0) True τ1 u:=⟨fun ho hok e _ _=>by
  obtain ⟨a,b,c,d,h,h1,h2,h3,h4⟩:=h.h e
  exact .run hok (by simp [execOp,ho,h,Instr.extract]) h1⟩
instance Op1.ex41 [h : Opd L x (.tup4 τ1 τ2 τ3 τ4) u] : Op1 P L B (.extract x 1) True τ2 u:=⟨fun ho hok e _ _=>by
  obtain ⟨a,b,c,d,h,h1,h2,h3,h4⟩:=h.h e
  exact .run hok (by simp [execOp,ho,h,Instr.extract]) h2⟩
instance Op1.ex42 [h : Opd L x (.tup4 τ1 τ2 τ3 τ4) u] : Op1 P L B (.extract x 2) True τ3 u:=⟨fun ho hok e _ _=>by
  obtain ⟨a,b,c,d,h,h1,h2,h3,h4⟩:=h.h e
  exact .run hok (by simp [execOp,ho,h,Instr.extract]) h3⟩
instance Op1.ex43 [h : Opd L x (.tup4 τ1 τ2 τ3 τ4) u] : Op1 P L B (.extract x 3) True τ4 u:=⟨fun ho hok e _ _=>by
  obtain ⟨a,b,c,d,h,h1,h2,h3,h4⟩:=h.h e
  exact .run hok (by simp [execOp,ho,h,Instr.extract]) h4⟩
instance Op1.ex50 [h : Opd L x (.tup5 τ1 τ2 τ3 τ4 τ5) u] : Op1 P L B (.extract x 0) True τ1 u:=⟨fun ho hok e _ _=>by
  obtain ⟨a,b,c,d,f,h,h1,h2,h3,h4,h5⟩:=h.h e
  exact .run hok (by simp [execOp,ho,h,Instr.extract]) h1⟩
instance Op1.ex51 [h : Opd L x (.tup5 τ1 τ2 τ3 τ4 τ5) u] : Op1 P L B (.extract x 1) True τ2 u:=⟨fun ho hok e _ _=>by
  obtain ⟨a,b,c,d,f,h,h1,h2,h3,h4,h5⟩:=h.h e
  exact .run hok (by simp [execOp,ho,h,Instr.extract]) h2⟩
instance Op1.ex52 [h : Opd L x (.tup5 τ1 τ2 τ3 τ4 τ5) u] : Op1 P L B (.extract x 2) True τ3 u:=⟨fun ho hok e _ _=>by
  obtain ⟨a,b,c,d,f,h,h1,h2,h3,h4,h5⟩:=h.h e
  exact .run hok (by simp [execOp,ho,h,Instr.extract]) h3⟩
instance Op1.ex53 [h : Opd L x (.tup5 τ1 τ2 τ3 τ4 τ5) u] : Op1 P L B (.extract x 3) True τ4 u:=⟨fun ho hok e _ _=>by
  obtain ⟨a,b,c,d,f,h,h1,h2,h3,h4,h5⟩:=h.h e
  exact .run hok (by simp [execOp,ho,h,Instr.extract]) h4⟩
instance Op1.ex54 [h : Opd L x (.tup5 τ1 τ2 τ3 τ4 τ5) u] : Op1 P L B (.extract x 4) True τ5 u:=⟨fun ho hok e _ _=>by
  obtain ⟨a,b,c,d,f,h,h1,h2,h3,h4,h5⟩:=h.h e
  exact .run hok (by simp [execOp,ho,h,Instr.extract]) h5⟩
end
theorem rv_4 {fn : Func} {r r2 r3 r4 : ResultVar} (hr : fn.results = #[r,r2,r3,r4]) {tmps : Array Value} {P : Program} {w : World} {v v2 v3 v4 : Value} (h : (rvRun r tmps).run P w = .ok v w) (h2 : (rvRun r2 tmps).run P w = .ok v2 w) (h3 : (rvRun r3 tmps).run P w = .ok v3 w) (h4 : (rvRun r4 tmps).run P w = .ok v4 w) : (results fn tmps).run P w = .ok (.tuple #[v,v2,v3,v4]) w:=by
  rw [results_rv];simp [hr,h,h2,h3,h4]
theorem rv_5 {fn : Func} {r r2 r3 r4 r5 : ResultVar} (hr : fn.results = #[r,r2,r3,r4,r5]) {tmps : Array Value} {P : Program} {w : World} {v v2 v3 v4 v5 : Value} (h : (rvRun r tmps).run P w = .ok v w) (h2 : (rvRun r2 tmps).run P w = .ok v2 w) (h3 : (rvRun r3 tmps).run P w = .ok v3 w) (h4 : (rvRun r4 tmps).run P w = .ok v4 w) (h5 : (rvRun r5 tmps).run P w = .ok v5 w) : (results fn tmps).run P w = .ok (.tuple #[v,v2,v3,v4,v5]) w:=by
  rw [results_rv];simp [hr,h,h2,h3,h4,h5]
section
variable {P : Program} {B : List BX} {L : List (Nat × MT)} {W0 : World} {G0 : Gh} {N : Nat} {a : Act} {w : World} {G : Gh} {fn : Func} {τ1 τ2 τ3 τ4 τ5 ρ1 ρ2 ρ3 ρ4 ρ5 : MT} {p1 p2 p3 p4 p5 : Prop}
theorem W.rt4 {r r2 r3 r4 : ResultVar} (hr : fn.results = #[r,r2,r3,r4]) [h : Rs1 P L B r τ1] [c : Cv τ1 ρ1 p1] [h2 : Rs1 P L B r2 τ2] [c2 : Cv τ2 ρ2 p2] [h3 : Rs1 P L B r3 τ3] [c3 : Cv τ3 ρ3 p3] [h4 : Rs1 P L B r4 τ4] [c4 : Cv τ4 ρ4 p4] (q1 : p1) (q2 : p2) (q3 : p3) (q4 : p4) : St W0 G0 N L B a w G → bodyPost P fn (Ret W0 G0 (.tup4 ρ1 ρ2 ρ3 ρ4)) .ret a w:=fun S=>by
  obtain ⟨v,f1,e1⟩:=h.h (fun u=>S.env u) (fun u=>S.bok u)
  obtain ⟨v2,f2,e2⟩:=h2.h (fun u=>S.env u) (fun u=>S.bok u)
  obtain ⟨v3,f3,e3⟩:=h3.h (fun u=>S.env u) (fun u=>S.bok u)
  obtain ⟨v4,f4,e4⟩:=h4.h (fun u=>S.env u) (fun u=>S.bok u)
  exact bodyPost_ret (rv_4 hr e1 e2 e3 e4) S.dfr ⟨_,G,rfl,⟨v,v2,v3,v4,rfl,c.h q1 f1,c2.h q2 f2,c3.h q3 f3,c4.h q4 f4⟩,S.nxt⟩
theorem W.rt5 {r r2 r3 r4 r5 : ResultVar} (hr : fn.results = #[r,r2,r3,r4,r5]) [h : Rs1 P L B r τ1] [c : Cv τ1 ρ1 p1] [h2 : Rs1 P L B r2 τ2] [c2 : Cv τ2 ρ2 p2] [h3 : Rs1 P L B r3 τ3] [c3 : Cv τ3 ρ3 p3] [h4 : Rs1 P L B r4 τ4] [c4 : Cv τ4 ρ4 p4] [h5 : Rs1 P L B r5 τ5] [c5 : Cv τ5 ρ5 p5] (q1 : p1) (q2 : p2) (q3 : p3) (q4 : p4) (q5 : p5) : St W0 G0 N L B a w G → bodyPost P fn (Ret W0 G0 (.tup5 ρ1 ρ2 ρ3 ρ4 ρ5)) .ret a w:=fun S=>by
  obtain ⟨v,f1,e1⟩:=h.h (fun u=>S.env u) (fun u=>S.bok u)
  obtain ⟨v2,f2,e2⟩:=h2.h (fun u=>S.env u) (fun u=>S.bok u)
  obtain ⟨v3,f3,e3⟩:=h3.h (fun u=>S.env u) (fun u=>S.bok u)
  obtain ⟨v4,f4,e4⟩:=h4.h (fun u=>S.env u) (fun u=>S.bok u)
  obtain ⟨v5,f5,e5⟩:=h5.h (fun u=>S.env u) (fun u=>S.bok u)
  exact bodyPost_ret (rv_5 hr e1 e2 e3 e4 e5) S.dfr ⟨_,G,rfl,⟨v,v2,v3,v4,v5,rfl,c.h q1 f1,c2.h q2 f2,c3.h q3 f3,c4.h q4 f4,c5.h q5 f5⟩,S.nxt⟩
end
end Go.Proofs.YtnjbcjmkkejfpaaGreatDoor
set_option linter.unusedVariables false
set_option linter.unusedSimpArgs false
namespace Go.Proofs.YtnjbcjmkkejfpaaGreatDoor
open Go.RowKit (Below)
class Drp (L : List (Nat × MT)) (ws : List Nat) (L' : outParam (List (Nat × MT))) : Prop where
  h : ∀ p ∈ L',p ∈ L
instance Drp.nil {ws : List Nat} : Drp [] ws []:=⟨fun _ h=>h⟩
instance Drp.hd {L L' : List (Nat × MT)} {ws : List Nat} {t : Nat} {τ : MT} [In ws t] [h : Drp L ws L'] : Drp ((t,τ) :: L) ws L':=⟨fun p hp=>.tail _ (h.h p hp)⟩
instance (priority:=500) Drp.tl {L L' : List (Nat × MT)} {ws : List Nat} {x : Nat × MT} [h : Drp L ws L'] : Drp (x :: L) ws (x :: L'):=⟨fun p hp=>by
  rcases List.mem_cons.1 hp with e | e
  · subst e;exact .head _
  · exact .tail _ (h.h p e)⟩
class GcT (f id : Nat) (k : Bool) (t : outParam Nat) (ws : outParam (List Nat)) : Prop
section
variable {P : Program} {B : List BX} {L L' : List (Nat × MT)} {W0 : World} {G0 : Gh} {N : Nat} {a : Act} {w : World} {G : Gh} {Q : Exit → Act → World → Prop} {c c1 : Code} {τ0 : MT} {bd : Bool} {l : Array Oper}
theorem W.gcc (f : Nat) {id t : Nat} {ws : List Nat} [g : GcT f id false t ws] [Lk L t τ0] [d : Drp L (t :: ws) L'] (h : St W0 G0 N L' B a w G → (Code.seq (.region id l bd) c).wp P Q a w) : St W0 G0 N L B a w G → (Code.seq (.region id l bd) c).wp P Q a w:=fun S=>h (S.only d.h)
theorem W.gcd (f : Nat) {id t : Nat} {ws : List Nat} [g : GcT f id true t ws] [Lk L t τ0] [d : Drp L (t :: ws) L'] (h : St W0 G0 N L' B a w G → (Code.seq (.block id c1) c).wp P Q a w) : St W0 G0 N L B a w G → (Code.seq (.block id c1) c).wp P Q a w:=fun S=>h (S.only d.h)
end
end Go.Proofs.YtnjbcjmkkejfpaaGreatDoor
set_option linter.unusedVariables false
set_option linter.unusedSimpArgs false
set_option maxHeartbeats 4000000
set_option maxRecDepth 100000
set_option synthInstance.maxSize 100000
set_option synthInstance.maxHeartbeats 400000
namespace Go.Proofs.YtnjbcjmkkejfpaaGreatDoor
open Go.RowKit (Below)
attribute [local irreducible] Go.Code.wp Go.wpList Go.bodyPost
def sinA (g a b c : FR) (k : Rat) : Rat:=((b.val + c.val - (g.val + a.val)) * (b.val + c.val - (g.val + a.val)) + k * k * (4 * (a.val * g.val))) / (4 * (b.val * c.val))
def sinB (g a b c : FR) (k : Rat) : Rat:=(b.val + c.val - (g.val + a.val)) * k / (b.val * c.val)
def sinL (g a b c : FR) (k : Rat) : List Rat:=[1 - sinA g a b c k,-sinB g a b c k]
def sinC (g a b c k : FR) : Int:=if gapC g a b c k = 0 then (if nearF g a b c k.val < 0 ∨ farF g a b c k.val < 0 then 16 else 0) else gapC g a b c k
def midF (g a b c : FR) : Rat:=b.val + c.val - (g.val + a.val)
def atF (g a b c : FR) : Int:=if (midF g a b c).num.sign < 0 then -1 else 1
def rgtF (g a b c : FR) : Bool:=decide (cmpQ (midF g a b c * midF g a b c) (4 * (a.val * g.val)) ≤ 0)
def fulC (g a b c : FR) : Int:=if chkF [g,a,b,c] = 0 then (if fullF g a b c then 0 else 16) else chkF [g,a,b,c]
def leaL (g a b c : FR) : List Rat:=if fulC g a b c = 0 then sinL g a b c ((atF g a b c : Int) : Rat) else []
def mosL (g a b c : FR) : List Rat:=if fulC g a b c = 0 then (if rgtF g a b c then [1,0] else sinL g a b c ((-atF g a b c : Int) : Rat)) else []
def twoA (g a b c : FR) : List (List Rat):=if fulC g a b c = 0 then [[a.val * g.val]] else []
def alsC (g a b c m : FR) : Int:=if chkF [g,a,b,c] = 0 then (if m.ok then fulC g a b c else 2) else chkF [g,a,b,c]
noncomputable def alsF (g a b c m : FR) : Bool:=decide (alsC g a b c m = 0) && decide (sgL [[a.val * g.val]] (plusF (leaL g a b c) (minusF (shoF [m.val]))) ≥ 0)
def rigF (g a b c : FR) : Int:=if fulC g a b c = 0 then (if rgtF g a b c then 0 else (midF g a b c).num.sign) else 0
attribute [local irreducible] plusF minusF joinF levI lev PW RLN tB sB timesF stepF tmF normF shoF TOK sgL surdsF surdF chkF gapC fullF nearF farF
attribute [local irreducible] sinC fulC leaL mosL alsC alsF rigF rgtF atF twoA sinA sinB sinL
end Go.Proofs.YtnjbcjmkkejfpaaGreatDoor
set_option linter.unusedVariables false
set_option linter.unusedSimpArgs false
namespace Go.Proofs.YtnjbcjmkkejfpaaGreatDoor
end Go.Proofs.YtnjbcjmkkejfpaaGreatDoor
set_option linter.unusedVariables false
set_option linter.unusedSimpArgs false
set_option maxHeartbeats 4000000
set_option maxRecDepth 100000
set_option synthInstance.maxSize 100000
set_option synthInstance.maxHeartbeats 400000
namespace Go.Proofs.YtnjbcjmkkejfpaaGreatDoor
open Go.RowKit (Below)
attribute [local irreducible] Go.Code.wp Go.wpList Go.bodyPost
attribute [local irreducible] plusF minusF joinF levI lev PW RLN tB sB timesF stepF tmF normF shoF TOK sgL
end Go.Proofs.YtnjbcjmkkejfpaaGreatDoor
set_option linter.unusedVariables false
set_option linter.unusedSimpArgs false
namespace Go.Proofs.YtnjbcjmkkejfpaaGreatDoor
open Go.RowKit (Below)
open Go.MapKept
def MPE (arr : Array MapEntry) (c : Nat) (es : List (Int × Int)) : Prop:=Stamped arr c ∧ (arr.toList.map fun e=>(e.key,e.val)).Perm (es.map fun p=>(Value.int .i64 p.1,Value.int .i64 p.2))
def MP (es : List (Int × Int)) : MT:=⟨fun v G=>∃ r arr c,v = .map (some r) ∧ G r = some (.map arr c) ∧ MPE arr c es,fun hle ⟨r,arr,c,h1,h2,h3⟩=>⟨r,arr,c,h1,hle _ _ h2,h3⟩⟩
instance {es : List (Int × Int)} : ShK (MP es) none:=⟨fun h=>by obtain ⟨r,arr,c,rfl,_⟩:=h;exact ⟨rfl,rfl⟩⟩
structure StX (r : Nat) (o : Obj) (W0 : World) (G0 : Gh) (N : Nat) (L : List (Nat × MT)) (B : List BX) (a : Act) (w : World) (G : Gh) : Prop where
  s : St W0 G0 N L B a w G
  h0 : W0.heap.size ≤ r
  hG : G r = none
  hB : ∀ x ∈ B,x.b ≠ r
  hm : w.heap[r]? = some o
section
variable {P : Program} {W0 : World} {G0 : Gh} {N : Nat} {L L' : List (Nat × MT)} {B B' : List BX} {a : Act} {w : World} {G : Gh} {r : Nat} {ob : Obj}
theorem St.touch (S : St W0 G0 N L B a w G) {w' : World} (h0 : W0.heap.size ≤ r) (hG : G r = none) (hB : ∀ x ∈ B,x.b ≠ r) (hos : w'.os = w.os ∧ w'.tape = w.tape ∧ w'.output = w.output) (hsz : w'.heap.size = w.heap.size) (hbl : ∀ k,k ≠ r → w'.heap[k]? = w.heap[k]?) : St W0 G0 N L B a w' G where
  nxt:=⟨⟨hos.1.trans S.nxt.below.os,hos.2.1.trans S.nxt.below.tape,hos.2.2.trans S.nxt.below.output,by rw [hsz];exact S.nxt.below.size,fun k hk=>(hbl k (by omega)).trans (S.nxt.below.block k hk)⟩,S.nxt.agree,S.nxt.le,fun b o hb=>(hbl b (fun e=>by rw [e,hG] at hb;cases hb)).trans (S.ok b o hb)⟩
  size:=S.size
  dfr:=S.dfr
  ty:=S.ty
  bx:=fun i x h=>by
    obtain ⟨h1,h2,u,hu,hs,ht⟩:=S.bx i x h
    exact ⟨h1,h2,u,(hbl _ (hB x (List.mem_of_getElem? h))).trans hu,hs,ht⟩
  nd:=S.nd
theorem StX.lt (S : StX r ob W0 G0 N L B a w G) : r < w.heap.size:=(Array.getElem?_eq_some_iff.1 S.hm).1
theorem StX.set (S : StX r ob W0 G0 N L B a w G) (o' : Obj) : StX r o' W0 G0 N L B a { w with heap:=w.heap.setIfInBounds r o' } G :=
  ⟨S.s.touch S.h0 S.hG S.hB ⟨rfl,rfl,rfl⟩ (by simp) fun k hk=>(heap_set S.hm).2 k hk,S.h0,S.hG,S.hB,(heap_set S.hm).1⟩
theorem StX.drew (S : StX r ob W0 G0 N L B a w G) : StX r ob W0 G0 N L B a w.drew G :=
  ⟨S.s.touch S.h0 S.hG S.hB ⟨rfl,rfl,rfl⟩ rfl fun k hk=>rfl,S.h0,S.hG,S.hB,S.hm⟩
theorem StX.put (S : StX r ob W0 G0 N L B a w G) {d : Nat} {v : Value} {w' : World} {G' : Gh} {τ : MT} (hd : d < N) (hf : fresh d L = true) (hv : τ.t v G') (hn : Nxt w G w' G') : StX r ob W0 G0 N ((d,τ) :: L) B (a.put (some d) v) w' G' :=
  ⟨S.s.put hd hf hv hn,S.h0,(hn.agree _ S.lt).trans S.hG,S.hB,(hn.below.block _ S.lt).trans S.hm⟩
theorem StX.weak (S : StX r ob W0 G0 N L B a w G) (h : ∀ p ∈ L',p ∈ L) : StX r ob W0 G0 N L' B a w G :=
  ⟨S.s.weak fun i p hi=>by obtain ⟨j,hj⟩:=List.mem_iff_getElem?.1 (h p (List.mem_of_getElem? hi));exact S.s.ty j p hj,S.h0,S.hG,S.hB,S.hm⟩
end
class ApM (l m : List MT) (r : outParam (List MT)) : Prop where
  h : l ++ m = r
instance ApM.nil {m : List MT} : ApM [] m m:=⟨rfl⟩
instance ApM.cons {x : MT} {l m r : List MT} [h : ApM l m r] : ApM (x :: l) m (x :: r):=⟨by rw [← h.h];rfl⟩
instance Op1.apc {P : Program} {L : List (Nat × MT)} {B : List BX} {x y : Operand} {u v : List Nat} {t e by0 : Nat} {τ : MT} {τs σs ρs : List MT} [el : ElS P t e none by0 (.slice none 0 0)] [hx : Opd L x (LSC none τs) u] [hy : Opd L y τ v] [ay : AsLS τ none σs] [ap : ApM τs σs ρs] : Op1 P L B (.call { callee:=.builtin .append,args:=#[x,y],argTypes:=#[t,t] }) (τs.length + σs.length ≤ LIM ∧ (τs.length + σs.length) * by0 ≤ 140737488355328) (LS none ρs) (u ++ v):=⟨fun ho hok e' _ hp=>by
  have h:=OpR.appSC hok ho el.h1 el.h2 ⟨rfl,rfl⟩ (hx.h e'.l) (ay.h (hy.h e'.r)) hp.1 hp.2
  rw [ap.h] at h;exact h⟩
namespace X
section
variable {P : Program} {L L' : List (Nat × MT)} {B B' : List BX} {x y : Operand} {u v : List Nat} {t ty : TypeId} {τ τ' : MT} {n c b i j d : Nat} {k : Option Nat}
variable {W0 : World} {G0 : Gh} {N : Nat} {a : Act} {w : World} {G : Gh} {Q : Exit → Act → World → Prop} {pre : Prop} {rest : List Oper} {arr : Array Oper} {pos : String} {aft : Array Edge} {r : Nat} {ob : Obj} {p : Prop}
theorem op {op : Op} [h : Op1 P L B op pre τ u] (hp : pre) (K : ∀ a w G, StX r ob W0 G0 N ((d, τ) :: L) B a w G → wpList P arr Q rest a w) (hdN : (decide (d < N)) = true := by rfl) (hf : fresh d L = true := by rfl) :
    StX r ob W0 G0 N L B a w G → wpList P arr Q (⟨some d,op,ty,pos,aft,none⟩ :: rest) a w:=fun S =>
  wpList_plain rfl fun K' hK=>h.ok rfl S.s.ok (S.s.env u) (S.s.bok u) hp Q K' fun v w' G' hv hn=>hK _ _ (K _ _ _ (S.put (of_decide_eq_true hdN) hf hv hn))
theorem asg [h : Opd L x τ u] (K : ∀ a w G, StX r ob W0 G0 N ((d, τ) :: L) B a w G → wpList P arr Q rest a w) (hdN : (decide (d < N)) = true := by rfl) (hf : fresh d L = true := by rfl) :
    StX r ob W0 G0 N L B a w G → wpList P arr Q (⟨some d,.assign x,ty,pos,aft,none⟩ :: rest) a w:=fun S =>
  wpList_plain rfl fun K' hK=>by
    unfold Oper.wp
    have hr : (execOp a.eval ⟨some d,.assign x,ty,pos,aft,none⟩).run P w = .ok (.value (a.eval x)) w:=by simp [execOp]
    rw [hr]
    exact hK _ _ (K _ _ _ (S.put (of_decide_eq_true hdN) hf (h.h (S.s.env u)) (Nxt.refl S.s.ok)))
theorem cb {e : Bool} {c c' : Code} [h : Lk L t (BT e)] (h1 : e = true → StX r ob W0 G0 N L B a w G → c.wp P Q a w) (h2 : e = false → StX r ob W0 G0 N L B a w G → c'.wp P Q a w) : StX r ob W0 G0 N L B a w G → (Code.cond (.tmp t) c c').wp P Q a w:=fun S=>S.s.cb (fun e=>h1 e S) (fun e=>h2 e S)
theorem ste [s : Sto P L B t x y j τ pre u] [hB : BAt B j τ B'] (hp : pre) (K : ∀ w,StX r ob W0 G0 N L B' a w G → wpList P arr Q rest a w) {ty' : TypeId} : StX r ob W0 G0 N L B a w G → wpList P arr Q (⟨none,.store t x y,ty',pos,aft,none⟩ :: rest) a w:=fun S =>
  wpList_plain rfl fun K' hK=>by
    obtain ⟨xb,h1,h2⟩:=s.h
    obtain ⟨x0,h3,h4⟩:=hB.h
    rw [h1] at h3;cases h3
    obtain ⟨_,_,v,hv,hs,ht⟩:=S.s.bx j _ h1
    obtain ⟨v1,h5,h6,h7⟩:=h2 hp (S.s.env u) hv hs ht
    have hne : xb.b ≠ r:=S.hB xb (List.mem_of_getElem? h1)
    refine h7 Q K' rfl rfl (hK _ _ (K _ ⟨h4 ▸ S.s.setVar j h1 h5 h6,S.h0,S.hG,fun y hy=>?_,?_⟩))
    · rw [h4] at hy
      obtain ⟨m,hm⟩:=List.mem_iff_getElem?.1 hy
      rw [List.getElem?_set] at hm
      split at hm
      · split at hm
        · cases hm;exact hne
        · cases hm
      · exact S.hB y (List.mem_of_getElem? hm)
    · rw [setRow_other _ _ _ _ hne];exact S.hm
theorem mk (K : ∀ r a w G, StX r (.map #[] 0) W0 G0 N ((d, .ex (.map (some r))) :: L) B a w G → wpList P arr Q rest a w) (hdN : (decide (d < N)) = true := by rfl) (hf : fresh d L = true := by rfl) :
    St W0 G0 N L B a w G → wpList P arr Q (⟨some d,.makeMap t none,ty,pos,aft,none⟩ :: rest) a w:=fun S =>
  wpList_plain rfl fun K' hK=>by
    unfold Oper.wp
    have hr : (execOp a.eval ⟨some d,.makeMap t none,ty,pos,aft,none⟩).run P w = .ok (.value (.map (some w.heap.size))) (w.alloc (.map #[] 0)):=by simp [execOp,Instr.makeMap,Result.andThen]
    rw [hr]
    have hn:=Nxt.alloc S.ok (.map #[] 0)
    refine hK _ _ (K w.heap.size _ _ _ ⟨S.put (of_decide_eq_true hdN) hf rfl hn,S.nxt.below.size,S.ok.none (Nat.le_refl _),fun x hx e=>?_,heap_alloc_new w _⟩)
    obtain ⟨m,hm⟩:=List.mem_iff_getElem?.1 hx
    have:=(S.bx m x hm).lt
    omega
class MapI (P : Program) (t : TypeId) : Prop where
  h : ∃ kt et,P.underlying t = some (.map kt et) ∧ P.underlying kt = some (.int .i64)
end
section
variable {P : Program} {w : World}
end
section
variable {P : Program} {L L' : List (Nat × MT)} {B B' : List BX} {x y : Operand} {u v : List Nat} {t ty : TypeId} {τ τ' : MT} {n b i j d : Nat} {k : Option Nat}
variable {W0 : World} {G0 : Gh} {N : Nat} {a : Act} {w : World} {G : Gh} {Q : Exit → Act → World → Prop} {pre : Prop} {rest : List Oper} {arr : Array Oper} {pos : String} {aft : Array Edge} {r ib c : Nat} {es : Array MapEntry} {seen : Array Nat} {e : MapEntry}
abbrev ITP (ib : Nat) : MT:=.ex (.pointer (some ⟨ib,0,none⟩))
theorem range [mi : MapI P t] [h : Lk L d (.ex (.map (some r)))] {d' : Nat} (hG : G0 r = some (.map es c)) (K : ∀ ib a w G, StX ib (.mapIter (some r) c #[] c) W0 G0 N ((d', ITP ib) :: L) B a w G → wpList P arr Q rest a w) (hdN : (decide (d' < N)) = true := by rfl) (hf : fresh d' L = true := by rfl) :
    St W0 G0 N L B a w G → wpList P arr Q (⟨some d',.range t (.tmp d),ty,pos,aft,none⟩ :: rest) a w:=fun S =>
  wpList_plain rfl fun K' hK=>by
    unfold Oper.wp
    obtain ⟨kt,et,hm,hd⟩:=mi.h
    have hd' : a.eval (.tmp d) = .map (some r):=S.mem h.m
    have hr : (execOp a.eval ⟨some d',.range t (.tmp d),ty,pos,aft,none⟩).run P w = .ok (.value (.pointer (some ⟨w.heap.size,0,none⟩))) (w.alloc (.mapIter (some r) c #[] c)):=by
      have h1:=run_range_map (P:=P) w t kt et r es c hm (S.ok _ _ (S.nxt.le _ _ hG))
      simp only [execOp,hd']
      simp [h1,Result.andThen]
    rw [hr]
    have hn:=Nxt.alloc S.ok (.mapIter (some r) c #[] c)
    refine hK _ _ (K w.heap.size _ _ _ ⟨S.put (of_decide_eq_true hdN) hf rfl hn,S.nxt.below.size,S.ok.none (Nat.le_refl _),fun x hx e=>?_,heap_alloc_new w _⟩)
    obtain ⟨m,hm⟩:=List.mem_iff_getElem?.1 hx
    have:=(S.bx m x hm).lt
    omega
def Hd (ib r c : Nat) (W0 : World) (G0 : Gh) (N : Nat) (Lh : List (Nat × MT)) (Bh : Array Nat → List BX) (seen : Array Nat) (a : Act) (w : World) : Prop:=∃ G,StX ib (.mapIter (some r) c seen c) W0 G0 N Lh (Bh seen) a w G
theorem lp {cd : Code} (es : Array MapEntry) (Lh : List (Nat × MT)) (Bh : Array Nat → List BX) (hB : B = Bh #[]) (hL : ∀ p ∈ Lh, p ∈ L)
    (round : ∀ seen a w G,StX ib (.mapIter (some r) c seen c) W0 G0 N Lh (Bh seen) a w G → cd.wp P (Exit.then (fun a w=>∃ seen',(leftOf es seen').size < (leftOf es seen).size ∧ Hd ib r c W0 G0 N Lh Bh seen' a w) Q) a w) :
    StX ib (.mapIter (some r) c #[] c) W0 G0 N L B a w G → (Code.loop cd).wp P Q a w:=fun S =>
  wp_loopJ (fun μ a w=>∃ seen,μ = (leftOf es seen).size ∧ Hd ib r c W0 G0 N Lh Bh seen a w) (leftOf es #[]).size ⟨#[],rfl,G,hB ▸ S.weak hL⟩ fun μ a w ⟨seen,e,G,S⟩=>by
    subst e
    refine Code.wp_mono ?_ (round seen a w G S)
    intro e a w h
    cases e <;> first | exact h | skip
    obtain ⟨y,h1,h2⟩:=h
    exact ⟨_,h1,y,rfl,h2⟩
theorem ag {Lh : List (Nat × MT)} {Bh : Array Nat → List BX} (hB : B = Bh (seen.push e.born)) (he : e ∈ (leftOf es seen).toList) (hL : ∀ p ∈ Lh, p ∈ L) :
    StX ib (.mapIter (some r) c (seen.push e.born) c) W0 G0 N L B a w G → Exit.then (fun a w=>∃ seen',(leftOf es seen').size < (leftOf es seen).size ∧ Hd ib r c W0 G0 N Lh Bh seen' a w) Q .normal a w:=fun S =>
  ⟨_,left_shrinks es seen e he,G,hB ▸ S.weak hL⟩
theorem out {id : Nat} {ob : Obj} (K : St W0 G0 N L B a w G → (Code.exit id).wp P Q a w) : StX r ob W0 G0 N L B a w G → (Code.exit id).wp P Q a w:=fun S=>K S.s
instance Op1.ex1 [h : Opd L x (.ex (.tuple #[.bool false])) u] : Op1 P L B (.extract x 0) True (BT false) u:=⟨fun ho hok e' _ _=>.run hok (by simp [execOp,ho,show _ = _ from h.h e',Instr.extract]) rfl⟩
end
end X
end Go.Proofs.YtnjbcjmkkejfpaaGreatDoor
namespace Go.Proofs.YtnjbcjmkkejfpaaGreatDoor
open Go.Shelf
def laysItoa_ren : Go.Shelf.Ren:=⟨fun | 171=>151 | 243=>176 | 246=>197 | 283=>205 | 284=>206 | 285=>207 | 286=>208 | 129=>212 | 317=>211 | 318=>213 | 319=>214 | 320=>215 | 337=>216 | 338=>217 | n=>n,fun | 3=>3 | 9=>9 | 2=>2 | 4=>4 | 171=>218 | 0=>0 | 53=>169 | 37=>199 | 5=>5 | 173=>221 | 212=>228 | 51=>156 | 20=>20 | 213=>229 | 46=>170 | 232=>232 | 233=>233 | n=>n,fun | 17=>0 | 18=>2 | 19=>3 | n=>n⟩
theorem laysItoa : Go.Proofs.LaysM.n171 Tryz.prog laysItoa_ren:={
  mixed:=by kernel_rfl
  f129:=Tryz.func212.trans (congrArg some (by kernel_rfl))
  f171:=Tryz.func151.trans (congrArg some (by kernel_rfl))
  f243:=Tryz.func176.trans (congrArg some (by kernel_rfl))
  f246:=Tryz.func197.trans (congrArg some (by kernel_rfl))
  f283:=Tryz.func205.trans (congrArg some (by kernel_rfl))
  f284:=Tryz.func206.trans (congrArg some (by kernel_rfl))
  f285:=Tryz.func207.trans (congrArg some (by kernel_rfl))
  f286:=Tryz.func208.trans (congrArg some (by kernel_rfl))
  f317:=Tryz.func211.trans (congrArg some (by kernel_rfl))
  f318:=Tryz.func213.trans (congrArg some (by kernel_rfl))
  f319:=Tryz.func214.trans (congrArg some (by kernel_rfl))
  f320:=Tryz.func215.trans (congrArg some (by kernel_rfl))
  f337:=Tryz.func216.trans (congrArg some (by kernel_rfl))
  f338:=Tryz.func217.trans (congrArg some (by kernel_rfl))
  t0:=Tryz.underlying0
  a0:=Tryz.isAgg0
  z0:=Tryz.sizeOf0
  v0:=Tryz.zeroValue0
  t2:=Tryz.underlying2
  a2:=Tryz.isAgg2
  z2:=Tryz.sizeOf2
  v2:=Tryz.zeroValue2
  t3:=Tryz.underlying3
  a3:=Tryz.isAgg3
  z3:=Tryz.sizeOf3
  v3:=Tryz.zeroValue3
  t4:=Tryz.underlying4
  a4:=Tryz.isAgg4
  z4:=Tryz.sizeOf4
  v4:=Tryz.zeroValue4
  t5:=Tryz.underlying5
  a5:=Tryz.isAgg5
  z5:=Tryz.sizeOf5
  v5:=Tryz.zeroValue5
  t9:=Tryz.underlying9
  a9:=Tryz.isAgg9
  z9:=Tryz.sizeOf9
  v9:=Tryz.zeroValue9
  t20:=Tryz.underlying20
  a20:=Tryz.isAgg20
  z20:=Tryz.sizeOf20
  v20:=Tryz.zeroValue20
  t37:=Tryz.underlying199
  a37:=Tryz.isAgg199
  z37:=Tryz.sizeOf199
  v37:=Tryz.zeroValue199
  t46:=Tryz.underlying170
  a46:=Tryz.isAgg170
  z46:=Tryz.sizeOf170
  v46:=Tryz.zeroValue170
  t51:=Tryz.underlying156
  a51:=Tryz.isAgg156
  z51:=Tryz.sizeOf156
  v51:=Tryz.zeroValue156
  t53:=Tryz.underlying169
  a53:=Tryz.isAgg169
  z53:=Tryz.sizeOf169
  v53:=Tryz.zeroValue169
  t171:=Tryz.underlying218
  a171:=Tryz.isAgg218
  z171:=Tryz.sizeOf218
  v171:=Tryz.zeroValue218
  t173:=Tryz.underlying221
  a173:=Tryz.isAgg221
  z173:=Tryz.sizeOf221
  v173:=Tryz.zeroValue221
  t212:=Tryz.underlying228
  a212:=Tryz.isAgg228
  z212:=Tryz.sizeOf228
  v212:=Tryz.zeroValue228
  t213:=Tryz.underlying229
  a213:=Tryz.isAgg229
  z213:=Tryz.sizeOf229
  t232:=Tryz.underlying232
  a232:=Tryz.isAgg232
  z232:=Tryz.sizeOf232
  v232:=Tryz.zeroValue232
  t233:=Tryz.underlying233
  a233:=Tryz.isAgg233
  z233:=Tryz.sizeOf233
  v233:=Tryz.zeroValue233
  g17:=by kernel_rfl
  g18:=by kernel_rfl
  g19:=by kernel_rfl
  i0:=by kernel_rfl
  i2:=by kernel_rfl
  i3:=by kernel_rfl
  i4:=by kernel_rfl
  i5:=by kernel_rfl
  i9:=by kernel_rfl
  i20:=by kernel_rfl
  i37:=by kernel_rfl
  i46:=by kernel_rfl
  i51:=by kernel_rfl
  i53:=by kernel_rfl
  i171:=by kernel_rfl
  i173:=by kernel_rfl
  i212:=by kernel_rfl
  i232:=by kernel_rfl
  i233:=by kernel_rfl
  m17:=by kernel_rfl
  m18:=by kernel_rfl
  m19:=by kernel_rfl }
end Go.Proofs.YtnjbcjmkkejfpaaGreatDoor
