import Derived.ChangeArms
import Derived.SizedLaws
import Derived.WideShapes
import Derived.Test.YtpbkcbnghhodiaaGreatQd
set_option linter.unusedVariables false
set_option linter.unusedSimpArgs false
namespace Go.Proofs.YtpbkcbnghhodiaaGreat
open Go.RowKit (Below)
theorem map_of4 (a b c d : Rat) : [FR.of a,FR.of b,FR.of c,FR.of d].map FR.val = [a,b,c,d]:=by simp [FR.of_val]
theorem posR_of4 (a : Rat) : posR (FR.of a) = decide (0 < a):=by unfold posR;rw [FR.of_ok,FR.of_val,Bool.true_and]
theorem lk_of4 (a b c d : Rat) (j : Nat) : lk [FR.of a,FR.of b,FR.of c,FR.of d] j = [a,b,c,d].getD ((orderF [a,b,c,d]).getD j default) default:=by
  unfold lk;rw [map_of4]
  have h:=orderF_lt [a,b,c,d] j
  generalize (orderF [a,b,c,d]).getD j default = i at h
  match i,h with
  | 0,_=>exact FR.of_val a
  | 1,_=>exact FR.of_val b
  | 2,_=>exact FR.of_val c
  | 3,_=>exact FR.of_val d
theorem ex_chk : chkF [FR.of 16,FR.of 1,FR.of 9,FR.of 9] = 0:=by
  unfold chkF;simp only [lk_of4,List.all_cons,List.all_nil,posR_of4];decide +kernel
end Go.Proofs.YtpbkcbnghhodiaaGreat
namespace Go.Proofs.YtpbkcbnghhodiaaGreat
end Go.Proofs.YtpbkcbnghhodiaaGreat
namespace Go.Proofs.YtpbkcbnghhodiaaGreat
open Go.RowKit (Below)
def surdF (x y d : Rat) : Int :=
  if x.num.sign = 0 ∨ y.num.sign * d.num.sign = 0 ∨ x.num.sign = y.num.sign * d.num.sign then (if x.num.sign = 0 then y.num.sign * d.num.sign else x.num.sign) else x.num.sign * cmpQ (x * x) (y * y * d)
def surdsF (x y d z e : Rat) : Int :=
  if surdF x y d = 0 ∨ z.num.sign * e.num.sign = 0 ∨ surdF x y d = z.num.sign * e.num.sign then (if surdF x y d = 0 then z.num.sign * e.num.sign else surdF x y d) else surdF x y d * surdF (x * x + y * y * d - z * z * e) (2 * (x * y)) d
theorem surd_mixed {x y d : Rat} : surdF x y d = mixedF x y d:=by
  unfold surdF mixedF
  generalize x.num.sign = s;generalize y.num.sign * d.num.sign = t;generalize cmpQ (x * x) (y * y * d) = c
  by_cases h1 : s = 0
  · rw [if_pos (.inl h1),if_pos h1,if_pos (.inl h1)]
  · by_cases h2 : s = t
    · rw [if_pos (.inr (.inr h2)),if_neg h1,if_pos (.inr h2),h2]
    · by_cases h3 : t = 0
      · rw [if_pos (.inr (.inl h3)),if_neg h1,if_neg (by omega),if_pos h3]
      · rw [if_neg (by omega),if_neg (by omega),if_neg h3]
theorem surd_sg {x y d : Rat} (hd : 0 ≤ d) : surdF x y d = sgR (RR.of x + RR.of y * rt d):=by rw [surd_mixed];exact mixed_sg hd
theorem surds_sg {x y d z e : Rat} (hd : 0 ≤ d) (he : 0 ≤ e) : surdsF x y d z e = sgR (RR.of x + RR.of y * rt d + RR.of z * rt e):=by
  unfold surdsF
  rw [surd_sg hd,surd_sg hd,sgR_add (u:=RR.of x + RR.of y * rt d)]
  rw [sgR_mul (RR.of z),sgR_of z,sgR_rt he]
  have hq : (RR.of x + RR.of y * rt d) * (RR.of x + RR.of y * rt d) - RR.of z * rt e * (RR.of z * rt e) = RR.of (x * x + y * y * d - z * z * e) + RR.of (2 * (x * y)) * rt d:=by
    have e1 : RR.of (x * x + y * y * d - z * z * e) = RR.of x * RR.of x + RR.of y * RR.of y * (rt d * rt d) - RR.of z * RR.of z * (rt e * rt e):=by
      rw [rt_sq hd,rt_sq he,RR.of_sub,RR.of_add,RR.of_mul,RR.of_mul,RR.of_mul,RR.of_mul,RR.of_mul]
    rw [e1,RR.of_mul,RR.of_mul]
    generalize RR.of x = a;generalize RR.of y = b;generalize rt d = c;generalize RR.of z = f;generalize rt e = g
    obtain ⟨a,ha,rfl⟩:=RR.rep a;obtain ⟨b,hb,rfl⟩:=RR.rep b;obtain ⟨c,hc,rfl⟩:=RR.rep c;obtain ⟨f,hf,rfl⟩:=RR.rep f;obtain ⟨g,hg,rfl⟩:=RR.rep g
    exact RR.ext fun n=>by grind
  rw [hq]
  generalize sgR (RR.of x + RR.of y * rt d) = s;generalize z.num.sign * e.num.sign = t;generalize sgR (RR.of (x * x + y * y * d - z * z * e) + RR.of (2 * (x * y)) * rt d) = c
  by_cases h1 : s = 0
  · rw [if_pos (.inl h1),if_pos h1,if_pos (.inl h1)]
  · by_cases h2 : s = t
    · rw [if_pos (.inr (.inr h2)),if_neg h1,if_pos (.inr h2),h2]
    · by_cases h3 : t = 0
      · rw [if_pos (.inr (.inl h3)),if_neg h1,if_neg (by omega),if_pos h3]
      · rw [if_neg (by omega),if_neg (by omega),if_neg h3]
theorem surd_bd (x y d : Rat) : -1 ≤ surdF x y d ∧ surdF x y d ≤ 1:=by
  have h0:=sgn_cases x.num;have h1:=sgn_cases y.num;have h2:=sgn_cases d.num
  have h3:=cmpQ_cases (x * x) (y * y * d)
  unfold surdF
  rcases h0 with ⟨_,e0⟩ | ⟨_,e0⟩ | ⟨_,e0⟩ <;> rcases h1 with ⟨_,e1⟩ | ⟨_,e1⟩ | ⟨_,e1⟩ <;> rcases h2 with ⟨_,e2⟩ | ⟨_,e2⟩ | ⟨_,e2⟩ <;> rcases h3 with e3 | e3 | e3 <;> rw [e0,e1,e2,e3] <;> decide
theorem surd_mul_bd (x y d x' y' d' : Rat) : -9223372036854775808 ≤ surdF x y d * surdF x' y' d' ∧ surdF x y d * surdF x' y' d' ≤ 9223372036854775807:=by
  have h1:=surd_bd x y d;have h2:=surd_bd x' y' d'
  generalize surdF x y d = u at *;generalize surdF x' y' d' = v at *
  have : (u = -1 ∨ u = 0 ∨ u = 1):=by omega
  rcases this with h | h | h <;> subst h <;> omega
theorem val_default : (default : FR).val = 0:=by
  show qval false [] [] = 0;simp [qval]
end Go.Proofs.YtpbkcbnghhodiaaGreat
namespace Go.Proofs.YtpbkcbnghhodiaaGreat
open Go.RowKit (Below)
theorem posR_val {r : FR} (h : posR r = true) : 0 < r.val:=by unfold posR at h;simp at h;exact h.2
theorem vals_pos {l : List FR} (h : l.all posR = true) (j : Nat) : 0 ≤ (l.getD j default).val:=by
  rw [List.getD_eq_getElem?_getD]
  cases hj : l[j]? with
  | none=>show 0 ≤ (default : FR).val;rw [val_default];exact Rat.le_refl
  | some z=>have:=posR_val (List.all_eq_true.1 h z (List.mem_of_getElem? hj));show 0 ≤ z.val;grind
theorem lk_nn {l : List FR} (h : l.all posR = true) (j : Nat) : 0 ≤ lk l j:=vals_pos h _
end Go.Proofs.YtpbkcbnghhodiaaGreat
namespace Go.Proofs.YtpbkcbnghhodiaaGreat
open Go.RowKit (Below)
def befR (xs : List Rat) (p q : Nat) : Prop:=if p < q then xs.getD p default ≤ xs.getD q default else xs.getD p default < xs.getD q default
theorem cmpQ_lt0 {x y : Rat} : cmpQ x y < 0 ↔ x < y:=by unfold cmpQ;split <;> (try split) <;> simp_all
section
variable {xs : List Rat} {p q i j k m : Nat}
theorem bef_t (hpq : q < p) (h : cmpQ (xs.getD p default) (xs.getD q default) < 0) : befR xs p q:=by unfold befR;rw [if_neg (by omega)];exact cmpQ_lt0.1 h
theorem bef_f (hpq : q < p) (h : ¬ cmpQ (xs.getD p default) (xs.getD q default) < 0) : befR xs q p:=by unfold befR;rw [if_pos hpq];rw [cmpQ_lt0] at h;exact Rat.not_lt.1 h
theorem ins1 : insF xs 1 [i,j,k,m] = if cmpQ (xs.getD j default) (xs.getD i default) < 0 then [j,i,k,m] else [i,j,k,m]:=rfl
theorem ins2 : insF xs 2 [i,j,k,m] = if cmpQ (xs.getD k default) (xs.getD j default) < 0 then insF xs 1 [i,k,j,m] else [i,j,k,m]:=rfl
theorem ins3 : insF xs 3 [i,j,k,m] = if cmpQ (xs.getD m default) (xs.getD k default) < 0 then insF xs 2 [i,j,m,k] else [i,j,k,m]:=rfl
theorem ins1_spec (hj : i < j) : (insF xs 1 [i,j,k,m] = [j,i,k,m] ∧ befR xs j i) ∨ (insF xs 1 [i,j,k,m] = [i,j,k,m] ∧ befR xs i j):=by
  rw [ins1];split
  · exact .inl ⟨rfl,bef_t hj ‹_›⟩
  · exact .inr ⟨rfl,bef_f hj ‹_›⟩
theorem ins2_spec (hi : i < k) (hj : j < k) (h : befR xs i j) : (insF xs 2 [i,j,k,m] = [k,i,j,m] ∧ befR xs k i ∧ befR xs i j) ∨ (insF xs 2 [i,j,k,m] = [i,k,j,m] ∧ befR xs i k ∧ befR xs k j) ∨ (insF xs 2 [i,j,k,m] = [i,j,k,m] ∧ befR xs i j ∧ befR xs j k):=by
  rw [ins2];split
  · rename_i h1
    rcases ins1_spec (xs:=xs) (k:=j) (m:=m) hi with ⟨e,b⟩ | ⟨e,b⟩
    · exact .inl ⟨e,b,h⟩
    · exact .inr (.inl ⟨e,b,bef_t hj h1⟩)
  · exact .inr (.inr ⟨rfl,h,bef_f hj ‹_›⟩)
theorem ins3_spec (hi : i < m) (hj : j < m) (hk : k < m) (h1 : befR xs i j) (h2 : befR xs j k) : (insF xs 3 [i, j, k, m] = [m, i, j, k] ∧ befR xs m i ∧ befR xs i j ∧ befR xs j k) ∨ (insF xs 3 [i, j, k, m] = [i, m, j, k] ∧ befR xs i m ∧ befR xs m j ∧ befR xs j k) ∨
    (insF xs 3 [i,j,k,m] = [i,j,m,k] ∧ befR xs i j ∧ befR xs j m ∧ befR xs m k) ∨ (insF xs 3 [i,j,k,m] = [i,j,k,m] ∧ befR xs i j ∧ befR xs j k ∧ befR xs k m):=by
  rw [ins3];split
  · rename_i h
    rcases ins2_spec (xs:=xs) (m:=k) hi hj h1 with ⟨e,b1,b2⟩ | ⟨e,b1,b2⟩ | ⟨e,b1,b2⟩
    · exact .inl ⟨e,b1,b2,h2⟩
    · exact .inr (.inl ⟨e,b1,b2,h2⟩)
    · exact .inr (.inr (.inl ⟨e,b1,b2,bef_t hk h⟩))
  · exact .inr (.inr (.inr ⟨rfl,h1,h2,bef_f hk ‹_›⟩))
end
def ordO (xs : List Rat) (o : List Nat) : Prop:=∃ i j k m,o = [i,j,k,m] ∧ [i,j,k,m].Perm [0,1,2,3] ∧ befR xs i j ∧ befR xs j k ∧ befR xs k m
theorem order_ok (xs : List Rat) : ordO xs (orderF xs):=by
  have e : orderF xs = insF xs 3 (insF xs 2 (insF xs 1 [0,1,2,3])):=rfl
  rw [e]
  rcases ins1_spec (xs:=xs) (i:=0) (j:=1) (k:=2) (m:=3) (by decide) with ⟨e1,b1⟩ | ⟨e1,b1⟩ <;> rw [e1]
  · rcases ins2_spec (xs:=xs) (i:=1) (j:=0) (k:=2) (m:=3) (by decide) (by decide) b1 with ⟨e2,c1,c2⟩ | ⟨e2,c1,c2⟩ | ⟨e2,c1,c2⟩ <;> rw [e2]
    all_goals rcases ins3_spec (xs:=xs) (m:=3) (by decide) (by decide) (by decide) c1 c2 with ⟨e3,d1,d2,d3⟩ | ⟨e3,d1,d2,d3⟩ | ⟨e3,d1,d2,d3⟩ | ⟨e3,d1,d2,d3⟩ <;> exact ⟨_,_,_,_,e3,by decide,d1,d2,d3⟩
  · rcases ins2_spec (xs:=xs) (i:=0) (j:=1) (k:=2) (m:=3) (by decide) (by decide) b1 with ⟨e2,c1,c2⟩ | ⟨e2,c1,c2⟩ | ⟨e2,c1,c2⟩ <;> rw [e2]
    all_goals rcases ins3_spec (xs:=xs) (m:=3) (by decide) (by decide) (by decide) c1 c2 with ⟨e3,d1,d2,d3⟩ | ⟨e3,d1,d2,d3⟩ | ⟨e3,d1,d2,d3⟩ | ⟨e3,d1,d2,d3⟩ <;> exact ⟨_,_,_,_,e3,by decide,d1,d2,d3⟩
theorem bef_le {xs : List Rat} {p q : Nat} (h : befR xs p q) : xs.getD p default ≤ xs.getD q default:=by
  unfold befR at h;split at h
  · exact h
  · grind
theorem bef_trans {xs : List Rat} {p q r : Nat} (h : befR xs p q) (k : befR xs q r) : befR xs p r:=by
  unfold befR at *
  split at h <;> split at k <;> split <;> first | grind | omega
theorem bef_asymm {xs : List Rat} {p q : Nat} (h : befR xs p q) (k : befR xs q p) : False:=by
  unfold befR at *
  split at h <;> split at k <;> first | grind | omega
theorem ordO_uniq {xs : List Rat} {o o' : List Nat} (h : ordO xs o) (h' : ordO xs o') : o = o':=by
  obtain ⟨i,j,k,m,rfl,hp,b1,b2,b3⟩:=h
  obtain ⟨i',j',k',m',rfl,hp',c1,c2,c3⟩:=h'
  have hperm:=hp.trans hp'.symm
  have hs : ∀ {i j k m : Nat},befR xs i j → befR xs j k → befR xs k m → [i,j,k,m].Pairwise (befR xs):=fun b1 b2 b3=>by
    simp only [List.pairwise_cons,List.mem_cons,List.not_mem_nil,or_false,forall_eq_or_imp,forall_eq,List.Pairwise.nil,and_true]
    exact ⟨⟨b1,bef_trans b1 b2,bef_trans (bef_trans b1 b2) b3⟩,⟨b2,bef_trans b2 b3⟩,b3,by simp⟩
  exact hperm.eq_of_pairwise (le:=befR xs) (fun a b _ _ h k=>(bef_asymm h k).elim) (hs b1 b2 b3) (hs c1 c2 c3)
end Go.Proofs.YtpbkcbnghhodiaaGreat
namespace Go.Proofs.YtpbkcbnghhodiaaGreat
open Go.RowKit (Below)
theorem sgR_le {x y : RR} : sgR (x - y) ≤ 0 ↔ x ≤ y:=by
  rcases sgR_cases (x - y) with ⟨h,e⟩ | ⟨h,e⟩ | ⟨h,e⟩ <;> rw [e]
  · refine ⟨fun _=>RR.le_of_lt (RR.lt_iff_sub.2 ?_),fun _=>by decide⟩
    rw [← RR.neg_sub];exact RR.neg_pos.2 h
  · refine ⟨fun _=>?_,fun _=>by decide⟩
    rw [← RR.sub_add x y,h,RR.zero_add];exact RR.le_refl _
  · refine ⟨fun h2=>absurd h2 (by decide),fun h2=>?_⟩
    have h3 : y < x:=RR.lt_iff_sub.2 h
    exact absurd h2 h3
theorem sgR_ge {x y : RR} : sgR (x - y) ≥ 0 ↔ y ≤ x:=by
  rw [← RR.neg_sub,sgR_negate]
  have:=@sgR_le y x
  constructor
  · intro h;exact this.1 (by omega)
  · intro h;have:=this.2 h;omega
section
variable {a b c d s p q m : Rat}
theorem min_comm : minQ a b = minQ b a:=by unfold minQ;split <;> split <;> grind
variable (h0 : 0 ≤ s) (h1 : s ≤ p) (h2 : p ≤ q) (h3 : q ≤ m)
include h0 h1 h2 h3
end
end Go.Proofs.YtpbkcbnghhodiaaGreat
namespace Go.Proofs.YtpbkcbnghhodiaaGreat
theorem sgR_nn {x : RR} : sgR x ≥ 0 ↔ 0 ≤ x:=by
  have:=@sgR_ge x 0
  rwa [RR.sub_zero] at this
theorem closes_iff {p q r s : Rat} (hp : 0 ≤ p) (hq : 0 ≤ q) (hr : 0 ≤ r) (hs : 0 ≤ s) (hsp : s ≤ p) : closesF p q r s = true ↔ rt p ≤ rt q + rt r + rt s:=by
  have hqr:=Rat.mul_nonneg hq hr
  have hps:=Rat.mul_nonneg hp hs
  have hv : 0 ≤ rt p - rt s:=RR.le_iff_sub.1 (rt_le hs hsp)
  have e1 : sgR (rt q + rt r + rt s - rt p) = sgR (RR.of (q + r - (p + s)) + RR.of 2 * rt (q * r) + RR.of 2 * rt (p * s)):=by
    have e0 : rt q + rt r + rt s - rt p = (rt q + rt r) - (rt p - rt s):=by
      generalize rt p = a;generalize rt q = b;generalize rt r = c;generalize rt s = d
      obtain ⟨f,hf,rfl⟩:=RR.rep a;obtain ⟨g,hg,rfl⟩:=RR.rep b;obtain ⟨k,hk,rfl⟩:=RR.rep c;obtain ⟨l,hl,rfl⟩:=RR.rep d
      exact RR.ext fun n=>by grind
    rw [e0,sgR_sq (RR.add_nn (rt_nn q) (rt_nn r)) hv,rt_mul hq hr,rt_mul hp hs]
    congr 1
    rw [RR.of_sub,RR.of_add,RR.of_add,← rt_sq hp,← rt_sq hq,← rt_sq hr,← rt_sq hs]
    generalize rt p = a;generalize rt q = b;generalize rt r = c;generalize rt s = d
    obtain ⟨f,hf,rfl⟩:=RR.rep a;obtain ⟨g,hg,rfl⟩:=RR.rep b;obtain ⟨k,hk,rfl⟩:=RR.rep c;obtain ⟨l,hl,rfl⟩:=RR.rep d
    exact RR.ext fun n=>by grind
  rw [← sgR_ge,e1]
  have m1:=mixed_sg (x:=q + r - (p + s)) (y:=2) hqr
  have m2:=mixed_sg (x:=(q + r - (p + s)) * (q + r - (p + s)) + 4 * (q * r) - 4 * (p * s)) (y:=4 * (q + r - (p + s))) hqr
  have ht : 0 ≤ RR.of 2 * rt (p * s):=RR.mul_nn (RR.of_le (p:=0) |>.2 (by decide)) (rt_nn _)
  unfold closesF
  by_cases h : mixedF (q + r - (p + s)) 2 (q * r) ≥ 0
  · rw [if_pos h]
    rw [m1] at h
    exact ⟨fun _=>sgR_nn.2 (RR.add_nn (sgR_nn.1 h) ht),fun _=>rfl⟩
  · rw [if_neg h,decide_eq_true_iff,m2]
    rw [m1,sgR_nn] at h
    have hw : 0 ≤ -(RR.of (q + r - (p + s)) + RR.of 2 * rt (q * r)):=RR.neg_nn.2 (RR.le_of_lt h)
    have e2 : sgR (RR.of (q + r - (p + s)) + RR.of 2 * rt (q * r) + RR.of 2 * rt (p * s)) = -sgR (RR.of ((q + r - (p + s)) * (q + r - (p + s)) + 4 * (q * r) - 4 * (p * s)) + RR.of (4 * (q + r - (p + s))) * rt (q * r)):=by
      have e3 : RR.of (q + r - (p + s)) + RR.of 2 * rt (q * r) + RR.of 2 * rt (p * s) = -(-(RR.of (q + r - (p + s)) + RR.of 2 * rt (q * r)) - RR.of 2 * rt (p * s)):=by
        generalize RR.of 2 * rt (p * s) = a;generalize RR.of (q + r - (p + s)) + RR.of 2 * rt (q * r) = b
        obtain ⟨f,hf,rfl⟩:=RR.rep a;obtain ⟨g,hg,rfl⟩:=RR.rep b
        exact RR.ext fun n=>by grind
      rw [e3,sgR_negate,sgR_sq hw ht]
      congr 2
      generalize q + r - (p + s) = X
      rw [RR.of_sub,RR.of_add,RR.of_mul,RR.of_mul 4,RR.of_mul 4,RR.of_mul 4,← rt_sq hqr,← rt_sq hps]
      generalize RR.of X = a;generalize rt (q * r) = b;generalize rt (p * s) = c
      obtain ⟨f,hf,rfl⟩:=RR.rep a;obtain ⟨g,hg,rfl⟩:=RR.rep b;obtain ⟨k,hk,rfl⟩:=RR.rep c
      exact RR.ext fun n=>by grind
    rw [e2];omega
end Go.Proofs.YtpbkcbnghhodiaaGreat
namespace Go.Proofs.YtpbkcbnghhodiaaGreat
def sw1 (xs : List Rat) (o : List Nat) (i : Nat) : List Nat:=if cmpQ (xs.getD (o.getD i default) default) (xs.getD (o.getD (i + 1) default) default) > 0 then (o.set i (o.getD (i + 1) default)).set (i + 1) (o.getD i default) else o
def bubP (xs : List Rat) (o : List Nat) : Nat → List Nat
  | 0=>o
  | k + 1=>sw1 xs (bubP xs o k) k
def bub (xs : List Rat) : Nat → List Nat
  | 0=>[0,1,2,3]
  | n + 1=>bubP xs (bub xs n) 3
theorem cmpQ_gt0 {x y : Rat} : cmpQ x y > 0 ↔ y < x:=by unfold cmpQ;split <;> (try split) <;> simp_all <;> grind
section
variable {xs : List Rat} {a b c d : Nat}
def st2 (xs : List Rat) (p q : Nat) : Prop:=xs.getD p default = xs.getD q default → p < q
def stb (xs : List Rat) (a b c d : Nat) : Prop:=st2 xs a b ∧ st2 xs a c ∧ st2 xs a d ∧ st2 xs b c ∧ st2 xs b d ∧ st2 xs c d
theorem bef_keep (h : st2 xs a b) (k : ¬ cmpQ (xs.getD a default) (xs.getD b default) > 0) : befR xs a b:=by
  rw [cmpQ_gt0] at k;unfold st2 at h;unfold befR;split
  · grind
  · rename_i n;rcases Rat.le_iff_lt_or_eq.1 (Rat.not_lt.1 k) with e | e
    · exact e
    · exact absurd (h e) n
theorem bef_swap (k : cmpQ (xs.getD a default) (xs.getD b default) > 0) : befR xs b a ∧ st2 xs b a:=by
  rw [cmpQ_gt0] at k
  refine ⟨?_,fun e=>by grind⟩
  unfold befR;split
  · grind
  · exact k
theorem sw_0 (h : stb xs a b c d) : (sw1 xs [a,b,c,d] 0 = [a,b,c,d] ∧ befR xs a b) ∨ (sw1 xs [a,b,c,d] 0 = [b,a,c,d] ∧ befR xs b a ∧ [b,a,c,d].Perm [a,b,c,d] ∧ stb xs b a c d):=by
  obtain ⟨h1,h2,h3,h4,h5,h6⟩:=h
  show ((if cmpQ (xs.getD a default) (xs.getD b default) > 0 then [b,a,c,d] else [a,b,c,d]) = _ ∧ _) ∨ ((if cmpQ (xs.getD a default) (xs.getD b default) > 0 then [b,a,c,d] else [a,b,c,d]) = _ ∧ _)
  by_cases k : cmpQ (xs.getD a default) (xs.getD b default) > 0
  · rw [if_pos k];exact .inr ⟨rfl,(bef_swap k).1,.swap ..,(bef_swap k).2,h4,h5,h2,h3,h6⟩
  · rw [if_neg k];exact .inl ⟨rfl,bef_keep h1 k⟩
theorem sw_1 (h : stb xs a b c d) : (sw1 xs [a,b,c,d] 1 = [a,b,c,d] ∧ befR xs b c) ∨ (sw1 xs [a,b,c,d] 1 = [a,c,b,d] ∧ befR xs c b ∧ [a,c,b,d].Perm [a,b,c,d] ∧ stb xs a c b d):=by
  obtain ⟨h1,h2,h3,h4,h5,h6⟩:=h
  show ((if cmpQ (xs.getD b default) (xs.getD c default) > 0 then [a,c,b,d] else [a,b,c,d]) = _ ∧ _) ∨ ((if cmpQ (xs.getD b default) (xs.getD c default) > 0 then [a,c,b,d] else [a,b,c,d]) = _ ∧ _)
  by_cases k : cmpQ (xs.getD b default) (xs.getD c default) > 0
  · rw [if_pos k];exact .inr ⟨rfl,(bef_swap k).1,.cons _ (.swap ..),h2,h1,h3,(bef_swap k).2,h6,h5⟩
  · rw [if_neg k];exact .inl ⟨rfl,bef_keep h4 k⟩
theorem sw_2 (h : stb xs a b c d) : (sw1 xs [a,b,c,d] 2 = [a,b,c,d] ∧ befR xs c d) ∨ (sw1 xs [a,b,c,d] 2 = [a,b,d,c] ∧ befR xs d c ∧ [a,b,d,c].Perm [a,b,c,d] ∧ stb xs a b d c):=by
  obtain ⟨h1,h2,h3,h4,h5,h6⟩:=h
  show ((if cmpQ (xs.getD c default) (xs.getD d default) > 0 then [a,b,d,c] else [a,b,c,d]) = _ ∧ _) ∨ ((if cmpQ (xs.getD c default) (xs.getD d default) > 0 then [a,b,d,c] else [a,b,c,d]) = _ ∧ _)
  by_cases k : cmpQ (xs.getD c default) (xs.getD d default) > 0
  · rw [if_pos k];exact .inr ⟨rfl,(bef_swap k).1,.cons _ (.cons _ (.swap ..)),h1,h3,h2,h5,h4,(bef_swap k).2⟩
  · rw [if_neg k];exact .inl ⟨rfl,bef_keep h6 k⟩
def top1 (xs : List Rat) (a b c d : Nat) : Prop:=befR xs a d ∧ befR xs b d ∧ befR xs c d
def top2 (xs : List Rat) (a b c d : Nat) : Prop:=top1 xs a b c d ∧ befR xs a c ∧ befR xs b c
def top3 (xs : List Rat) (a b c d : Nat) : Prop:=top2 xs a b c d ∧ befR xs a b
theorem pass_ok (h : stb xs a b c d) : ∃ a' b' c' d',bubP xs [a,b,c,d] 3 = [a',b',c',d'] ∧ [a',b',c',d'].Perm [a,b,c,d] ∧ stb xs a' b' c' d' ∧ top1 xs a' b' c' d' ∧ (top1 xs a b c d → top2 xs a' b' c' d') ∧ (top2 xs a b c d → top3 xs a' b' c' d'):=by
  have e : bubP xs [a,b,c,d] 3 = sw1 xs (sw1 xs (sw1 xs [a,b,c,d] 0) 1) 2:=rfl
  rw [e]
  have T:=@bef_trans xs
  have A:=@bef_asymm xs
  have p1:=List.Perm.refl [a,b,c,d]
  rcases sw_0 h with ⟨e1,b1⟩ | ⟨e1,b1,p,h⟩ <;> rw [e1]
  all_goals try replace p1:=p.trans p1
  all_goals rcases sw_1 h with ⟨e2,b2⟩ | ⟨e2,b2,p,h⟩ <;> rw [e2]
  all_goals try replace p1:=p.trans p1
  all_goals rcases sw_2 h with ⟨e3,b3⟩ | ⟨e3,b3,p,h⟩ <;> rw [e3]
  all_goals try replace p1:=p.trans p1
  all_goals refine ⟨_,_,_,_,rfl,p1,h,?_⟩
  all_goals unfold top3 top2 top1;clear p1 h e e1 e2 e3
  all_goals grind
end
theorem bub_ok (xs : List Rat) : bub xs 4 = orderF xs:=by
  obtain ⟨a,b,c,d,e1,p1,h1,t1,_⟩:=pass_ok (xs:=xs) (a:=0) (b:=1) (c:=2) (d:=3) ⟨fun _=>by decide,fun _=>by decide,fun _=>by decide,fun _=>by decide,fun _=>by decide,fun _=>by decide⟩
  obtain ⟨a2,b2,c2,d2,e2,p2,h2,_,t2,_⟩:=pass_ok h1
  obtain ⟨a3,b3,c3,d3,e3,p3,h3,_,_,t3⟩:=pass_ok h2
  obtain ⟨a4,b4,c4,d4,e4,p4,_,_,_,t4⟩:=pass_ok h3
  have ht:=t4 (t3 (t2 t1)).1
  have e : bub xs 4 = [a4,b4,c4,d4]:=by
    show bubP xs (bubP xs (bubP xs (bubP xs [0,1,2,3] 3) 3) 3) 3 = _
    rw [e1,e2,e3,e4]
  exact ordO_uniq ⟨a4,b4,c4,d4,e,p4.trans (p3.trans (p2.trans p1)),ht.2,ht.1.2.2,ht.1.1.2.2⟩ (order_ok xs)
theorem sw1_len {xs : List Rat} {o : List Nat} {i : Nat} : (sw1 xs o i).length = o.length:=by unfold sw1;split <;> simp
theorem sw1_lt {xs : List Rat} {o : List Nat} {i : Nat} (h : ∀ x ∈ o,x < 4) (ho : o.length = 4) (hi : i < 3) : ∀ x ∈ sw1 xs o i,x < 4:=by
  unfold sw1;split
  · intro x hx
    rcases List.mem_or_eq_of_mem_set hx with e | e
    · rcases List.mem_or_eq_of_mem_set e with e | e
      · exact h x e
      · rw [e];exact getD_lt h (by omega)
    · rw [e];exact getD_lt h (by omega)
  · exact h
end Go.Proofs.YtpbkcbnghhodiaaGreat
namespace Go.Proofs.YtpbkcbnghhodiaaGreat
theorem vgetD (l : List FR) (j : Nat) : (l.map FR.val).getD j default = (l.getD j default).val:=by
  rw [List.getD_eq_getElem?_getD,List.getD_eq_getElem?_getD,List.getElem?_map]
  cases l[j]? <;> rfl
theorem lkD (l : List FR) (j : Nat) : lk l j = (l.map FR.val).getD ((orderF (l.map FR.val)).getD j default) default:=by rw [vgetD];rfl
theorem bub_t {xs : List Rat} {o : List Nat} {j : Nat} (h : cmpQ (xs.getD ((bubP xs o j).getD j default) default) (xs.getD ((bubP xs o j).getD (j + 1) default) default) > 0) : ((bubP xs o j).set j ((bubP xs o j).getD (j + 1) default)).set (j + 1) ((bubP xs o j).getD j default) = bubP xs o (j + 1):=(if_pos h).symm
theorem bub_f {xs : List Rat} {o : List Nat} {j : Nat} (h : ¬ cmpQ (xs.getD ((bubP xs o j).getD j default) default) (xs.getD ((bubP xs o j).getD (j + 1) default) default) > 0) : bubP xs o j = bubP xs o (j + 1):=(if_neg h).symm
theorem bubP_n {xs : List Rat} {j : Nat} (hj : ¬ j < 3) (hk : j ≤ 3) (p : Nat) : bubP xs (bub xs p) j = bub xs (p + 1):=by
  obtain rfl : j = 3:=by omega
  rfl
theorem bubP_len {xs : List Rat} {o : List Nat} (ho : o.length = 4) : ∀ j,(bubP xs o j).length = 4
  | 0=>ho
  | j + 1=>sw1_len.trans (bubP_len ho j)
theorem bubP_lt {xs : List Rat} {o : List Nat} (ho : o.length = 4) (h : ∀ x ∈ o,x < 4) : ∀ j,j ≤ 3 → ∀ x ∈ bubP xs o j,x < 4
  | 0,_=>h
  | j + 1,hj=>sw1_lt (bubP_lt ho h j (by omega)) (bubP_len ho j) (by omega)
theorem bub_len {xs : List Rat} : ∀ p,(bub xs p).length = 4
  | 0=>rfl
  | p + 1=>bubP_len (bub_len p) 3
theorem bub_lt {xs : List Rat} : ∀ p,∀ x ∈ bub xs p,x < 4
  | 0=>fun x hx=>by simp [bub] at hx;omega
  | p + 1=>bubP_lt (bub_len p) (bub_lt p) 3 (by omega)
theorem lk_le23 (l : List FR) : lk l 2 ≤ lk l 3:=by
  obtain ⟨i,j,k,m,e,hp,b1,b2,b3⟩:=order_ok (l.map FR.val)
  rw [lkD,lkD,e];exact bef_le b3
def rcloseF (l : List FR) : Int:=surdsF (lk l 3 + lk l 0 - (lk l 1 + lk l 2)) (-2) (lk l 3 * lk l 0) (-2) (lk l 1 * lk l 2)
theorem rclose_eq {l : List FR} (h : l.all posR = true) : rcloseF l > 0 ↔ ¬ closesF (lk l 3) (lk l 0) (lk l 1) (lk l 2) = true:=by
  have h0:=lk_nn h 0;have h1:=lk_nn h 1;have h2:=lk_nn h 2;have h3:=lk_nn h 3
  have h30 : lk l 0 ≤ lk l 3:=by
    obtain ⟨i,j,k,m,e,hp,b1,b2,b3⟩:=order_ok (l.map FR.val)
    rw [lkD,lkD,e];exact bef_le (bef_trans b1 (bef_trans b2 b3))
  rw [closes_iff h3 h0 h1 h2 (lk_le23 l)]
  unfold rcloseF
  rw [surds_sg (Rat.mul_nonneg h3 h0) (Rat.mul_nonneg h1 h2),rt_mul h3 h0,rt_mul h1 h2]
  have e : RR.of (lk l 3 + lk l 0 - (lk l 1 + lk l 2)) + RR.of (-2) * (rt (lk l 3) * rt (lk l 0)) + RR.of (-2) * (rt (lk l 1) * rt (lk l 2)) = (rt (lk l 3) - rt (lk l 0)) * (rt (lk l 3) - rt (lk l 0)) - (rt (lk l 1) + rt (lk l 2)) * (rt (lk l 1) + rt (lk l 2)):=by
    rw [RR.of_sub,RR.of_add,RR.of_add,← rt_sq h0,← rt_sq h1,← rt_sq h2,← rt_sq h3,show RR.of (-2) = -RR.of 2 from rfl]
    generalize rt (lk l 3) = a;generalize rt (lk l 0) = b;generalize rt (lk l 1) = c;generalize rt (lk l 2) = d
    obtain ⟨f,hf,rfl⟩:=RR.rep a;obtain ⟨g,hg,rfl⟩:=RR.rep b;obtain ⟨k,hk,rfl⟩:=RR.rep c;obtain ⟨m,hm,rfl⟩:=RR.rep d
    exact RR.ext fun n=>by grind
  rw [e,← sgR_sq (RR.le_iff_sub.1 (rt_le h0 h30)) (RR.add_nn (rt_nn _) (rt_nn _))]
  have e2 : rt (lk l 0) + rt (lk l 1) + rt (lk l 2) - rt (lk l 3) = -(rt (lk l 3) - rt (lk l 0) - (rt (lk l 1) + rt (lk l 2))):=by
    generalize rt (lk l 3) = a;generalize rt (lk l 0) = b;generalize rt (lk l 1) = c;generalize rt (lk l 2) = d
    obtain ⟨f,hf,rfl⟩:=RR.rep a;obtain ⟨g,hg,rfl⟩:=RR.rep b;obtain ⟨k,hk,rfl⟩:=RR.rep c;obtain ⟨m,hm,rfl⟩:=RR.rep d
    exact RR.ext fun n=>by grind
  rw [← sgR_ge,e2,sgR_negate];omega
theorem rchk16 {l : List FR} (h : l.all posR = true) (k : rcloseF l > 0) : (16 : Int) = chkF l:=(chk16 h (Bool.eq_false_iff.2 ((rclose_eq h).1 k))).symm
theorem rchk0 {l : List FR} (h : l.all posR = true) (k : ¬ rcloseF l > 0) : (0 : Int) = chkF l:=(chk0 h (Classical.not_not.1 fun n=>k ((rclose_eq h).2 n))).symm
end Go.Proofs.YtpbkcbnghhodiaaGreat
set_option linter.unusedVariables false
set_option linter.unusedSimpArgs false
set_option maxHeartbeats 4000000
set_option maxRecDepth 100000
set_option synthInstance.maxSize 100000
set_option synthInstance.maxHeartbeats 400000
namespace Go.Proofs.YtpbkcbnghhodiaaGreat
open Go.RowKit (Below)
private theorem mixedOrders : Tryz.prog.follows .mixedOrders = true:=by kernel_rfl
theorem toNat_succ (n : Nat) : ((n : Int) + 1).toNat = n + 1:=by omega
theorem val_get' (l : List FR) (i : Nat) : (l.getD i default).val = (l.map FR.val).getD i default:=(val_get l i).symm
theorem w91 {n m k : Nat} {x y d : Rat} : Con Tryz.prog 91 [QV n x,QV m y,QV k d] (n + n + (m + m + k) + 1 ≤ BIG) (IT (surdF x y d)):=.o3 fun hok h1 h2 h3 hp=>by
  refine St.enter (N:=44) Tryz.func91 rfl rfl rfl hok (enter3 h1 h2 h3) fun a=>?_
  repeat' (first | refine W.run ?_ fun a w G=>?_ | refine W.mv fun a w G=>?_ | refine W.asg fun a w G=>?_ | refine W.bx fun b a w G=>?_ | (refine W.nn hK ?_;clear hK K) | refine W.reg fun K hK=>?_ | refine W.reg1 ?_ | refine W.nl ?_ | refine W.sq fun K hK=>?_ | refine W.ds ?_ (fun β a w G hu=>W.fin ?_ hu) mixedOrders (by kernel_rfl) | refine W.sk ?_ | (refine W.kn hK ?_;clear hK K) | refine W.cd (fun hc=>?_) (fun hc=>?_) | refine W.cb (fun hc=>?_) (fun hc=>?_) | refine W.al fun b a w G=>?_ | refine W.st fun w=>?_ | refine W.stp fun w=>?_ | refine W.ste ?_ fun w=>?_ | refine W.bl ?_ | refine W.bn ?_ | refine W.ex ?_ | refine W.xt ?_ | refine W.xb ?_ | refine W.xo ?_ | refine W.rt ?_ | refine W.tr ?_ | refine W.br ?_ | refine W.rt1 rfl ?_ | refine W.rt2 rfl ?_ ?_ | refine W.rt3 rfl ?_ ?_ ?_ | clear hK K | clear hu | exact True.intro | exact Nat.le_trans (by clear hp;omega) hp | exact Nat.le_trans (by clear hp;omega) hp.1 | exact Nat.le_trans (by clear hp;omega) hp.2 | (clear hp;omega) | apply And.intro | refine GI.i fun _=>?_ | with_reducible rfl | decide | (simp only [List.length_cons,List.length_nil];omega))
  all_goals first
    | exact (sg_mul_bd _ _).1
    | exact (sg_mul_bd _ _).2
    | exact (sg_cmp_bd _ _ _).1
    | exact (sg_cmp_bd _ _ _).2
    | exact (surd_mul_bd _ _ _ _ _ _).1
    | exact (surd_mul_bd _ _ _ _ _ _).2
    | (simp only [Bool.or_eq_true, Bool.or_eq_false_iff, decide_eq_true_eq, decide_eq_false_iff_not] at *
       first
       | (exfalso;omega)
       | (first | unfold surdsF | unfold surdF
          first | rw [if_pos (by omega),if_pos (by omega)] | rw [if_pos (by omega),if_neg (by omega)] | rw [if_neg (by omega)]))
    | skip
instance {n m k : Nat} {x y d : Rat} {τ1 : MT} [j1 : NQ τ1 (QV n x)] {τ2 : MT} [j2 : NQ τ2 (QV m y)] {τ3 : MT} [j3 : NQ τ3 (QV k d)] : Con Tryz.prog 91 [τ1,τ2,τ3] (n + n + (m + m + k) + 1 ≤ BIG) (IT (surdF x y d)):=.o3 fun hok h1 h2 h3 hp=>w91.c3 hok (j1.h h1) (j2.h h2) (j3.h h3) hp
theorem w58 {n m k l h : Nat} {x y d z e : Rat} : Con Tryz.prog 58 [QV n x,QV m y,QV k d,QV l z,QV h e] (8 * n + 8 * m + 8 * k + 8 * l + 8 * h + 1000 ≤ BIG) (IT (surdsF x y d z e)):=.o5 fun hok h1 h2 h3 h4 h5 hp=>by
  refine St.enter (N:=65) Tryz.func58 rfl rfl rfl hok (enter5 h1 h2 h3 h4 h5) fun a=>?_
  repeat' (first | refine W.run ?_ fun a w G=>?_ | refine W.mv fun a w G=>?_ | refine W.asg fun a w G=>?_ | refine W.bx fun b a w G=>?_ | (refine W.nn hK ?_;clear hK K) | refine W.reg fun K hK=>?_ | refine W.reg1 ?_ | refine W.nl ?_ | refine W.sq fun K hK=>?_ | refine W.ds ?_ (fun β a w G hu=>W.fin ?_ hu) mixedOrders (by kernel_rfl) | refine W.sk ?_ | (refine W.kn hK ?_;clear hK K) | refine W.cd (fun hc=>?_) (fun hc=>?_) | refine W.cb (fun hc=>?_) (fun hc=>?_) | refine W.al fun b a w G=>?_ | refine W.st fun w=>?_ | refine W.stp fun w=>?_ | refine W.ste ?_ fun w=>?_ | refine W.bl ?_ | refine W.bn ?_ | refine W.ex ?_ | refine W.xt ?_ | refine W.xb ?_ | refine W.xo ?_ | refine W.rt ?_ | refine W.tr ?_ | refine W.br ?_ | refine W.rt1 rfl ?_ | refine W.rt2 rfl ?_ ?_ | refine W.rt3 rfl ?_ ?_ ?_ | clear hK K | clear hu | exact True.intro | exact Nat.le_trans (by clear hp;omega) hp | exact Nat.le_trans (by clear hp;omega) hp.1 | exact Nat.le_trans (by clear hp;omega) hp.2 | (clear hp;omega) | apply And.intro | refine GI.i fun _=>?_ | with_reducible rfl | decide | (simp only [List.length_cons,List.length_nil];omega))
  all_goals first
    | exact (sg_mul_bd _ _).1
    | exact (sg_mul_bd _ _).2
    | exact (sg_cmp_bd _ _ _).1
    | exact (sg_cmp_bd _ _ _).2
    | exact (surd_mul_bd _ _ _ _ _ _).1
    | exact (surd_mul_bd _ _ _ _ _ _).2
    | (simp only [Bool.or_eq_true, Bool.or_eq_false_iff, decide_eq_true_eq, decide_eq_false_iff_not] at *
       first
       | (exfalso;omega)
       | (first | unfold surdsF | unfold surdF
          first | rw [if_pos (by omega),if_pos (by omega)] | rw [if_pos (by omega),if_neg (by omega)] | rw [if_neg (by omega)]))
    | skip
instance {n m k l h : Nat} {x y d z e : Rat} {τ1 : MT} [j1 : NQ τ1 (QV n x)] {τ2 : MT} [j2 : NQ τ2 (QV m y)] {τ3 : MT} [j3 : NQ τ3 (QV k d)] {τ4 : MT} [j4 : NQ τ4 (QV l z)] {τ5 : MT} [j5 : NQ τ5 (QV h e)] : Con Tryz.prog 58 [τ1,τ2,τ3,τ4,τ5] (8 * n + 8 * m + 8 * k + 8 * l + 8 * h + 1000 ≤ BIG) (IT (surdsF x y d z e)):=.o5 fun hok h1 h2 h3 h4 h5 hp=>w58.c5 hok (j1.h h1) (j2.h h2) (j3.h h3) (j4.h h4) (j5.h h5) hp
theorem w54 {n : Nat} {rg ra rb rc : FR} : Con Tryz.prog 54 [QUD n rg ra rb rc] (True) (AR 12 (some 3) ([rg,ra,rb,rc].map (FX n))):=.o1 fun hok h1 hp=>by
  refine St.enter (N:=12) Tryz.func54 rfl rfl rfl hok (enter1 h1) fun a=>?_
  repeat' (first | refine W.run ?_ fun a w G=>?_ | refine W.mv fun a w G=>?_ | refine W.asg fun a w G=>?_ | refine W.bx fun b a w G=>?_ | (refine W.nn hK ?_;clear hK K) | refine W.reg fun K hK=>?_ | refine W.reg1 ?_ | refine W.nl ?_ | refine W.sq fun K hK=>?_ | refine W.ds ?_ (fun β a w G hu=>W.fin ?_ hu) mixedOrders (by kernel_rfl) | refine W.sk ?_ | (refine W.kn hK ?_;clear hK K) | refine W.cd (fun hc=>?_) (fun hc=>?_) | refine W.cb (fun hc=>?_) (fun hc=>?_) | refine W.al fun b a w G=>?_ | refine W.st fun w=>?_ | refine W.stp fun w=>?_ | refine W.ste ?_ fun w=>?_ | refine W.bl ?_ | refine W.bn ?_ | refine W.ex ?_ | refine W.xt ?_ | refine W.xb ?_ | refine W.xo ?_ | refine W.rt ?_ | refine W.tr ?_ | refine W.br ?_ | refine W.rt1 rfl ?_ | refine W.rt2 rfl ?_ ?_ | refine W.rt3 rfl ?_ ?_ ?_ | clear hK K | clear hu | exact True.intro | exact Nat.le_trans (by clear hp;omega) hp | exact Nat.le_trans (by clear hp;omega) hp.1 | exact Nat.le_trans (by clear hp;omega) hp.2 | (clear hp;omega) | apply And.intro | refine GI.i fun _=>?_ | with_reducible rfl | decide | (simp only [List.length_cons,List.length_nil];omega))
instance {n : Nat} {rg ra rb rc : FR} {τ1 : MT} [j1 : NF τ1 (QUD n rg ra rb rc)] : Con Tryz.prog 54 [τ1] (True) (AR 12 (some 3) ([rg,ra,rb,rc].map (FX n))):=.o1 fun hok h1 hp=>w54.c1 hok (j1.h h1) hp
theorem w55 {n : Nat} {rg ra rb rc : FR} : Con Tryz.prog 55 [QUD n rg ra rb rc] (10 * n ≤ BIG) (AR 4 none ((orderF ([rg,ra,rb,rc].map FR.val)).map NT)):=.o1 fun hok h1 hp=>by
  refine St.enter (N:=42) Tryz.func55 rfl rfl rfl hok (enter1 h1) fun a=>?_
  have hn1:=qud_pos h1
  repeat' (first | refine W.run ?_ fun a w G=>?_ | refine W.mv fun a w G=>?_ | refine W.asg fun a w G=>?_ | refine W.bx fun b a w G=>?_ | (refine W.nn hK ?_;clear hK K) | refine W.reg fun K hK=>?_ | refine W.reg1 ?_ | refine W.nl ?_ | refine W.sq fun K hK=>?_ | refine W.ds ?_ (fun β a w G hu=>W.fin ?_ hu) mixedOrders (by kernel_rfl) | refine W.sk ?_ | (refine W.kn hK ?_;clear hK K) | refine W.cd (fun hc=>?_) (fun hc=>?_) | refine W.cb (fun hc=>?_) (fun hc=>?_) | refine W.al fun b a w G=>?_ | refine W.st fun w=>?_ | refine W.stp fun w=>?_ | refine W.ste ?_ fun w=>?_ | refine W.bl ?_ | refine W.bn ?_ | refine W.ex ?_ | refine W.xt ?_ | refine W.xb ?_ | refine W.xo ?_ | refine W.rt ?_ | refine W.tr ?_ | refine W.br ?_ | refine W.rt1 rfl ?_ | refine W.rt2 rfl ?_ ?_ | refine W.rt3 rfl ?_ ?_ ?_ | refine W.lp 10 (α:=Nat) (fun q=>4 - q) (fun q=>q ≤ 4) [5,9,10,11,12,13,14,15,16,17,18,19,20,21,22,23,24,25,26,27,28,29,30,31,32,33,34,35,36,37,38,39,40] (fun q=>[(9,NT q)]) (fun q=>[(4,ROWS none ((bub ([rg,ra,rb,rc].map FR.val) q).map NT))]) (0) ?_ ?_ ?_ fun q hq a w G=>?_ | refine W.ag (x:=q) (q+1) ?_ ?_ ?_ ?_ | refine W.lp 12 (α:=Nat) (fun r=>3 - r) (fun r=>r ≤ 3) [5,11,12,13,14,15,16,17,18,19,20,21,22,23,24,25,26,27,28,29,30,31,32,33,34,35,36,37,38,39] (fun r=>[(11,NT r)]) (fun r=>[(4,ROWS none ((bubP ([rg,ra,rb,rc].map FR.val) (bub ([rg,ra,rb,rc].map FR.val) q) r).map NT))]) (0) ?_ ?_ ?_ fun r hr a w G=>?_ | refine W.ag (x:=r) (r+1) ?_ ?_ ?_ ?_ | clear hK K | clear hu | exact True.intro | exact Nat.le_trans (by clear hp;omega) hp | exact Nat.le_trans (by clear hp;omega) hp.1 | exact Nat.le_trans (by clear hp;omega) hp.2 | (clear hp;omega) | apply And.intro | refine GI.i fun _=>?_ | with_reducible rfl | decide | (simp only [List.length_cons,List.length_nil];omega))
  all_goals (try simp only [toNat_succ,val_get',List.length_set,List.length_cons,List.length_nil] at *)
  all_goals first
    | omega
    | (have hql : (bubP ([rg, ra, rb, rc].map FR.val) (bub ([rg, ra, rb, rc].map FR.val) q) r).length = 4 := bubP_len (bub_len q) r
       first
       | omega
       | with_reducible exact getD_lt (bubP_lt (bub_len q) (bub_lt q) r hr) (by decide)
       | with_reducible exact bub_t hc
       | with_reducible exact bub_f hc
       | with_reducible exact bubP_n (by omega) hr q)
    | (obtain rfl : q = 4 := by omega
       first | with_reducible exact bub_ok _ | (rw [bub_ok,orderF_len];first | done | rfl))
    | rfl
    | skip
instance {n : Nat} {rg ra rb rc : FR} {τ1 : MT} [j1 : NF τ1 (QUD n rg ra rb rc)] : Con Tryz.prog 55 [τ1] (10 * n ≤ BIG) (AR 4 none ((orderF ([rg,ra,rb,rc].map FR.val)).map NT)):=.o1 fun hok h1 hp=>w55.c1 hok (j1.h h1) hp
theorem w27 {n : Nat} {rg ra rb rc : FR} : Con Tryz.prog 27 [QUD n rg ra rb rc] (1000 * n + 10000 ≤ BIG) (IT (chkF [rg,ra,rb,rc])):=.o1 fun hok h1 hp=>by
  refine St.enter (N:=65) Tryz.func27 rfl rfl rfl hok (enter1 h1) fun a=>?_
  have hn1:=qud_pos h1
  repeat' (first | refine W.run ?_ fun a w G=>?_ | refine W.mv fun a w G=>?_ | refine W.asg fun a w G=>?_ | refine W.bx fun b a w G=>?_ | (refine W.nn hK ?_;clear hK K) | refine W.reg fun K hK=>?_ | refine W.reg1 ?_ | refine W.nl ?_ | refine W.sq fun K hK=>?_ | refine W.ds ?_ (fun β a w G hu=>W.fin ?_ hu) mixedOrders (by kernel_rfl) | refine W.sk ?_ | (refine W.kn hK ?_;clear hK K) | refine W.cd (fun hc=>?_) (fun hc=>?_) | refine W.cb (fun hc=>?_) (fun hc=>?_) | refine W.al fun b a w G=>?_ | refine W.st fun w=>?_ | refine W.stp fun w=>?_ | refine W.ste ?_ fun w=>?_ | refine W.bl ?_ | refine W.bn ?_ | refine W.ex ?_ | refine W.xt ?_ | refine W.xb ?_ | refine W.xo ?_ | refine W.rt ?_ | refine W.tr ?_ | refine W.br ?_ | refine W.rt1 rfl ?_ | refine W.rt2 rfl ?_ ?_ | refine W.rt3 rfl ?_ ?_ ?_ | refine W.lp 17 (α:=Nat) (fun j=>4 - j) (fun j=>j ≤ 4 ∧ ([rg,ra,rb,rc].take j).all posR = true) [2,5,16,17,18,19,20,21,22,23,24,25,26,27] (fun j=>[(16,NT j)]) (fun j=>[]) (0) ?_ ?_ ?_ fun j hj a w G=>?_ | refine W.ag (x:=j) (j+1) ?_ ?_ ?_ ?_ | clear hK K | clear hu | exact True.intro | exact Nat.le_trans (by clear hp;omega) hp | exact Nat.le_trans (by clear hp;omega) hp.1 | exact Nat.le_trans (by clear hp;omega) hp.2 | (clear hp;omega) | apply And.intro | refine GI.i fun _=>?_ | with_reducible rfl | decide | (simp only [List.length_cons,List.length_nil];omega))
  all_goals (try simp only [List.length_cons,List.length_nil] at *)
  all_goals (have ho0:=orderF_lt ([rg,ra,rb,rc].map FR.val) 0;have ho1:=orderF_lt ([rg,ra,rb,rc].map FR.val) 1;have ho2:=orderF_lt ([rg,ra,rb,rc].map FR.val) 2;have ho3:=orderF_lt ([rg,ra,rb,rc].map FR.val) 3;have hol:=orderF_len ([rg,ra,rb,rc].map FR.val))
  all_goals first
    | omega
    | rfl
    | exact (chk3 (all_not (show j < 4 by omega) (posR_t hc))).symm
    | exact all_snoc (show j < 4 by omega) hj.2 (posR_f hc)
    | exact rchk16 (all_end (show ¬ j < 4 by omega) hj.2) hc
    | exact rchk0 (all_end (show ¬ j < 4 by omega) hj.2) hc
    | skip
instance {n : Nat} {rg ra rb rc : FR} {τ1 : MT} [j1 : NF τ1 (QUD n rg ra rb rc)] : Con Tryz.prog 27 [τ1] (1000 * n + 10000 ≤ BIG) (IT (chkF [rg,ra,rb,rc])):=.o1 fun hok h1 hp=>w27.c1 hok (j1.h h1) hp
end Go.Proofs.YtpbkcbnghhodiaaGreat
set_option linter.unusedVariables false
set_option linter.unusedSimpArgs false
set_option maxHeartbeats 4000000
set_option maxRecDepth 100000
set_option synthInstance.maxSize 100000
set_option synthInstance.maxHeartbeats 400000
namespace Go.Proofs.YtpbkcbnghhodiaaGreat
open Go.RowKit (Below)
instance {z : Int} : Con Tryz.prog 11 [.ex (errV 70 (z))] (True) (IT z):=.o1 fun hok h1 hp=>by
  refine St.enter (N:=15) Tryz.func11 rfl rfl rfl hok (enter1 h1) fun a=>?_
  repeat' (first | refine W.run ?_ fun a w G=>?_ | refine W.mv fun a w G=>?_ | refine W.asg fun a w G=>?_ | refine W.bx fun b a w G=>?_ | (refine W.nn hK ?_;clear hK K) | refine W.reg fun K hK=>?_ | refine W.reg1 ?_ | refine W.nl ?_ | refine W.sq fun K hK=>?_ | refine W.ds ?_ (fun β a w G hu=>W.fin ?_ hu) mixedOrders (by kernel_rfl) | refine W.sk ?_ | (refine W.kn hK ?_;clear hK K) | refine W.cd (fun hc=>?_) (fun hc=>?_) | refine W.cb (fun hc=>?_) (fun hc=>?_) | refine W.al fun b a w G=>?_ | refine W.st fun w=>?_ | refine W.stp fun w=>?_ | refine W.ste ?_ fun w=>?_ | refine W.bl ?_ | refine W.bn ?_ | refine W.ex ?_ | refine W.xt ?_ | refine W.xb ?_ | refine W.xo ?_ | refine W.rt ?_ | refine W.tr ?_ | refine W.br ?_ | refine W.rt1 rfl ?_ | refine W.rt2 rfl ?_ ?_ | refine W.rt3 rfl ?_ ?_ ?_ | clear hK K | clear hu | exact True.intro | exact Nat.le_trans (by clear hp;omega) hp | exact Nat.le_trans (by clear hp;omega) hp.1 | exact Nat.le_trans (by clear hp;omega) hp.2 | (clear hp;omega) | apply And.intro | refine GI.i fun _=>?_ | with_reducible rfl | decide | (simp only [List.length_cons,List.length_nil];omega))
  all_goals (exact absurd hc (by decide))
instance {z c : Int} : Con Tryz.prog 21 [.ex (errV 70 (z)),IT c] (True) (BT (decide (z = c))):=.o2 fun hok h1 h2 hp=>by
  refine St.enter (N:=9) Tryz.func21 rfl rfl rfl hok (enter2 h1 h2) fun a=>?_
  repeat' (first | refine W.run ?_ fun a w G=>?_ | refine W.mv fun a w G=>?_ | refine W.asg fun a w G=>?_ | refine W.bx fun b a w G=>?_ | (refine W.nn hK ?_;clear hK K) | refine W.reg fun K hK=>?_ | refine W.reg1 ?_ | refine W.nl ?_ | refine W.sq fun K hK=>?_ | refine W.ds ?_ (fun β a w G hu=>W.fin ?_ hu) mixedOrders (by kernel_rfl) | refine W.sk ?_ | (refine W.kn hK ?_;clear hK K) | refine W.cd (fun hc=>?_) (fun hc=>?_) | refine W.cb (fun hc=>?_) (fun hc=>?_) | refine W.al fun b a w G=>?_ | refine W.st fun w=>?_ | refine W.stp fun w=>?_ | refine W.ste ?_ fun w=>?_ | refine W.bl ?_ | refine W.bn ?_ | refine W.ex ?_ | refine W.xt ?_ | refine W.xb ?_ | refine W.xo ?_ | refine W.rt ?_ | refine W.tr ?_ | refine W.br ?_ | refine W.rt1 rfl ?_ | refine W.rt2 rfl ?_ ?_ | refine W.rt3 rfl ?_ ?_ ?_ | clear hK K | clear hu | exact True.intro | exact Nat.le_trans (by clear hp;omega) hp | exact Nat.le_trans (by clear hp;omega) hp.1 | exact Nat.le_trans (by clear hp;omega) hp.2 | (clear hp;omega) | apply And.intro | refine GI.i fun _=>?_ | with_reducible rfl | decide | (simp only [List.length_cons,List.length_nil];omega))
end Go.Proofs.YtpbkcbnghhodiaaGreat
namespace Go.Proofs.YtpbkcbnghhodiaaGreat
abbrev zFR : FR:=default
def dirC (h : Bool) (t : Rat) : Rat:=if h then -1 else (1 - t * t) / (1 + t * t)
def dirS (h : Bool) (t : Rat) : Rat:=if h then 0 else (t + t) / (1 + t * t)
theorem one_sq (t : Rat) : 1 + t * t ≠ 0:=by
  have : 0 ≤ t * t:=by
    rcases (Rat.le_total : 0 ≤ t ∨ t ≤ 0) with h | h
    · exact Rat.mul_nonneg h h
    · have:=Rat.mul_nonneg (show 0 ≤ -t by grind) (show 0 ≤ -t by grind);grind
  grind
def wayX (g a : Rat) (h : Bool) (t : Rat) : Rat:=g - a * dirC h t
def wayY (a : Rat) (h : Bool) (t : Rat) : Rat:=-(a * dirS h t)
def d2F (x y : Rat) : Rat:=x * x + y * y
def discF (b c d : Rat) : Rat:=4 * (b * c) - (b + c - d) * (b + c - d)
def dsc (g a b c : FR) (h : Bool) (t : Rat) : Rat:=discF b.val c.val (d2F (wayX g.val a.val h t) (wayY a.val h t))
def trnF (h : Bool) (t : FR) : Bool:=t.ok && (!h || decide (t.val.num.sign = 0))
def trnC (h : Bool) (t : FR) : Int:=if trnF h t then 0 else 2
def barC (l : List FR) : Int:=if l.all posR then 0 else 3
def sqF (g a b c : FR) : List FR:=[FR.of (g.val * g.val),FR.of (a.val * a.val),FR.of b.val,FR.of c.val]
def ciF (g a b c : FR) : Int:=if barC [g,a,b,c] = 0 then (if chkF (sqF g a b c) = 0 then (if g.val = a.val ∧ b.val = c.val then 15 else 0) else 16) else 3
def enR (g a b c : FR) : Int:=if ciF g a b c = 0 then (dsc g a b c false 0).num.sign else 0
def enL (g a b c : FR) : Int:=if ciF g a b c = 0 then (dsc g a b c true 0).num.sign else 0
def cirF (r l : Int) : List (Bool × Bool × Int) :=
  if r > 0 ∧ l > 0 then [(true,false,1),(true,false,-1)] else if r ≥ 0 ∧ l ≥ 0 then [(true,false,0)] else if r ≥ 0 ∨ l ≥ 0 then [(false,false,0)] else [(false,true,0),(false,false,0)]
def cirs (g a b c : FR) : List (Bool × Bool × Int):=if ciF g a b c = 0 then cirF (enR g a b c) (enL g a b c) else []
def quF (l : List FR) (j : Nat) : FR:=if barC l = 0 then FR.of (if j < 2 then (l.getD j default).val * (l.getD j default).val else (l.getD j default).val) else default
def btC (l : List FR) (h : Bool) (t : FR) : Int:=if barC l = 0 then trnC h t else 3
def exK (A B C D E : Bool) : Bool:=(A && B) || C || !(D == E)
def exC (g a b c : FR) (h : Bool) (t : FR) (m : Int) : Int :=
  if exK (decide (cmpQ (a.val * dirC h t.val) g.val = 0)) (decide ((a.val * dirS h t.val).num.sign = 0)) (decide ((dsc g a b c h t.val).num.sign < 0)) (decide ((dsc g a b c h t.val).num.sign = 0)) (decide (m = 0)) then 16 else 0
def ofC (g a b c : FR) (h : Bool) (t : FR) (m : Int) : Int:=if ciF g a b c = 0 then (if trnF h t then (if m < -1 ∨ m > 1 then 3 else exC g a b c h t m) else 2) else ciF g a b c
def ofK (l : List (Bool × Bool × Int)) (t : FR) (m : Int) : Bool:=((l.getD 0 default).1 && decide (m = -1)) || (!(l.getD 0 default).1 && decide (t.val.num.sign < 0))
def ofI (g a b c : FR) (h : Bool) (t : FR) (m : Int) : Int:=if ofC g a b c h t m = 0 then (if (cirs g a b c).length = 1 then 0 else if ofK (cirs g a b c) t m then 1 else 0) else 0
theorem trn_0 {h : Bool} {t : FR} (ht : trnF h t = true) : trnC h t = 0:=by unfold trnC;rw [if_pos ht]
theorem trn_zero {h : Bool} : trnF h zFR = true:=by cases h <;> rfl
theorem bar_3 {l : List FR} (h : l.all posR = false) : barC l = ((3 : Nat) : Int):=by unfold barC;rw [h];rfl
theorem bar_0 {l : List FR} (h : l.all posR = true) : barC l = 0:=by unfold barC;rw [h];rfl
theorem bar_pos {l : List FR} (h : barC l = 0) : l.all posR = true:=by
  unfold barC at h
  cases hp : l.all posR with
  | true=>rfl
  | false=>rw [hp] at h;exact absurd h (by decide)
theorem bar_two (l : List FR) : barC l = 0 ∨ barC l = 3:=by unfold barC;split <;> simp
theorem bt_0 {l : List FR} {h : Bool} {t : FR} (hb : barC l = 0) (ht : trnF h t = true) : btC l h t = 0:=by unfold btC;rw [if_pos hb,trn_0 ht]
theorem trn_two (h : Bool) (t : FR) : trnC h t = 0 ∨ trnC h t = 2:=by unfold trnC;split <;> simp
theorem qu_bad {l : List FR} {j : Nat} (hb : barC l ≠ 0) : default = quF l j:=by unfold quF;rw [if_neg hb]
theorem qu_sq {g a b c : FR} (hb : barC [g,a,b,c] = 0) : [quF [g,a,b,c] 0,quF [g,a,b,c] 1,quF [g,a,b,c] 2,quF [g,a,b,c] 3] = sqF g a b c:=by unfold quF sqF;simp only [if_pos hb];rfl
theorem ci_b {g a b c : FR} (hb : barC [g,a,b,c] ≠ 0) : barC [g,a,b,c] = ciF g a b c:=by unfold ciF;rw [if_neg hb];rcases bar_two [g,a,b,c] with e | e <;> omega
theorem ci_bar {g a b c : FR} (h : ciF g a b c = 0) : barC [g,a,b,c] = 0:=by
  unfold ciF at h;split at h
  · assumption
  · omega
theorem sq_pos {g a b c : FR} (hb : barC [g,a,b,c] = 0) : (sqF g a b c).all posR = true:=by
  have h:=bar_pos hb
  simp only [List.all_cons,List.all_nil,Bool.and_true,Bool.and_eq_true] at h
  have p : ∀ {r : FR},posR r = true → 0 < r.val:=fun {r} hr=>by unfold posR at hr;simp at hr;exact hr.2
  unfold sqF
  simp only [List.all_cons,List.all_nil,posR_of4,Bool.and_true,Bool.and_eq_true,decide_eq_true_eq]
  exact ⟨Rat.mul_pos (p h.1) (p h.1),Rat.mul_pos (p h.2.1) (p h.2.1),p h.2.2.1,p h.2.2.2⟩
theorem chk_two {l : List FR} (h : l.all posR = true) (k : chkF l ≠ 16) : chkF l = 0:=by
  unfold chkF at k ⊢;rw [h] at k ⊢
  simp only [if_true] at k ⊢
  split
  · rfl
  · rename_i e;rw [if_neg e] at k;exact absurd rfl k
theorem ci_16 {g a b c : FR} (hb : barC [g,a,b,c] = 0) (h : chkF (sqF g a b c) = 16) : chkF (sqF g a b c) = ciF g a b c:=by unfold ciF;rw [if_pos hb,if_neg (by omega),h]
theorem cmpQ_eq0 {x y : Rat} : cmpQ x y = 0 ↔ x = y:=by unfold cmpQ;split <;> (try split) <;> simp_all <;> grind
theorem ci_15 {g a b c : FR} (hb : barC [g,a,b,c] = 0) (h : chkF (sqF g a b c) = 0) (h1 : cmpQ g.val a.val = 0) (h2 : cmpQ b.val c.val = 0) : ciF g a b c = ((15 : Nat) : Int):=by
  unfold ciF;rw [if_pos hb,if_pos h,if_pos ⟨cmpQ_eq0.1 h1,cmpQ_eq0.1 h2⟩];rfl
theorem ci_0 {g a b c : FR} (hb : barC [g,a,b,c] = 0) (h : chkF (sqF g a b c) = 0) (h1 : ¬ (cmpQ g.val a.val = 0 ∧ cmpQ b.val c.val = 0)) : ciF g a b c = 0:=by
  unfold ciF;rw [if_pos hb,if_pos h,if_neg (fun e=>h1 ⟨cmpQ_eq0.2 e.1,cmpQ_eq0.2 e.2⟩)]
theorem enR_bad {g a b c : FR} (h : ciF g a b c ≠ 0) : 0 = enR g a b c:=by unfold enR;rw [if_neg h]
theorem enL_bad {g a b c : FR} (h : ciF g a b c ≠ 0) : 0 = enL g a b c:=by unfold enL;rw [if_neg h]
theorem enR_ok {g a b c : FR} (h : ciF g a b c = 0) : (dsc g a b c false zFR.val).num.sign = enR g a b c:=by unfold enR;rw [if_pos h];rfl
theorem enL_ok {g a b c : FR} (h : ciF g a b c = 0) : (dsc g a b c true zFR.val).num.sign = enL g a b c:=by unfold enL;rw [if_pos h];rfl
theorem cirs_bad {g a b c : FR} (h : ciF g a b c ≠ 0) : [] = cirs g a b c:=by unfold cirs;rw [if_neg h]
theorem cirs_ok {g a b c : FR} (h : ciF g a b c = 0) : cirs g a b c = cirF (enR g a b c) (enL g a b c):=by unfold cirs;rw [if_pos h]
theorem cir_len (r l : Int) : 0 < (cirF r l).length:=by
  unfold cirF
  split
  · decide
  · split
    · decide
    · split <;> decide
theorem cirs_pos {g a b c : FR} (h : ciF g a b c = 0) : 0 < (cirs g a b c).length:=by rw [cirs_ok h];exact cir_len _ _
theorem of_trn {h : Bool} {t : FR} (ht : ¬ trnC h t ≠ 0) : trnF h t = true:=by
  unfold trnC at ht;split at ht
  · assumption
  · omega
theorem of_ex {g a b c : FR} {h : Bool} {t : FR} {m : Int} (hc : ciF g a b c = 0) (ht : trnF h t = true) (hm : ¬ (m < -1 ∨ m > 1)) : exC g a b c h t m = ofC g a b c h t m:=by
  unfold ofC;rw [if_pos hc,if_pos ht,if_neg hm]
end Go.Proofs.YtpbkcbnghhodiaaGreat
set_option linter.unusedVariables false
set_option linter.unusedSimpArgs false
set_option maxHeartbeats 4000000
set_option maxRecDepth 100000
set_option synthInstance.maxSize 100000
set_option synthInstance.maxHeartbeats 400000
namespace Go.Proofs.YtpbkcbnghhodiaaGreat
open Go.RowKit (Below)
theorem zv0 : (default : FR).val = 0:=rfl
abbrev TRN (n : Nat) (t : FR) (h : Bool) : MT:=PTS [(some 3,FX n t),(none,BT h)]
abbrev BST (n : Nat) (t : FR) (h : Bool) (m : Int) : MT:=PTS [(some 4,TRN n t h),(none,IT m)]
abbrev PLQ (n : Nat) (x y : Rat) : MT:=PTS [(some 3,QC n x),(some 3,QC n y)]
theorem w141 {n m : Nat} {x y : Rat} : Con Tryz.prog 141 [QV n x,QV m y] (y ≠ 0 ∧ n + m ≤ BIG) (QC (n + m) (x / y)):=.o2 fun hok h1 h2 hp=>by
  refine St.enter (N:=17) Tryz.func141 rfl rfl rfl hok (enter2 h1 h2) fun a=>?_
  repeat' (first | refine W.run ?_ fun a w G=>?_ | refine W.mv fun a w G=>?_ | refine W.asg fun a w G=>?_ | refine W.bx fun b a w G=>?_ | (refine W.nn hK ?_;clear hK K) | refine W.reg fun K hK=>?_ | refine W.reg1 ?_ | refine W.nl ?_ | refine W.sq fun K hK=>?_ | refine W.ds ?_ (fun β a w G hu=>W.fin ?_ hu) mixedOrders (by kernel_rfl) | refine W.sk ?_ | (refine W.kn hK ?_;clear hK K) | refine W.cd (fun hc=>?_) (fun hc=>?_) | refine W.cb (fun hc=>?_) (fun hc=>?_) | refine W.al fun b a w G=>?_ | refine W.st fun w=>?_ | refine W.stp fun w=>?_ | refine W.ste ?_ fun w=>?_ | refine W.bl ?_ | refine W.bn ?_ | refine W.ex ?_ | refine W.xt ?_ | refine W.xb ?_ | refine W.xo ?_ | refine W.rt ?_ | refine W.tr ?_ | refine W.br ?_ | refine W.rt1 rfl ?_ | refine W.rt2 rfl ?_ ?_ | refine W.rt3 rfl ?_ ?_ ?_ | clear hK K | clear hu | exact True.intro | exact Nat.le_trans (by clear hp;omega) hp | exact Nat.le_trans (by clear hp;omega) hp.1 | exact Nat.le_trans (by clear hp;omega) hp.2 | (clear hp;omega) | apply And.intro | refine GI.i fun _=>?_ | with_reducible rfl | decide | (simp only [List.length_cons,List.length_nil];omega))
  all_goals (first | exact hp.1 | exact hp.2 | (exfalso;simp_all))
instance {n m : Nat} {x y : Rat} {τ1 : MT} [j1 : NQ τ1 (QV n x)] {τ2 : MT} [j2 : NQ τ2 (QV m y)] : Con Tryz.prog 141 [τ1,τ2] (y ≠ 0 ∧ n + m ≤ BIG) (QC (n + m) (x / y)):=.o2 fun hok h1 h2 hp=>w141.c2 hok (j1.h h1) (j2.h h2) hp
theorem w32 {m : Nat} {t : FR} {h : Bool} : Con Tryz.prog 32 [TRN m t h] (10000 * m + 100000 ≤ BIG) (.ex (errV 70 (trnC h t))):=.o1 fun hok h1 hp=>by
  refine St.enter (N:=18) Tryz.func32 rfl rfl rfl hok (enter1 h1) fun a=>?_
  repeat' (first | refine W.run ?_ fun a w G=>?_ | refine W.mv fun a w G=>?_ | refine W.asg fun a w G=>?_ | refine W.bx fun b a w G=>?_ | (refine W.nn hK ?_;clear hK K) | refine W.reg fun K hK=>?_ | refine W.reg1 ?_ | refine W.nl ?_ | refine W.sq fun K hK=>?_ | refine W.ds ?_ (fun β a w G hu=>W.fin ?_ hu) mixedOrders (by kernel_rfl) | refine W.sk ?_ | (refine W.kn hK ?_;clear hK K) | refine W.cd (fun hc=>?_) (fun hc=>?_) | refine W.cb (fun hc=>?_) (fun hc=>?_) | refine W.al fun b a w G=>?_ | refine W.st fun w=>?_ | refine W.stp fun w=>?_ | refine W.ste ?_ fun w=>?_ | refine W.bl ?_ | refine W.bn ?_ | refine W.ex ?_ | refine W.xt ?_ | refine W.xb ?_ | refine W.xo ?_ | refine W.rt ?_ | refine W.tr ?_ | refine W.br ?_ | refine W.rt1 rfl ?_ | refine W.rt2 rfl ?_ ?_ | refine W.rt3 rfl ?_ ?_ ?_ | clear hK K | clear hu | exact True.intro | exact Nat.le_trans (by clear hp;omega) hp | exact Nat.le_trans (by clear hp;omega) hp.1 | exact Nat.le_trans (by clear hp;omega) hp.2 | (clear hp;omega) | apply And.intro | refine GI.i fun _=>?_ | with_reducible rfl | decide | (simp only [List.length_cons,List.length_nil];omega))
  all_goals (unfold trnC trnF;grind)
instance {m : Nat} {t : FR} {h : Bool} {τ1 : MT} [j1 : NF τ1 (TRN m t h)] : Con Tryz.prog 32 [τ1] (10000 * m + 100000 ≤ BIG) (.ex (errV 70 (trnC h t))):=.o1 fun hok h1 hp=>w32.c1 hok (j1.h h1) hp
theorem w137 {m : Nat} {t : FR} {h : Bool} : Con Tryz.prog 137 [TRN m t h] (10000 * m + 100000 ≤ BIG) (MT.tup2 (QV (4 * m + 130) (dirC h t.val)) (QV (4 * m + 130) (dirS h t.val))):=.o1 fun hok h1 hp=>by
  refine St.enter (N:=32) Tryz.func137 rfl rfl rfl hok (enter1 h1) fun a=>?_
  repeat' (first | refine W.run ?_ fun a w G=>?_ | refine W.mv fun a w G=>?_ | refine W.asg fun a w G=>?_ | refine W.bx fun b a w G=>?_ | (refine W.nn hK ?_;clear hK K) | refine W.reg fun K hK=>?_ | refine W.reg1 ?_ | refine W.nl ?_ | refine W.sq fun K hK=>?_ | refine W.ds ?_ (fun β a w G hu=>W.fin ?_ hu) mixedOrders (by kernel_rfl) | refine W.sk ?_ | (refine W.kn hK ?_;clear hK K) | refine W.cd (fun hc=>?_) (fun hc=>?_) | refine W.cb (fun hc=>?_) (fun hc=>?_) | refine W.al fun b a w G=>?_ | refine W.st fun w=>?_ | refine W.stp fun w=>?_ | refine W.ste ?_ fun w=>?_ | refine W.bl ?_ | refine W.bn ?_ | refine W.ex ?_ | refine W.xt ?_ | refine W.xb ?_ | refine W.xo ?_ | refine W.rt ?_ | refine W.tr ?_ | refine W.br ?_ | refine W.rt1 rfl ?_ | refine W.rt2 rfl ?_ ?_ | refine W.rt3 rfl ?_ ?_ ?_ | clear hK K | clear hu | exact True.intro | exact Nat.le_trans (by clear hp;omega) hp | exact Nat.le_trans (by clear hp;omega) hp.1 | exact Nat.le_trans (by clear hp;omega) hp.2 | (clear hp;omega) | apply And.intro | refine GI.i fun _=>?_ | with_reducible rfl | decide | (simp only [List.length_cons,List.length_nil];omega))
  all_goals first | exact one_sq _ | simp_all [dirC,dirS,zv0]
instance {m : Nat} {t : FR} {h : Bool} {τ1 : MT} [j1 : NF τ1 (TRN m t h)] : Con Tryz.prog 137 [τ1] (10000 * m + 100000 ≤ BIG) (MT.tup2 (QV (4 * m + 130) (dirC h t.val)) (QV (4 * m + 130) (dirS h t.val))):=.o1 fun hok h1 hp=>w137.c1 hok (j1.h h1) hp
theorem w120 {m : Nat} {t : FR} {h : Bool} : Con Tryz.prog 120 [TRN m t h] (10000 * m + 100000 ≤ BIG ∧ trnF h t = true) (MT.tup2 (QV (4 * m + 130) (dirC h t.val)) (.ex (errV 70 (0)))):=.o1 fun hok h1 hp=>by
  refine St.enter (N:=19) Tryz.func120 rfl rfl rfl hok (enter1 h1) fun a=>?_
  have ht:=trn_0 hp.2
  repeat' (first | refine W.run ?_ fun a w G=>?_ | refine W.mv fun a w G=>?_ | refine W.asg fun a w G=>?_ | refine W.bx fun b a w G=>?_ | (refine W.nn hK ?_;clear hK K) | refine W.reg fun K hK=>?_ | refine W.reg1 ?_ | refine W.nl ?_ | refine W.sq fun K hK=>?_ | refine W.ds ?_ (fun β a w G hu=>W.fin ?_ hu) mixedOrders (by kernel_rfl) | refine W.sk ?_ | (refine W.kn hK ?_;clear hK K) | refine W.cd (fun hc=>?_) (fun hc=>?_) | refine W.cb (fun hc=>?_) (fun hc=>?_) | refine W.al fun b a w G=>?_ | refine W.st fun w=>?_ | refine W.stp fun w=>?_ | refine W.ste ?_ fun w=>?_ | refine W.bl ?_ | refine W.bn ?_ | refine W.ex ?_ | refine W.xt ?_ | refine W.xb ?_ | refine W.xo ?_ | refine W.rt ?_ | refine W.tr ?_ | refine W.br ?_ | refine W.rt1 rfl ?_ | refine W.rt2 rfl ?_ ?_ | refine W.rt3 rfl ?_ ?_ ?_ | clear hK K | clear hu | exact True.intro | exact Nat.le_trans (by clear hp;omega) hp | exact Nat.le_trans (by clear hp;omega) hp.1 | exact Nat.le_trans (by clear hp;omega) hp.2 | (clear hp;omega) | apply And.intro | refine GI.i fun _=>?_ | with_reducible rfl | decide | (simp only [List.length_cons,List.length_nil];omega))
  all_goals first | exact hp.2 | (exfalso;omega) | assumption
instance {m : Nat} {t : FR} {h : Bool} {τ1 : MT} [j1 : NF τ1 (TRN m t h)] : Con Tryz.prog 120 [τ1] (10000 * m + 100000 ≤ BIG ∧ trnF h t = true) (MT.tup2 (QV (4 * m + 130) (dirC h t.val)) (.ex (errV 70 (0)))):=.o1 fun hok h1 hp=>w120.c1 hok (j1.h h1) hp
theorem w121 {m : Nat} {t : FR} {h : Bool} : Con Tryz.prog 121 [TRN m t h] (10000 * m + 100000 ≤ BIG ∧ trnF h t = true) (MT.tup2 (QV (4 * m + 130) (dirS h t.val)) (.ex (errV 70 (0)))):=.o1 fun hok h1 hp=>by
  refine St.enter (N:=19) Tryz.func121 rfl rfl rfl hok (enter1 h1) fun a=>?_
  have ht:=trn_0 hp.2
  repeat' (first | refine W.run ?_ fun a w G=>?_ | refine W.mv fun a w G=>?_ | refine W.asg fun a w G=>?_ | refine W.bx fun b a w G=>?_ | (refine W.nn hK ?_;clear hK K) | refine W.reg fun K hK=>?_ | refine W.reg1 ?_ | refine W.nl ?_ | refine W.sq fun K hK=>?_ | refine W.ds ?_ (fun β a w G hu=>W.fin ?_ hu) mixedOrders (by kernel_rfl) | refine W.sk ?_ | (refine W.kn hK ?_;clear hK K) | refine W.cd (fun hc=>?_) (fun hc=>?_) | refine W.cb (fun hc=>?_) (fun hc=>?_) | refine W.al fun b a w G=>?_ | refine W.st fun w=>?_ | refine W.stp fun w=>?_ | refine W.ste ?_ fun w=>?_ | refine W.bl ?_ | refine W.bn ?_ | refine W.ex ?_ | refine W.xt ?_ | refine W.xb ?_ | refine W.xo ?_ | refine W.rt ?_ | refine W.tr ?_ | refine W.br ?_ | refine W.rt1 rfl ?_ | refine W.rt2 rfl ?_ ?_ | refine W.rt3 rfl ?_ ?_ ?_ | clear hK K | clear hu | exact True.intro | exact Nat.le_trans (by clear hp;omega) hp | exact Nat.le_trans (by clear hp;omega) hp.1 | exact Nat.le_trans (by clear hp;omega) hp.2 | (clear hp;omega) | apply And.intro | refine GI.i fun _=>?_ | with_reducible rfl | decide | (simp only [List.length_cons,List.length_nil];omega))
  all_goals first | exact hp.2 | (exfalso;omega) | assumption
instance {m : Nat} {t : FR} {h : Bool} {τ1 : MT} [j1 : NF τ1 (TRN m t h)] : Con Tryz.prog 121 [τ1] (10000 * m + 100000 ≤ BIG ∧ trnF h t = true) (MT.tup2 (QV (4 * m + 130) (dirS h t.val)) (.ex (errV 70 (0)))):=.o1 fun hok h1 hp=>w121.c1 hok (j1.h h1) hp
theorem w97 {m : Nat} {t : FR} {h : Bool} : Con Tryz.prog 97 [TRN m t h] (10000 * m + 100000 ≤ BIG ∧ trnF h t = true) (MT.tup3 (QV (4 * m + 130) (dirC h t.val)) (QV (4 * m + 130) (dirS h t.val)) (.ex (errV 70 (0)))):=.o1 fun hok h1 hp=>by
  refine St.enter (N:=29) Tryz.func97 rfl rfl rfl hok (enter1 h1) fun a=>?_
  have ht:=trn_0 hp.2
  repeat' (first | refine W.run ?_ fun a w G=>?_ | refine W.mv fun a w G=>?_ | refine W.asg fun a w G=>?_ | refine W.bx fun b a w G=>?_ | (refine W.nn hK ?_;clear hK K) | refine W.reg fun K hK=>?_ | refine W.reg1 ?_ | refine W.nl ?_ | refine W.sq fun K hK=>?_ | refine W.ds ?_ (fun β a w G hu=>W.fin ?_ hu) mixedOrders (by kernel_rfl) | refine W.sk ?_ | (refine W.kn hK ?_;clear hK K) | refine W.cd (fun hc=>?_) (fun hc=>?_) | refine W.cb (fun hc=>?_) (fun hc=>?_) | refine W.al fun b a w G=>?_ | refine W.st fun w=>?_ | refine W.stp fun w=>?_ | refine W.ste ?_ fun w=>?_ | refine W.bl ?_ | refine W.bn ?_ | refine W.ex ?_ | refine W.xt ?_ | refine W.xb ?_ | refine W.xo ?_ | refine W.rt ?_ | refine W.tr ?_ | refine W.br ?_ | refine W.rt1 rfl ?_ | refine W.rt2 rfl ?_ ?_ | refine W.rt3 rfl ?_ ?_ ?_ | clear hK K | clear hu | exact True.intro | exact Nat.le_trans (by clear hp;omega) hp | exact Nat.le_trans (by clear hp;omega) hp.1 | exact Nat.le_trans (by clear hp;omega) hp.2 | (clear hp;omega) | apply And.intro | refine GI.i fun _=>?_ | with_reducible rfl | decide | (simp only [List.length_cons,List.length_nil];omega))
  all_goals first | exact hp.2 | (exfalso;omega) | assumption
instance {m : Nat} {t : FR} {h : Bool} {τ1 : MT} [j1 : NF τ1 (TRN m t h)] : Con Tryz.prog 97 [τ1] (10000 * m + 100000 ≤ BIG ∧ trnF h t = true) (MT.tup3 (QV (4 * m + 130) (dirC h t.val)) (QV (4 * m + 130) (dirS h t.val)) (.ex (errV 70 (0)))):=.o1 fun hok h1 hp=>w97.c1 hok (j1.h h1) hp
theorem w84 {n : Nat} {rg ra rb rc : FR} : Con Tryz.prog 84 [QUD n rg ra rb rc] (10000 * n + 100000 ≤ BIG) (.ex (errV 70 (barC [rg,ra,rb,rc]))):=.o1 fun hok h1 hp=>by
  refine St.enter (N:=29) Tryz.func84 rfl rfl rfl hok (enter1 h1) fun a=>?_
  repeat' (first | refine W.run ?_ fun a w G=>?_ | refine W.mv fun a w G=>?_ | refine W.asg fun a w G=>?_ | refine W.bx fun b a w G=>?_ | (refine W.nn hK ?_;clear hK K) | refine W.reg fun K hK=>?_ | refine W.reg1 ?_ | refine W.nl ?_ | refine W.sq fun K hK=>?_ | refine W.ds ?_ (fun β a w G hu=>W.fin ?_ hu) mixedOrders (by kernel_rfl) | refine W.sk ?_ | (refine W.kn hK ?_;clear hK K) | refine W.cd (fun hc=>?_) (fun hc=>?_) | refine W.cb (fun hc=>?_) (fun hc=>?_) | refine W.al fun b a w G=>?_ | refine W.st fun w=>?_ | refine W.stp fun w=>?_ | refine W.ste ?_ fun w=>?_ | refine W.bl ?_ | refine W.bn ?_ | refine W.ex ?_ | refine W.xt ?_ | refine W.xb ?_ | refine W.xo ?_ | refine W.rt ?_ | refine W.tr ?_ | refine W.br ?_ | refine W.rt1 rfl ?_ | refine W.rt2 rfl ?_ ?_ | refine W.rt3 rfl ?_ ?_ ?_ | refine W.lp 16 (α:=Nat) (fun j=>4 - j) (fun j=>j ≤ 4 ∧ ([rg,ra,rb,rc].take j).all posR = true) [2,4,13,14,15,16,17,18,19,20,21,22,23,24,25,26,27,28] (fun j=>[(15,NT j),(14,NT 4),(13,LS (some 3) ([rg,ra,rb,rc].map (FX n)))]) (fun j=>[]) (0) ?_ ?_ ?_ fun j hj a w G=>?_ | refine W.ag (x:=j) (j+1) ?_ ?_ ?_ ?_ | clear hK K | clear hu | exact True.intro | exact Nat.le_trans (by clear hp;omega) hp | exact Nat.le_trans (by clear hp;omega) hp.1 | exact Nat.le_trans (by clear hp;omega) hp.2 | (clear hp;omega) | apply And.intro | refine GI.i fun _=>?_ | with_reducible rfl | decide | (simp only [List.length_cons,List.length_nil];omega))
  all_goals first | rfl | exact (bar_3 (all_not (show j < 4 by omega) (posR_t hc))).symm | exact all_snoc (show j < 4 by omega) hj.2 (posR_f hc) | exact bar_0 (all_end (show ¬ j < 4 by omega) hj.2)
instance {n : Nat} {rg ra rb rc : FR} {τ1 : MT} [j1 : NF τ1 (QUD n rg ra rb rc)] : Con Tryz.prog 84 [τ1] (10000 * n + 100000 ≤ BIG) (.ex (errV 70 (barC [rg,ra,rb,rc]))):=.o1 fun hok h1 hp=>w84.c1 hok (j1.h h1) hp
end Go.Proofs.YtpbkcbnghhodiaaGreat
set_option linter.unusedVariables false
set_option linter.unusedSimpArgs false
set_option maxHeartbeats 4000000
set_option maxRecDepth 100000
set_option synthInstance.maxSize 100000
set_option synthInstance.maxHeartbeats 400000
namespace Go.Proofs.YtpbkcbnghhodiaaGreat
open Go.RowKit (Below)
attribute [local irreducible] barC trnC btC
theorem w96 {n m : Nat} {rg ra rb rc t : FR} {h : Bool} : Con Tryz.prog 96 [QUD n rg ra rb rc,TRN m t h] (10000 * n + 10000 * m + 100000 ≤ BIG) (.ex (errV 70 (btC [rg,ra,rb,rc] h t))):=.o2 fun hok h1 h2 hp=>by
  refine St.enter (N:=15) Tryz.func96 rfl rfl rfl hok (enter2 h1 h2) fun a=>?_
  repeat' (first | refine W.run ?_ fun a w G=>?_ | refine W.mv fun a w G=>?_ | refine W.asg fun a w G=>?_ | refine W.bx fun b a w G=>?_ | (refine W.nn hK ?_;clear hK K) | refine W.reg fun K hK=>?_ | refine W.reg1 ?_ | refine W.nl ?_ | refine W.sq fun K hK=>?_ | refine W.ds ?_ (fun β a w G hu=>W.fin ?_ hu) mixedOrders (by kernel_rfl) | refine W.sk ?_ | (refine W.kn hK ?_;clear hK K) | refine W.cd (fun hc=>?_) (fun hc=>?_) | refine W.cb (fun hc=>?_) (fun hc=>?_) | refine W.al fun b a w G=>?_ | refine W.st fun w=>?_ | refine W.stp fun w=>?_ | refine W.ste ?_ fun w=>?_ | refine W.bl ?_ | refine W.bn ?_ | refine W.ex ?_ | refine W.xt ?_ | refine W.xb ?_ | refine W.xo ?_ | refine W.rt ?_ | refine W.tr ?_ | refine W.br ?_ | refine W.rt1 rfl ?_ | refine W.rt2 rfl ?_ ?_ | refine W.rt3 rfl ?_ ?_ ?_ | clear hK K | clear hu | exact True.intro | exact Nat.le_trans (by clear hp;omega) hp | exact Nat.le_trans (by clear hp;omega) hp.1 | exact Nat.le_trans (by clear hp;omega) hp.2 | (clear hp;omega) | apply And.intro | refine GI.i fun _=>?_ | with_reducible rfl | decide | (simp only [List.length_cons,List.length_nil];omega))
  all_goals grind [btC,bar_two,trn_two]
instance {n m : Nat} {rg ra rb rc t : FR} {h : Bool} {τ1 : MT} [j1 : NF τ1 (QUD n rg ra rb rc)] {τ2 : MT} [j2 : NF τ2 (TRN m t h)] : Con Tryz.prog 96 [τ1,τ2] (10000 * n + 10000 * m + 100000 ≤ BIG) (.ex (errV 70 (btC [rg,ra,rb,rc] h t))):=.o2 fun hok h1 h2 hp=>w96.c2 hok (j1.h h1) (j2.h h2) hp
theorem w73 {n : Nat} {x : Rat} : Con Tryz.prog 73 [QV n x] (n + n ≤ BIG) (QC (n + n) (x * x)):=.o1 fun hok h1 hp=>by
  refine St.enter (N:=6) Tryz.func73 rfl rfl rfl hok (enter1 h1) fun a=>?_
  repeat' (first | refine W.run ?_ fun a w G=>?_ | refine W.mv fun a w G=>?_ | refine W.asg fun a w G=>?_ | refine W.bx fun b a w G=>?_ | (refine W.nn hK ?_;clear hK K) | refine W.reg fun K hK=>?_ | refine W.reg1 ?_ | refine W.nl ?_ | refine W.sq fun K hK=>?_ | refine W.ds ?_ (fun β a w G hu=>W.fin ?_ hu) mixedOrders (by kernel_rfl) | refine W.sk ?_ | (refine W.kn hK ?_;clear hK K) | refine W.cd (fun hc=>?_) (fun hc=>?_) | refine W.cb (fun hc=>?_) (fun hc=>?_) | refine W.al fun b a w G=>?_ | refine W.st fun w=>?_ | refine W.stp fun w=>?_ | refine W.ste ?_ fun w=>?_ | refine W.bl ?_ | refine W.bn ?_ | refine W.ex ?_ | refine W.xt ?_ | refine W.xb ?_ | refine W.xo ?_ | refine W.rt ?_ | refine W.tr ?_ | refine W.br ?_ | refine W.rt1 rfl ?_ | refine W.rt2 rfl ?_ ?_ | refine W.rt3 rfl ?_ ?_ ?_ | clear hK K | clear hu | exact True.intro | exact Nat.le_trans (by clear hp;omega) hp | exact Nat.le_trans (by clear hp;omega) hp.1 | exact Nat.le_trans (by clear hp;omega) hp.2 | (clear hp;omega) | apply And.intro | refine GI.i fun _=>?_ | with_reducible rfl | decide | (simp only [List.length_cons,List.length_nil];omega))
instance {n : Nat} {x : Rat} {τ1 : MT} [j1 : NQ τ1 (QV n x)] : Con Tryz.prog 73 [τ1] (n + n ≤ BIG) (QC (n + n) (x * x)):=.o1 fun hok h1 hp=>w73.c1 hok (j1.h h1) hp
theorem w49 {n : Nat} {x : Rat} : Con Tryz.prog 49 [QV n x] (n + 2 ≤ BIG) (QC (n + 2) x):=.o1 fun hok h1 hp=>by
  refine St.enter (N:=6) Tryz.func49 rfl rfl rfl hok (enter1 h1) fun a=>?_
  repeat' (first | refine W.run ?_ fun a w G=>?_ | refine W.mv fun a w G=>?_ | refine W.asg fun a w G=>?_ | refine W.bx fun b a w G=>?_ | (refine W.nn hK ?_;clear hK K) | refine W.reg fun K hK=>?_ | refine W.reg1 ?_ | refine W.nl ?_ | refine W.sq fun K hK=>?_ | refine W.ds ?_ (fun β a w G hu=>W.fin ?_ hu) mixedOrders (by kernel_rfl) | refine W.sk ?_ | (refine W.kn hK ?_;clear hK K) | refine W.cd (fun hc=>?_) (fun hc=>?_) | refine W.cb (fun hc=>?_) (fun hc=>?_) | refine W.al fun b a w G=>?_ | refine W.st fun w=>?_ | refine W.stp fun w=>?_ | refine W.ste ?_ fun w=>?_ | refine W.bl ?_ | refine W.bn ?_ | refine W.ex ?_ | refine W.xt ?_ | refine W.xb ?_ | refine W.xo ?_ | refine W.rt ?_ | refine W.tr ?_ | refine W.br ?_ | refine W.rt1 rfl ?_ | refine W.rt2 rfl ?_ ?_ | refine W.rt3 rfl ?_ ?_ ?_ | clear hK K | clear hu | exact True.intro | exact Nat.le_trans (by clear hp;omega) hp | exact Nat.le_trans (by clear hp;omega) hp.1 | exact Nat.le_trans (by clear hp;omega) hp.2 | (clear hp;omega) | apply And.intro | refine GI.i fun _=>?_ | with_reducible rfl | decide | (simp only [List.length_cons,List.length_nil];omega))
  all_goals grind [zv0]
instance {n : Nat} {x : Rat} {τ1 : MT} [j1 : NQ τ1 (QV n x)] : Con Tryz.prog 49 [τ1] (n + 2 ≤ BIG) (QC (n + 2) x):=.o1 fun hok h1 hp=>w49.c1 hok (j1.h h1) hp
theorem w51 {n : Nat} {rg ra rb rc : FR} : Con Tryz.prog 51 [QUD n rg ra rb rc] (10000 * n + 100000 ≤ BIG) (MT.tup2 (PTS [(some 3,FX (2 * n + 2) (quF [rg,ra,rb,rc] 0)),(some 3,FX (2 * n + 2) (quF [rg,ra,rb,rc] 1)),(some 3,FX (2 * n + 2) (quF [rg,ra,rb,rc] 2)),(some 3,FX (2 * n + 2) (quF [rg,ra,rb,rc] 3))]) (.ex (errV 70 (barC [rg,ra,rb,rc])))):=.o1 fun hok h1 hp=>by
  refine St.enter (N:=24) Tryz.func51 rfl rfl rfl hok (enter1 h1) fun a=>?_
  repeat' (first | refine W.run ?_ fun a w G=>?_ | refine W.mv fun a w G=>?_ | refine W.asg fun a w G=>?_ | refine W.bx fun b a w G=>?_ | (refine W.nn hK ?_;clear hK K) | refine W.reg fun K hK=>?_ | refine W.reg1 ?_ | refine W.nl ?_ | refine W.sq fun K hK=>?_ | refine W.ds ?_ (fun β a w G hu=>W.fin ?_ hu) mixedOrders (by kernel_rfl) | refine W.sk ?_ | (refine W.kn hK ?_;clear hK K) | refine W.cd (fun hc=>?_) (fun hc=>?_) | refine W.cb (fun hc=>?_) (fun hc=>?_) | refine W.al fun b a w G=>?_ | refine W.st fun w=>?_ | refine W.stp fun w=>?_ | refine W.ste ?_ fun w=>?_ | refine W.bl ?_ | refine W.bn ?_ | refine W.ex ?_ | refine W.xt ?_ | refine W.xb ?_ | refine W.xo ?_ | refine W.rt ?_ | refine W.tr ?_ | refine W.br ?_ | refine W.rt1 rfl ?_ | refine W.rt2 rfl ?_ ?_ | refine W.rt3 rfl ?_ ?_ ?_ | clear hK K | clear hu | exact True.intro | exact Nat.le_trans (by clear hp;omega) hp | exact Nat.le_trans (by clear hp;omega) hp.1 | exact Nat.le_trans (by clear hp;omega) hp.2 | (clear hp;omega) | apply And.intro | refine GI.i fun _=>?_ | with_reducible rfl | decide | (simp only [List.length_cons,List.length_nil];omega))
  all_goals first | exact qu_bad hc | (unfold quF;rw [if_pos (by omega)];rfl)
instance {n : Nat} {rg ra rb rc : FR} {τ1 : MT} [j1 : NF τ1 (QUD n rg ra rb rc)] : Con Tryz.prog 51 [τ1] (10000 * n + 100000 ≤ BIG) (MT.tup2 (PTS [(some 3,FX (2 * n + 2) (quF [rg,ra,rb,rc] 0)),(some 3,FX (2 * n + 2) (quF [rg,ra,rb,rc] 1)),(some 3,FX (2 * n + 2) (quF [rg,ra,rb,rc] 2)),(some 3,FX (2 * n + 2) (quF [rg,ra,rb,rc] 3))]) (.ex (errV 70 (barC [rg,ra,rb,rc])))):=.o1 fun hok h1 hp=>w51.c1 hok (j1.h h1) hp
theorem w64 {n m : Nat} {rg ra rb rc t : FR} {h : Bool} : Con Tryz.prog 64 [QUD n rg ra rb rc,TRN m t h] (10000 * n + 10000 * m + 100000 ≤ BIG ∧ barC [rg,ra,rb,rc] = 0 ∧ trnF h t = true) (MT.tup2 (PLQ (n + 4 * m + 130) (ra.val * dirC h t.val) (ra.val * dirS h t.val)) (.ex (errV 70 (0)))):=.o2 fun hok h1 h2 hp=>by
  refine St.enter (N:=36) Tryz.func64 rfl rfl rfl hok (enter2 h1 h2) fun a=>?_
  have hb:=hp.2.1
  have ht:=trn_0 hp.2.2
  have hbt:=bt_0 hp.2.1 hp.2.2
  repeat' (first | refine W.run ?_ fun a w G=>?_ | refine W.mv fun a w G=>?_ | refine W.asg fun a w G=>?_ | refine W.bx fun b a w G=>?_ | (refine W.nn hK ?_;clear hK K) | refine W.reg fun K hK=>?_ | refine W.reg1 ?_ | refine W.nl ?_ | refine W.sq fun K hK=>?_ | refine W.ds ?_ (fun β a w G hu=>W.fin ?_ hu) mixedOrders (by kernel_rfl) | refine W.sk ?_ | (refine W.kn hK ?_;clear hK K) | refine W.cd (fun hc=>?_) (fun hc=>?_) | refine W.cb (fun hc=>?_) (fun hc=>?_) | refine W.al fun b a w G=>?_ | refine W.st fun w=>?_ | refine W.stp fun w=>?_ | refine W.ste ?_ fun w=>?_ | refine W.bl ?_ | refine W.bn ?_ | refine W.ex ?_ | refine W.xt ?_ | refine W.xb ?_ | refine W.xo ?_ | refine W.rt ?_ | refine W.tr ?_ | refine W.br ?_ | refine W.rt1 rfl ?_ | refine W.rt2 rfl ?_ ?_ | refine W.rt3 rfl ?_ ?_ ?_ | clear hK K | clear hu | exact True.intro | exact Nat.le_trans (by clear hp;omega) hp | exact Nat.le_trans (by clear hp;omega) hp.1 | exact Nat.le_trans (by clear hp;omega) hp.2 | (clear hp;omega) | apply And.intro | refine GI.i fun _=>?_ | with_reducible rfl | decide | (simp only [List.length_cons,List.length_nil];omega))
  all_goals first | (exfalso;omega) | assumption | exact hp.2.2 | exact hp.2.1 | rfl
instance {n m : Nat} {rg ra rb rc t : FR} {h : Bool} {τ1 : MT} [j1 : NF τ1 (QUD n rg ra rb rc)] {τ2 : MT} [j2 : NF τ2 (TRN m t h)] : Con Tryz.prog 64 [τ1,τ2] (10000 * n + 10000 * m + 100000 ≤ BIG ∧ barC [rg,ra,rb,rc] = 0 ∧ trnF h t = true) (MT.tup2 (PLQ (n + 4 * m + 130) (ra.val * dirC h t.val) (ra.val * dirS h t.val)) (.ex (errV 70 (0)))):=.o2 fun hok h1 h2 hp=>w64.c2 hok (j1.h h1) (j2.h h2) hp
theorem w40 {n m : Nat} {rg ra rb rc t : FR} {h : Bool} : Con Tryz.prog 40 [QUD n rg ra rb rc,TRN m t h] (10000 * n + 10000 * m + 100000 ≤ BIG ∧ barC [rg,ra,rb,rc] = 0 ∧ trnF h t = true) (MT.tup2 (PTS [(some 6,PLQ (n + 4 * m + 130) (ra.val * dirC h t.val) (ra.val * dirS h t.val)),(some 6,PLQ (2 * n + 4 * m + 131) (wayX rg.val ra.val h t.val) (wayY ra.val h t.val)),(some 3,QC (8 * n + 16 * m + 525) (d2F (wayX rg.val ra.val h t.val) (wayY ra.val h t.val)))]) (.ex (errV 70 (0)))):=.o2 fun hok h1 h2 hp=>by
  refine St.enter (N:=38) Tryz.func40 rfl rfl rfl hok (enter2 h1 h2) fun a=>?_
  have hb:=hp.2.1
  have ht:=trn_0 hp.2.2
  have hbt:=bt_0 hp.2.1 hp.2.2
  repeat' (first | refine W.run ?_ fun a w G=>?_ | refine W.mv fun a w G=>?_ | refine W.asg fun a w G=>?_ | refine W.bx fun b a w G=>?_ | (refine W.nn hK ?_;clear hK K) | refine W.reg fun K hK=>?_ | refine W.reg1 ?_ | refine W.nl ?_ | refine W.sq fun K hK=>?_ | refine W.ds ?_ (fun β a w G hu=>W.fin ?_ hu) mixedOrders (by kernel_rfl) | refine W.sk ?_ | (refine W.kn hK ?_;clear hK K) | refine W.cd (fun hc=>?_) (fun hc=>?_) | refine W.cb (fun hc=>?_) (fun hc=>?_) | refine W.al fun b a w G=>?_ | refine W.st fun w=>?_ | refine W.stp fun w=>?_ | refine W.ste ?_ fun w=>?_ | refine W.bl ?_ | refine W.bn ?_ | refine W.ex ?_ | refine W.xt ?_ | refine W.xb ?_ | refine W.xo ?_ | refine W.rt ?_ | refine W.tr ?_ | refine W.br ?_ | refine W.rt1 rfl ?_ | refine W.rt2 rfl ?_ ?_ | refine W.rt3 rfl ?_ ?_ ?_ | clear hK K | clear hu | exact True.intro | exact Nat.le_trans (by clear hp;omega) hp | exact Nat.le_trans (by clear hp;omega) hp.1 | exact Nat.le_trans (by clear hp;omega) hp.2 | (clear hp;omega) | apply And.intro | refine GI.i fun _=>?_ | with_reducible rfl | decide | (simp only [List.length_cons,List.length_nil];omega))
  all_goals first | (exfalso;omega) | assumption | exact hp.2.2 | exact hp.2.1 | rfl
instance {n m : Nat} {rg ra rb rc t : FR} {h : Bool} {τ1 : MT} [j1 : NF τ1 (QUD n rg ra rb rc)] {τ2 : MT} [j2 : NF τ2 (TRN m t h)] : Con Tryz.prog 40 [τ1,τ2] (10000 * n + 10000 * m + 100000 ≤ BIG ∧ barC [rg,ra,rb,rc] = 0 ∧ trnF h t = true) (MT.tup2 (PTS [(some 6,PLQ (n + 4 * m + 130) (ra.val * dirC h t.val) (ra.val * dirS h t.val)),(some 6,PLQ (2 * n + 4 * m + 131) (wayX rg.val ra.val h t.val) (wayY ra.val h t.val)),(some 3,QC (8 * n + 16 * m + 525) (d2F (wayX rg.val ra.val h t.val) (wayY ra.val h t.val)))]) (.ex (errV 70 (0)))):=.o2 fun hok h1 h2 hp=>w40.c2 hok (j1.h h1) (j2.h h2) hp
theorem w42 {n m : Nat} {rg ra rb rc : FR} {d : Rat} : Con Tryz.prog 42 [QUD n rg ra rb rc,QV m d] (100 * n + 100 * m + 1000 ≤ BIG) (QC (6 * n + 2 * m + 69) (discF rb.val rc.val d)):=.o2 fun hok h1 h2 hp=>by
  refine St.enter (N:=23) Tryz.func42 rfl rfl rfl hok (enter2 h1 h2) fun a=>?_
  repeat' (first | refine W.run ?_ fun a w G=>?_ | refine W.mv fun a w G=>?_ | refine W.asg fun a w G=>?_ | refine W.bx fun b a w G=>?_ | (refine W.nn hK ?_;clear hK K) | refine W.reg fun K hK=>?_ | refine W.reg1 ?_ | refine W.nl ?_ | refine W.sq fun K hK=>?_ | refine W.ds ?_ (fun β a w G hu=>W.fin ?_ hu) mixedOrders (by kernel_rfl) | refine W.sk ?_ | (refine W.kn hK ?_;clear hK K) | refine W.cd (fun hc=>?_) (fun hc=>?_) | refine W.cb (fun hc=>?_) (fun hc=>?_) | refine W.al fun b a w G=>?_ | refine W.st fun w=>?_ | refine W.stp fun w=>?_ | refine W.ste ?_ fun w=>?_ | refine W.bl ?_ | refine W.bn ?_ | refine W.ex ?_ | refine W.xt ?_ | refine W.xb ?_ | refine W.xo ?_ | refine W.rt ?_ | refine W.tr ?_ | refine W.br ?_ | refine W.rt1 rfl ?_ | refine W.rt2 rfl ?_ ?_ | refine W.rt3 rfl ?_ ?_ ?_ | clear hK K | clear hu | exact True.intro | exact Nat.le_trans (by clear hp;omega) hp | exact Nat.le_trans (by clear hp;omega) hp.1 | exact Nat.le_trans (by clear hp;omega) hp.2 | (clear hp;omega) | apply And.intro | refine GI.i fun _=>?_ | with_reducible rfl | decide | (simp only [List.length_cons,List.length_nil];omega))
  all_goals rfl
instance {n m : Nat} {rg ra rb rc : FR} {d : Rat} {τ1 : MT} [j1 : NF τ1 (QUD n rg ra rb rc)] {τ2 : MT} [j2 : NQ τ2 (QV m d)] : Con Tryz.prog 42 [τ1,τ2] (100 * n + 100 * m + 1000 ≤ BIG) (QC (6 * n + 2 * m + 69) (discF rb.val rc.val d)):=.o2 fun hok h1 h2 hp=>w42.c2 hok (j1.h h1) (j2.h h2) hp
theorem w53 {n m : Nat} {rg ra rb rc t : FR} {h : Bool} : Con Tryz.prog 53 [QUD n rg ra rb rc,TRN m t h] (10000 * n + 10000 * m + 100000 ≤ BIG ∧ barC [rg,ra,rb,rc] = 0 ∧ trnF h t = true) (MT.tup2 (QC (22 * n + 32 * m + 1119) (dsc rg ra rb rc h t.val)) (.ex (errV 70 (0)))):=.o2 fun hok h1 h2 hp=>by
  refine St.enter (N:=22) Tryz.func53 rfl rfl rfl hok (enter2 h1 h2) fun a=>?_
  have hb:=hp.2.1
  have ht:=trn_0 hp.2.2
  have hbt:=bt_0 hp.2.1 hp.2.2
  repeat' (first | refine W.run ?_ fun a w G=>?_ | refine W.mv fun a w G=>?_ | refine W.asg fun a w G=>?_ | refine W.bx fun b a w G=>?_ | (refine W.nn hK ?_;clear hK K) | refine W.reg fun K hK=>?_ | refine W.reg1 ?_ | refine W.nl ?_ | refine W.sq fun K hK=>?_ | refine W.ds ?_ (fun β a w G hu=>W.fin ?_ hu) mixedOrders (by kernel_rfl) | refine W.sk ?_ | (refine W.kn hK ?_;clear hK K) | refine W.cd (fun hc=>?_) (fun hc=>?_) | refine W.cb (fun hc=>?_) (fun hc=>?_) | refine W.al fun b a w G=>?_ | refine W.st fun w=>?_ | refine W.stp fun w=>?_ | refine W.ste ?_ fun w=>?_ | refine W.bl ?_ | refine W.bn ?_ | refine W.ex ?_ | refine W.xt ?_ | refine W.xb ?_ | refine W.xo ?_ | refine W.rt ?_ | refine W.tr ?_ | refine W.br ?_ | refine W.rt1 rfl ?_ | refine W.rt2 rfl ?_ ?_ | refine W.rt3 rfl ?_ ?_ ?_ | clear hK K | clear hu | exact True.intro | exact Nat.le_trans (by clear hp;omega) hp | exact Nat.le_trans (by clear hp;omega) hp.1 | exact Nat.le_trans (by clear hp;omega) hp.2 | (clear hp;omega) | apply And.intro | refine GI.i fun _=>?_ | with_reducible rfl | decide | (simp only [List.length_cons,List.length_nil];omega))
  all_goals first | (exfalso;omega) | assumption | exact hp.2.2 | exact hp.2.1 | rfl
instance {n m : Nat} {rg ra rb rc t : FR} {h : Bool} {τ1 : MT} [j1 : NF τ1 (QUD n rg ra rb rc)] {τ2 : MT} [j2 : NF τ2 (TRN m t h)] : Con Tryz.prog 53 [τ1,τ2] (10000 * n + 10000 * m + 100000 ≤ BIG ∧ barC [rg,ra,rb,rc] = 0 ∧ trnF h t = true) (MT.tup2 (QC (22 * n + 32 * m + 1119) (dsc rg ra rb rc h t.val)) (.ex (errV 70 (0)))):=.o2 fun hok h1 h2 hp=>w53.c2 hok (j1.h h1) (j2.h h2) hp
end Go.Proofs.YtpbkcbnghhodiaaGreat
set_option linter.unusedVariables false
set_option linter.unusedSimpArgs false
set_option maxHeartbeats 4000000
set_option maxRecDepth 100000
set_option synthInstance.maxSize 100000
set_option synthInstance.maxHeartbeats 400000
namespace Go.Proofs.YtpbkcbnghhodiaaGreat
open Go.RowKit (Below)
attribute [local irreducible] barC trnC btC ciF dsc enR enL cirs exC ofC ofI
theorem w25 {n m : Nat} {rg ra rb rc t : FR} {h : Bool} : Con Tryz.prog 25 [QUD n rg ra rb rc,TRN m t h] (10000 * n + 10000 * m + 100000 ≤ BIG ∧ barC [rg,ra,rb,rc] = 0 ∧ trnF h t = true) (MT.tup2 (IT (dsc rg ra rb rc h t.val).num.sign) (.ex (errV 70 (0)))):=.o2 fun hok h1 h2 hp=>by
  refine St.enter (N:=17) Tryz.func25 rfl rfl rfl hok (enter2 h1 h2) fun a=>?_
  have hb:=hp.2.1
  have ht:=trn_0 hp.2.2
  have hbt:=bt_0 hp.2.1 hp.2.2
  repeat' (first | refine W.run ?_ fun a w G=>?_ | refine W.mv fun a w G=>?_ | refine W.asg fun a w G=>?_ | refine W.bx fun b a w G=>?_ | (refine W.nn hK ?_;clear hK K) | refine W.reg fun K hK=>?_ | refine W.reg1 ?_ | refine W.nl ?_ | refine W.sq fun K hK=>?_ | refine W.ds ?_ (fun β a w G hu=>W.fin ?_ hu) mixedOrders (by kernel_rfl) | refine W.sk ?_ | (refine W.kn hK ?_;clear hK K) | refine W.cd (fun hc=>?_) (fun hc=>?_) | refine W.cb (fun hc=>?_) (fun hc=>?_) | refine W.al fun b a w G=>?_ | refine W.st fun w=>?_ | refine W.stp fun w=>?_ | refine W.ste ?_ fun w=>?_ | refine W.bl ?_ | refine W.bn ?_ | refine W.ex ?_ | refine W.xt ?_ | refine W.xb ?_ | refine W.xo ?_ | refine W.rt ?_ | refine W.tr ?_ | refine W.br ?_ | refine W.rt1 rfl ?_ | refine W.rt2 rfl ?_ ?_ | refine W.rt3 rfl ?_ ?_ ?_ | clear hK K | clear hu | exact True.intro | exact Nat.le_trans (by clear hp;omega) hp | exact Nat.le_trans (by clear hp;omega) hp.1 | exact Nat.le_trans (by clear hp;omega) hp.2 | (clear hp;omega) | apply And.intro | refine GI.i fun _=>?_ | with_reducible rfl | decide | (simp only [List.length_cons,List.length_nil];omega))
  all_goals first | (exfalso;omega) | assumption | exact hp.2.2 | exact hp.2.1 | rfl
instance {n m : Nat} {rg ra rb rc t : FR} {h : Bool} {τ1 : MT} [j1 : NF τ1 (QUD n rg ra rb rc)] {τ2 : MT} [j2 : NF τ2 (TRN m t h)] : Con Tryz.prog 25 [τ1,τ2] (10000 * n + 10000 * m + 100000 ≤ BIG ∧ barC [rg,ra,rb,rc] = 0 ∧ trnF h t = true) (MT.tup2 (IT (dsc rg ra rb rc h t.val).num.sign) (.ex (errV 70 (0)))):=.o2 fun hok h1 h2 hp=>w25.c2 hok (j1.h h1) (j2.h h2) hp
theorem w24 {n : Nat} {rg ra rb rc : FR} : Con Tryz.prog 24 [QUD n rg ra rb rc] (100000 * n + 10000000 ≤ BIG) (.ex (errV 70 (ciF rg ra rb rc))):=.o1 fun hok h1 hp=>by
  refine St.enter (N:=35) Tryz.func24 rfl rfl rfl hok (enter1 h1) fun a=>?_
  repeat' (first | refine W.run ?_ fun a w G=>?_ | refine W.mv fun a w G=>?_ | refine W.asg fun a w G=>?_ | refine W.bx fun b a w G=>?_ | (refine W.nn hK ?_;clear hK K) | refine W.reg fun K hK=>?_ | refine W.reg1 ?_ | refine W.nl ?_ | refine W.sq fun K hK=>?_ | refine W.ds ?_ (fun β a w G hu=>W.fin ?_ hu) mixedOrders (by kernel_rfl) | refine W.sk ?_ | (refine W.kn hK ?_;clear hK K) | refine W.cd (fun hc=>?_) (fun hc=>?_) | refine W.cb (fun hc=>?_) (fun hc=>?_) | refine W.al fun b a w G=>?_ | refine W.st fun w=>?_ | refine W.stp fun w=>?_ | refine W.ste ?_ fun w=>?_ | refine W.bl ?_ | refine W.bn ?_ | refine W.ex ?_ | refine W.xt ?_ | refine W.xb ?_ | refine W.xo ?_ | refine W.rt ?_ | refine W.tr ?_ | refine W.br ?_ | refine W.rt1 rfl ?_ | refine W.rt2 rfl ?_ ?_ | refine W.rt3 rfl ?_ ?_ ?_ | clear hK K | clear hu | exact True.intro | exact Nat.le_trans (by clear hp;omega) hp | exact Nat.le_trans (by clear hp;omega) hp.1 | exact Nat.le_trans (by clear hp;omega) hp.2 | (clear hp;omega) | apply And.intro | refine GI.i fun _=>?_ | with_reducible rfl | decide | (simp only [List.length_cons,List.length_nil];omega))
  all_goals first
    | exact ci_b hc
    | (have hb : barC [rg, ra, rb, rc] = 0 := by omega
       rw [qu_sq hb] at *
       first
       | exact ci_16 hb hc
       | (have hk := chk_two (sq_pos hb) ‹_›
          rw [Bool.and_eq_true,decide_eq_true_eq,decide_eq_true_eq] at hc
          exact (ci_15 hb hk hc.1 hc.2).symm)
       | (have hk := chk_two (sq_pos hb) ‹_›
          exact ci_0 hb hk (by simpa using hc)))
instance {n : Nat} {rg ra rb rc : FR} {τ1 : MT} [j1 : NF τ1 (QUD n rg ra rb rc)] : Con Tryz.prog 24 [τ1] (100000 * n + 10000000 ≤ BIG) (.ex (errV 70 (ciF rg ra rb rc))):=.o1 fun hok h1 hp=>w24.c1 hok (j1.h h1) hp
theorem w8 {n : Nat} {rg ra rb rc : FR} : Con Tryz.prog 8 [QUD n rg ra rb rc] (100000 * n + 10000000 ≤ BIG) (MT.tup3 (IT (enR rg ra rb rc)) (IT (enL rg ra rb rc)) (.ex (errV 70 (ciF rg ra rb rc)))):=.o1 fun hok h1 hp=>by
  refine St.enter (N:=31) Tryz.func8 rfl rfl rfl hok (enter1 h1) fun a=>?_
  repeat' (first | refine W.run ?_ fun a w G=>?_ | refine W.mv fun a w G=>?_ | refine W.asg fun a w G=>?_ | refine W.bx fun b a w G=>?_ | (refine W.nn hK ?_;clear hK K) | refine W.reg fun K hK=>?_ | refine W.reg1 ?_ | refine W.nl ?_ | refine W.sq fun K hK=>?_ | refine W.ds ?_ (fun β a w G hu=>W.fin ?_ hu) mixedOrders (by kernel_rfl) | refine W.sk ?_ | (refine W.kn hK ?_;clear hK K) | refine W.cd (fun hc=>?_) (fun hc=>?_) | refine W.cb (fun hc=>?_) (fun hc=>?_) | refine W.al fun b a w G=>?_ | refine W.st fun w=>?_ | refine W.stp fun w=>?_ | refine W.ste ?_ fun w=>?_ | refine W.bl ?_ | refine W.bn ?_ | refine W.ex ?_ | refine W.xt ?_ | refine W.xb ?_ | refine W.xo ?_ | refine W.rt ?_ | refine W.tr ?_ | refine W.br ?_ | refine W.rt1 rfl ?_ | refine W.rt2 rfl ?_ ?_ | refine W.rt3 rfl ?_ ?_ ?_ | clear hK K | clear hu | exact True.intro | exact Nat.le_trans (by clear hp;omega) hp | exact Nat.le_trans (by clear hp;omega) hp.1 | exact Nat.le_trans (by clear hp;omega) hp.2 | (clear hp;omega) | apply And.intro | refine GI.i fun _=>?_ | with_reducible rfl | decide | (simp only [List.length_cons,List.length_nil];omega))
  all_goals first
    | exact enR_bad hc | exact enL_bad hc | exact enR_ok (by omega) | exact enL_ok (by omega) | exact ci_bar (by omega) | exact trn_zero | (exfalso;omega)
instance {n : Nat} {rg ra rb rc : FR} {τ1 : MT} [j1 : NF τ1 (QUD n rg ra rb rc)] : Con Tryz.prog 8 [τ1] (100000 * n + 10000000 ≤ BIG) (MT.tup3 (IT (enR rg ra rb rc)) (IT (enL rg ra rb rc)) (.ex (errV 70 (ciF rg ra rb rc)))):=.o1 fun hok h1 hp=>w8.c1 hok (j1.h h1) hp
theorem w9 {n : Nat} {rg ra rb rc : FR} : Con Tryz.prog 9 [QUD n rg ra rb rc] (100000 * n + 10000000 ≤ BIG) (MT.tup2 (LS (some 3) ((cirs rg ra rb rc).map CIR)) (.ex (errV 70 (ciF rg ra rb rc)))):=.o1 fun hok h1 hp=>by
  refine St.enter (N:=47) Tryz.func9 rfl rfl rfl hok (enter1 h1) fun a=>?_
  repeat' (first | refine W.run ?_ fun a w G=>?_ | refine W.mv fun a w G=>?_ | refine W.asg fun a w G=>?_ | refine W.bx fun b a w G=>?_ | (refine W.nn hK ?_;clear hK K) | refine W.reg fun K hK=>?_ | refine W.reg1 ?_ | refine W.nl ?_ | refine W.sq fun K hK=>?_ | refine W.ds ?_ (fun β a w G hu=>W.fin ?_ hu) mixedOrders (by kernel_rfl) | refine W.sk ?_ | (refine W.kn hK ?_;clear hK K) | refine W.cd (fun hc=>?_) (fun hc=>?_) | refine W.cb (fun hc=>?_) (fun hc=>?_) | refine W.al fun b a w G=>?_ | refine W.st fun w=>?_ | refine W.stp fun w=>?_ | refine W.ste ?_ fun w=>?_ | refine W.bl ?_ | refine W.bn ?_ | refine W.ex ?_ | refine W.xt ?_ | refine W.xb ?_ | refine W.xo ?_ | refine W.rt ?_ | refine W.tr ?_ | refine W.br ?_ | refine W.rt1 rfl ?_ | refine W.rt2 rfl ?_ ?_ | refine W.rt3 rfl ?_ ?_ ?_ | clear hK K | clear hu | exact True.intro | exact Nat.le_trans (by clear hp;omega) hp | exact Nat.le_trans (by clear hp;omega) hp.1 | exact Nat.le_trans (by clear hp;omega) hp.2 | (clear hp;omega) | apply And.intro | refine GI.i fun _=>?_ | with_reducible rfl | decide | (simp only [List.length_cons,List.length_nil];omega))
  all_goals first | exact (cirs_bad hc).symm | (rw [cirs_ok (by omega)];unfold cirF;grind)
instance {n : Nat} {rg ra rb rc : FR} {τ1 : MT} [j1 : NF τ1 (QUD n rg ra rb rc)] : Con Tryz.prog 9 [τ1] (100000 * n + 10000000 ≤ BIG) (MT.tup2 (LS (some 3) ((cirs rg ra rb rc).map CIR)) (.ex (errV 70 (ciF rg ra rb rc)))):=.o1 fun hok h1 hp=>w9.c1 hok (j1.h h1) hp
theorem w33 {n m : Nat} {rg ra rb rc t : FR} {h : Bool} {md : Int} : Con Tryz.prog 33 [QUD n rg ra rb rc,BST m t h md] (100000 * n + 100000 * m + 10000000 ≤ BIG ∧ barC [rg,ra,rb,rc] = 0 ∧ trnF h t = true) (.ex (errV 70 (exC rg ra rb rc h t md))):=.o2 fun hok h1 h2 hp=>by
  refine St.enter (N:=55) Tryz.func33 rfl rfl rfl hok (enter2 h1 h2) fun a=>?_
  have hb:=hp.2.1
  have ht:=trn_0 hp.2.2
  have hbt:=bt_0 hp.2.1 hp.2.2
  repeat' (first | refine W.run ?_ fun a w G=>?_ | refine W.mv fun a w G=>?_ | refine W.asg fun a w G=>?_ | refine W.bx fun b a w G=>?_ | (refine W.nn hK ?_;clear hK K) | refine W.reg fun K hK=>?_ | refine W.reg1 ?_ | refine W.nl ?_ | refine W.sq fun K hK=>?_ | refine W.ds ?_ (fun β a w G hu=>W.fin ?_ hu) mixedOrders (by kernel_rfl) | refine W.sk ?_ | (refine W.kn hK ?_;clear hK K) | refine W.cd (fun hc=>?_) (fun hc=>?_) | refine W.cb (fun hc=>?_) (fun hc=>?_) | refine W.al fun b a w G=>?_ | refine W.st fun w=>?_ | refine W.stp fun w=>?_ | refine W.ste ?_ fun w=>?_ | refine W.bl ?_ | refine W.bn ?_ | refine W.ex ?_ | refine W.xt ?_ | refine W.xb ?_ | refine W.xo ?_ | refine W.rt ?_ | refine W.tr ?_ | refine W.br ?_ | refine W.rt1 rfl ?_ | refine W.rt2 rfl ?_ ?_ | refine W.rt3 rfl ?_ ?_ ?_ | clear hK K | clear hu | exact True.intro | exact Nat.le_trans (by clear hp;omega) hp | exact Nat.le_trans (by clear hp;omega) hp.1 | exact Nat.le_trans (by clear hp;omega) hp.2 | (clear hp;omega) | apply And.intro | refine GI.i fun _=>?_ | with_reducible rfl | decide | (simp only [List.length_cons,List.length_nil];omega))
  all_goals first | exact hp.2.2 | (unfold exC exK;grind)
instance {n m : Nat} {rg ra rb rc t : FR} {h : Bool} {md : Int} {τ1 : MT} [j1 : NF τ1 (QUD n rg ra rb rc)] {τ2 : MT} [j2 : NF τ2 (BST m t h md)] : Con Tryz.prog 33 [τ1,τ2] (100000 * n + 100000 * m + 10000000 ≤ BIG ∧ barC [rg,ra,rb,rc] = 0 ∧ trnF h t = true) (.ex (errV 70 (exC rg ra rb rc h t md))):=.o2 fun hok h1 h2 hp=>w33.c2 hok (j1.h h1) (j2.h h2) hp
theorem w14 {n m : Nat} {rg ra rb rc t : FR} {h : Bool} {md : Int} : Con Tryz.prog 14 [QUD n rg ra rb rc,BST m t h md] (100000 * n + 100000 * m + 10000000 ≤ BIG) (MT.tup2 (IT (ofI rg ra rb rc h t md)) (.ex (errV 70 (ofC rg ra rb rc h t md)))):=.o2 fun hok h1 h2 hp=>by
  refine St.enter (N:=63) Tryz.func14 rfl rfl rfl hok (enter2 h1 h2) fun a=>?_
  repeat' (first | refine W.run ?_ fun a w G=>?_ | refine W.mv fun a w G=>?_ | refine W.asg fun a w G=>?_ | refine W.bx fun b a w G=>?_ | (refine W.nn hK ?_;clear hK K) | refine W.reg fun K hK=>?_ | refine W.reg1 ?_ | refine W.nl ?_ | refine W.sq fun K hK=>?_ | refine W.ds ?_ (fun β a w G hu=>W.fin ?_ hu) mixedOrders (by kernel_rfl) | refine W.sk ?_ | (refine W.kn hK ?_;clear hK K) | refine W.cd (fun hc=>?_) (fun hc=>?_) | refine W.cb (fun hc=>?_) (fun hc=>?_) | refine W.al fun b a w G=>?_ | refine W.st fun w=>?_ | refine W.stp fun w=>?_ | refine W.ste ?_ fun w=>?_ | refine W.bl ?_ | refine W.bn ?_ | refine W.ex ?_ | refine W.xt ?_ | refine W.xb ?_ | refine W.xo ?_ | refine W.rt ?_ | refine W.tr ?_ | refine W.br ?_ | refine W.rt1 rfl ?_ | refine W.rt2 rfl ?_ ?_ | refine W.rt3 rfl ?_ ?_ ?_ | clear hK K | clear hu | exact True.intro | exact Nat.le_trans (by clear hp;omega) hp | exact Nat.le_trans (by clear hp;omega) hp.1 | exact Nat.le_trans (by clear hp;omega) hp.2 | (clear hp;omega) | apply And.intro | refine GI.i fun _=>?_ | with_reducible rfl | decide | (simp only [List.length_cons,List.length_nil];omega))
  all_goals first
    | exact ci_bar (by omega)
    | exact of_trn (by assumption)
    | exact cirs_pos (by omega)
    | grind [ofI,ofC,ofK,of_trn,trn_0,trn_two]
instance {n m : Nat} {rg ra rb rc t : FR} {h : Bool} {md : Int} {τ1 : MT} [j1 : NF τ1 (QUD n rg ra rb rc)] {τ2 : MT} [j2 : NF τ2 (BST m t h md)] : Con Tryz.prog 14 [τ1,τ2] (100000 * n + 100000 * m + 10000000 ≤ BIG) (MT.tup2 (IT (ofI rg ra rb rc h t md)) (.ex (errV 70 (ofC rg ra rb rc h t md)))):=.o2 fun hok h1 h2 hp=>w14.c2 hok (j1.h h1) (j2.h h2) hp
def boC (g a b c : FR) (h : Bool) (t : FR) (m : Int) (h2 : Bool) (t2 : FR) (m2 : Int) : Int:=if ofC g a b c h t m = 0 then ofC g a b c h2 t2 m2 else ofC g a b c h t m
def boI (g a b c : FR) (h : Bool) (t : FR) (m : Int) (h2 : Bool) (t2 : FR) (m2 : Int) : Int:=if boC g a b c h t m h2 t2 m2 = 0 then ofI g a b c h t m else 0
def boK (g a b c : FR) (h : Bool) (t : FR) (m : Int) (h2 : Bool) (t2 : FR) (m2 : Int) : Int:=if boC g a b c h t m h2 t2 m2 = 0 then ofI g a b c h2 t2 m2 else 0
theorem w35 {n m m2 : Nat} {rg ra rb rc t t2 : FR} {h h2 : Bool} {md md2 : Int} : Con Tryz.prog 35 [QUD n rg ra rb rc,BST m t h md,BST m2 t2 h2 md2] (100000 * n + 100000 * m + 100000 * m2 + 10000000 ≤ BIG) (MT.tup3 (IT (boI rg ra rb rc h t md h2 t2 md2)) (IT (boK rg ra rb rc h t md h2 t2 md2)) (.ex (errV 70 (boC rg ra rb rc h t md h2 t2 md2)))):=.o3 fun hok h1 h2 h3 hp=>by
  refine St.enter (N:=32) Tryz.func35 rfl rfl rfl hok (enter3 h1 h2 h3) fun a=>?_
  repeat' (first | refine W.run ?_ fun a w G=>?_ | refine W.mv fun a w G=>?_ | refine W.asg fun a w G=>?_ | refine W.bx fun b a w G=>?_ | (refine W.nn hK ?_;clear hK K) | refine W.reg fun K hK=>?_ | refine W.reg1 ?_ | refine W.nl ?_ | refine W.sq fun K hK=>?_ | refine W.ds ?_ (fun β a w G hu=>W.fin ?_ hu) mixedOrders (by kernel_rfl) | refine W.sk ?_ | (refine W.kn hK ?_;clear hK K) | refine W.cd (fun hc=>?_) (fun hc=>?_) | refine W.cb (fun hc=>?_) (fun hc=>?_) | refine W.al fun b a w G=>?_ | refine W.st fun w=>?_ | refine W.stp fun w=>?_ | refine W.ste ?_ fun w=>?_ | refine W.bl ?_ | refine W.bn ?_ | refine W.ex ?_ | refine W.xt ?_ | refine W.xb ?_ | refine W.xo ?_ | refine W.rt ?_ | refine W.tr ?_ | refine W.br ?_ | refine W.rt1 rfl ?_ | refine W.rt2 rfl ?_ ?_ | refine W.rt3 rfl ?_ ?_ ?_ | clear hK K | clear hu | exact True.intro | exact Nat.le_trans (by clear hp;omega) hp | exact Nat.le_trans (by clear hp;omega) hp.1 | exact Nat.le_trans (by clear hp;omega) hp.2 | (clear hp;omega) | apply And.intro | refine GI.i fun _=>?_ | with_reducible rfl | decide | (simp only [List.length_cons,List.length_nil];omega))
  all_goals grind [boC,boI,boK]
instance {n m m2 : Nat} {rg ra rb rc t t2 : FR} {h h2 : Bool} {md md2 : Int} {τ1 : MT} [j1 : NF τ1 (QUD n rg ra rb rc)] {τ2 : MT} [j2 : NF τ2 (BST m t h md)] {τ3 : MT} [j3 : NF τ3 (BST m2 t2 h2 md2)] : Con Tryz.prog 35 [τ1,τ2,τ3] (100000 * n + 100000 * m + 100000 * m2 + 10000000 ≤ BIG) (MT.tup3 (IT (boI rg ra rb rc h t md h2 t2 md2)) (IT (boK rg ra rb rc h t md h2 t2 md2)) (.ex (errV 70 (boC rg ra rb rc h t md h2 t2 md2)))):=.o3 fun hok h1 h2 h3 hp=>w35.c3 hok (j1.h h1) (j2.h h2) (j3.h h3) hp
theorem w15 {n m m2 : Nat} {rg ra rb rc t t2 : FR} {h h2 : Bool} {md md2 : Int} : Con Tryz.prog 15 [QUD n rg ra rb rc,BST m t h md,BST m2 t2 h2 md2] (100000 * n + 100000 * m + 100000 * m2 + 10000000 ≤ BIG) (MT.tup2 (BT (decide (boC rg ra rb rc h t md h2 t2 md2 = 0) && decide (boI rg ra rb rc h t md h2 t2 md2 = boK rg ra rb rc h t md h2 t2 md2))) (.ex (errV 70 (boC rg ra rb rc h t md h2 t2 md2)))):=.o3 fun hok h1 h2 h3 hp=>by
  refine St.enter (N:=27) Tryz.func15 rfl rfl rfl hok (enter3 h1 h2 h3) fun a=>?_
  repeat' (first | refine W.run ?_ fun a w G=>?_ | refine W.mv fun a w G=>?_ | refine W.asg fun a w G=>?_ | refine W.bx fun b a w G=>?_ | (refine W.nn hK ?_;clear hK K) | refine W.reg fun K hK=>?_ | refine W.reg1 ?_ | refine W.nl ?_ | refine W.sq fun K hK=>?_ | refine W.ds ?_ (fun β a w G hu=>W.fin ?_ hu) mixedOrders (by kernel_rfl) | refine W.sk ?_ | (refine W.kn hK ?_;clear hK K) | refine W.cd (fun hc=>?_) (fun hc=>?_) | refine W.cb (fun hc=>?_) (fun hc=>?_) | refine W.al fun b a w G=>?_ | refine W.st fun w=>?_ | refine W.stp fun w=>?_ | refine W.ste ?_ fun w=>?_ | refine W.bl ?_ | refine W.bn ?_ | refine W.ex ?_ | refine W.xt ?_ | refine W.xb ?_ | refine W.xo ?_ | refine W.rt ?_ | refine W.tr ?_ | refine W.br ?_ | refine W.rt1 rfl ?_ | refine W.rt2 rfl ?_ ?_ | refine W.rt3 rfl ?_ ?_ ?_ | clear hK K | clear hu | exact True.intro | exact Nat.le_trans (by clear hp;omega) hp | exact Nat.le_trans (by clear hp;omega) hp.1 | exact Nat.le_trans (by clear hp;omega) hp.2 | (clear hp;omega) | apply And.intro | refine GI.i fun _=>?_ | with_reducible rfl | decide | (simp only [List.length_cons,List.length_nil];omega))
instance {n m m2 : Nat} {rg ra rb rc t t2 : FR} {h h2 : Bool} {md md2 : Int} {τ1 : MT} [j1 : NF τ1 (QUD n rg ra rb rc)] {τ2 : MT} [j2 : NF τ2 (BST m t h md)] {τ3 : MT} [j3 : NF τ3 (BST m2 t2 h2 md2)] : Con Tryz.prog 15 [τ1,τ2,τ3] (100000 * n + 100000 * m + 100000 * m2 + 10000000 ≤ BIG) (MT.tup2 (BT (decide (boC rg ra rb rc h t md h2 t2 md2 = 0) && decide (boI rg ra rb rc h t md h2 t2 md2 = boK rg ra rb rc h t md h2 t2 md2))) (.ex (errV 70 (boC rg ra rb rc h t md h2 t2 md2)))):=.o3 fun hok h1 h2 h3 hp=>w15.c3 hok (j1.h h1) (j2.h h2) (j3.h h3) hp
theorem w16 {n m m2 : Nat} {rg ra rb rc t t2 : FR} {h h2 : Bool} {md md2 : Int} : Con Tryz.prog 16 [QUD n rg ra rb rc,BST m t h md,BST m2 t2 h2 md2] (100000 * n + 100000 * m + 100000 * m2 + 10000000 ≤ BIG) (MT.tup2 (BT (decide (boC rg ra rb rc h t md h2 t2 md2 = 0) && decide (boI rg ra rb rc h t md h2 t2 md2 = boK rg ra rb rc h t md h2 t2 md2) && decide (md = md2) && decide (md ≠ 0))) (.ex (errV 70 (boC rg ra rb rc h t md h2 t2 md2)))):=.o3 fun hok h1 h2 h3 hp=>by
  refine St.enter (N:=39) Tryz.func16 rfl rfl rfl hok (enter3 h1 h2 h3) fun a=>?_
  repeat' (first | refine W.run ?_ fun a w G=>?_ | refine W.mv fun a w G=>?_ | refine W.asg fun a w G=>?_ | refine W.bx fun b a w G=>?_ | (refine W.nn hK ?_;clear hK K) | refine W.reg fun K hK=>?_ | refine W.reg1 ?_ | refine W.nl ?_ | refine W.sq fun K hK=>?_ | refine W.ds ?_ (fun β a w G hu=>W.fin ?_ hu) mixedOrders (by kernel_rfl) | refine W.sk ?_ | (refine W.kn hK ?_;clear hK K) | refine W.cd (fun hc=>?_) (fun hc=>?_) | refine W.cb (fun hc=>?_) (fun hc=>?_) | refine W.al fun b a w G=>?_ | refine W.st fun w=>?_ | refine W.stp fun w=>?_ | refine W.ste ?_ fun w=>?_ | refine W.bl ?_ | refine W.bn ?_ | refine W.ex ?_ | refine W.xt ?_ | refine W.xb ?_ | refine W.xo ?_ | refine W.rt ?_ | refine W.tr ?_ | refine W.br ?_ | refine W.rt1 rfl ?_ | refine W.rt2 rfl ?_ ?_ | refine W.rt3 rfl ?_ ?_ ?_ | clear hK K | clear hu | exact True.intro | exact Nat.le_trans (by clear hp;omega) hp | exact Nat.le_trans (by clear hp;omega) hp.1 | exact Nat.le_trans (by clear hp;omega) hp.2 | (clear hp;omega) | apply And.intro | refine GI.i fun _=>?_ | with_reducible rfl | decide | (simp only [List.length_cons,List.length_nil];omega))
instance {n m m2 : Nat} {rg ra rb rc t t2 : FR} {h h2 : Bool} {md md2 : Int} {τ1 : MT} [j1 : NF τ1 (QUD n rg ra rb rc)] {τ2 : MT} [j2 : NF τ2 (BST m t h md)] {τ3 : MT} [j3 : NF τ3 (BST m2 t2 h2 md2)] : Con Tryz.prog 16 [τ1,τ2,τ3] (100000 * n + 100000 * m + 100000 * m2 + 10000000 ≤ BIG) (MT.tup2 (BT (decide (boC rg ra rb rc h t md h2 t2 md2 = 0) && decide (boI rg ra rb rc h t md h2 t2 md2 = boK rg ra rb rc h t md h2 t2 md2) && decide (md = md2) && decide (md ≠ 0))) (.ex (errV 70 (boC rg ra rb rc h t md h2 t2 md2)))):=.o3 fun hok h1 h2 h3 hp=>w16.c3 hok (j1.h h1) (j2.h h2) (j3.h h3) hp
end Go.Proofs.YtpbkcbnghhodiaaGreat
set_option linter.unusedVariables false
set_option linter.unusedSimpArgs false
set_option maxHeartbeats 4000000
set_option maxRecDepth 100000
set_option synthInstance.maxSize 100000
set_option synthInstance.maxHeartbeats 400000
namespace Go.Proofs.YtpbkcbnghhodiaaGreat
open Go.RowKit (Below)
attribute [local irreducible] barC trnC btC ciF dsc enR enL cirs exC ofC ofI dirC dirS
theorem shortR_t {r : FR} (h : (decide (((r.p.length : Nat) : Int) > 2) || decide (((r.q.length : Nat) : Int) > 2)) = true) : shortR r = false:=by
  simp only [Bool.or_eq_true,decide_eq_true_eq] at h
  exact shortR_not (by omega)
theorem shortR_f {r : FR} (h : (decide (((r.p.length : Nat) : Int) > 2) || decide (((r.q.length : Nat) : Int) > 2)) = false) : shortR r = true:=by
  simp only [Bool.or_eq_false_iff,decide_eq_false_iff_not] at h
  exact shortR_of (by omega) (by omega)
theorem w36 {n : Nat} {x : Rat} : Con Tryz.prog 36 [QV n x] (n ≤ BIG) (BT (decide (x.num.sign = 0))):=.o1 fun hok h1 hp=>by
  refine St.enter (N:=6) Tryz.func36 rfl rfl rfl hok (enter1 h1) fun a=>?_
  repeat' (first | refine W.run ?_ fun a w G=>?_ | refine W.mv fun a w G=>?_ | refine W.asg fun a w G=>?_ | refine W.bx fun b a w G=>?_ | (refine W.nn hK ?_;clear hK K) | refine W.reg fun K hK=>?_ | refine W.reg1 ?_ | refine W.nl ?_ | refine W.sq fun K hK=>?_ | refine W.ds ?_ (fun β a w G hu=>W.fin ?_ hu) mixedOrders (by kernel_rfl) | refine W.sk ?_ | (refine W.kn hK ?_;clear hK K) | refine W.cd (fun hc=>?_) (fun hc=>?_) | refine W.cb (fun hc=>?_) (fun hc=>?_) | refine W.al fun b a w G=>?_ | refine W.st fun w=>?_ | refine W.stp fun w=>?_ | refine W.ste ?_ fun w=>?_ | refine W.bl ?_ | refine W.bn ?_ | refine W.ex ?_ | refine W.xt ?_ | refine W.xb ?_ | refine W.xo ?_ | refine W.rt ?_ | refine W.tr ?_ | refine W.br ?_ | refine W.rt1 rfl ?_ | refine W.rt2 rfl ?_ ?_ | refine W.rt3 rfl ?_ ?_ ?_ | clear hK K | clear hu | exact True.intro | exact Nat.le_trans (by clear hp;omega) hp | exact Nat.le_trans (by clear hp;omega) hp.1 | exact Nat.le_trans (by clear hp;omega) hp.2 | (clear hp;omega) | apply And.intro | refine GI.i fun _=>?_ | with_reducible rfl | decide | (simp only [List.length_cons,List.length_nil];omega))
instance {n : Nat} {x : Rat} {τ1 : MT} [j1 : NQ τ1 (QV n x)] : Con Tryz.prog 36 [τ1] (n ≤ BIG) (BT (decide (x.num.sign = 0))):=.o1 fun hok h1 hp=>w36.c1 hok (j1.h h1) hp
theorem w19 {m : Nat} {t : FR} {h : Bool} : Con Tryz.prog 19 [TRN m t h] (10000 * m + 100000 ≤ BIG) (BT (trnF h t)):=.o1 fun hok h1 hp=>by
  refine St.enter (N:=16) Tryz.func19 rfl rfl rfl hok (enter1 h1) fun a=>?_
  repeat' (first | refine W.run ?_ fun a w G=>?_ | refine W.mv fun a w G=>?_ | refine W.asg fun a w G=>?_ | refine W.bx fun b a w G=>?_ | (refine W.nn hK ?_;clear hK K) | refine W.reg fun K hK=>?_ | refine W.reg1 ?_ | refine W.nl ?_ | refine W.sq fun K hK=>?_ | refine W.ds ?_ (fun β a w G hu=>W.fin ?_ hu) mixedOrders (by kernel_rfl) | refine W.sk ?_ | (refine W.kn hK ?_;clear hK K) | refine W.cd (fun hc=>?_) (fun hc=>?_) | refine W.cb (fun hc=>?_) (fun hc=>?_) | refine W.al fun b a w G=>?_ | refine W.st fun w=>?_ | refine W.stp fun w=>?_ | refine W.ste ?_ fun w=>?_ | refine W.bl ?_ | refine W.bn ?_ | refine W.ex ?_ | refine W.xt ?_ | refine W.xb ?_ | refine W.xo ?_ | refine W.rt ?_ | refine W.tr ?_ | refine W.br ?_ | refine W.rt1 rfl ?_ | refine W.rt2 rfl ?_ ?_ | refine W.rt3 rfl ?_ ?_ ?_ | clear hK K | clear hu | exact True.intro | exact Nat.le_trans (by clear hp;omega) hp | exact Nat.le_trans (by clear hp;omega) hp.1 | exact Nat.le_trans (by clear hp;omega) hp.2 | (clear hp;omega) | apply And.intro | refine GI.i fun _=>?_ | with_reducible rfl | decide | (simp only [List.length_cons,List.length_nil];omega))
  all_goals (unfold trnF;grind)
instance {m : Nat} {t : FR} {h : Bool} {τ1 : MT} [j1 : NF τ1 (TRN m t h)] : Con Tryz.prog 19 [τ1] (10000 * m + 100000 ≤ BIG) (BT (trnF h t)):=.o1 fun hok h1 hp=>w19.c1 hok (j1.h h1) hp
theorem w122 {n m : Nat} {x y : Rat} : Con Tryz.prog 122 [QV n x,QV m y] (y ≠ 0 ∧ n + m ≤ BIG) (QC (n + m) (x / y)):=.o2 fun hok h1 h2 hp=>by
  refine St.enter (N:=14) Tryz.func122 rfl rfl rfl hok (enter2 h1 h2) fun a=>?_
  repeat' (first | refine W.run ?_ fun a w G=>?_ | refine W.mv fun a w G=>?_ | refine W.asg fun a w G=>?_ | refine W.bx fun b a w G=>?_ | (refine W.nn hK ?_;clear hK K) | refine W.reg fun K hK=>?_ | refine W.reg1 ?_ | refine W.nl ?_ | refine W.sq fun K hK=>?_ | refine W.ds ?_ (fun β a w G hu=>W.fin ?_ hu) mixedOrders (by kernel_rfl) | refine W.sk ?_ | (refine W.kn hK ?_;clear hK K) | refine W.cd (fun hc=>?_) (fun hc=>?_) | refine W.cb (fun hc=>?_) (fun hc=>?_) | refine W.al fun b a w G=>?_ | refine W.st fun w=>?_ | refine W.stp fun w=>?_ | refine W.ste ?_ fun w=>?_ | refine W.bl ?_ | refine W.bn ?_ | refine W.ex ?_ | refine W.xt ?_ | refine W.xb ?_ | refine W.xo ?_ | refine W.rt ?_ | refine W.tr ?_ | refine W.br ?_ | refine W.rt1 rfl ?_ | refine W.rt2 rfl ?_ ?_ | refine W.rt3 rfl ?_ ?_ ?_ | clear hK K | clear hu | exact True.intro | exact Nat.le_trans (by clear hp;omega) hp | exact Nat.le_trans (by clear hp;omega) hp.1 | exact Nat.le_trans (by clear hp;omega) hp.2 | (clear hp;omega) | apply And.intro | refine GI.i fun _=>?_ | with_reducible rfl | decide | (simp only [List.length_cons,List.length_nil];omega))
  all_goals exact hp.1
instance {n m : Nat} {x y : Rat} {τ1 : MT} [j1 : NQ τ1 (QV n x)] {τ2 : MT} [j2 : NQ τ2 (QV m y)] : Con Tryz.prog 122 [τ1,τ2] (y ≠ 0 ∧ n + m ≤ BIG) (QC (n + m) (x / y)):=.o2 fun hok h1 h2 hp=>w122.c2 hok (j1.h h1) (j2.h h2) hp
theorem w99 {m : Nat} {t : FR} {h : Bool} : Con Tryz.prog 99 [TRN m t h] (10000 * m + 100000 ≤ BIG) (MT.tup2 (QV (4 * m + 130) (dirC h t.val)) (QV (4 * m + 130) (dirS h t.val))):=.o1 fun hok h1 hp=>by
  refine St.enter (N:=32) Tryz.func99 rfl rfl rfl hok (enter1 h1) fun a=>?_
  repeat' (first | refine W.run ?_ fun a w G=>?_ | refine W.mv fun a w G=>?_ | refine W.asg fun a w G=>?_ | refine W.bx fun b a w G=>?_ | (refine W.nn hK ?_;clear hK K) | refine W.reg fun K hK=>?_ | refine W.reg1 ?_ | refine W.nl ?_ | refine W.sq fun K hK=>?_ | refine W.ds ?_ (fun β a w G hu=>W.fin ?_ hu) mixedOrders (by kernel_rfl) | refine W.sk ?_ | (refine W.kn hK ?_;clear hK K) | refine W.cd (fun hc=>?_) (fun hc=>?_) | refine W.cb (fun hc=>?_) (fun hc=>?_) | refine W.al fun b a w G=>?_ | refine W.st fun w=>?_ | refine W.stp fun w=>?_ | refine W.ste ?_ fun w=>?_ | refine W.bl ?_ | refine W.bn ?_ | refine W.ex ?_ | refine W.xt ?_ | refine W.xb ?_ | refine W.xo ?_ | refine W.rt ?_ | refine W.tr ?_ | refine W.br ?_ | refine W.rt1 rfl ?_ | refine W.rt2 rfl ?_ ?_ | refine W.rt3 rfl ?_ ?_ ?_ | clear hK K | clear hu | exact True.intro | exact Nat.le_trans (by clear hp;omega) hp | exact Nat.le_trans (by clear hp;omega) hp.1 | exact Nat.le_trans (by clear hp;omega) hp.2 | (clear hp;omega) | apply And.intro | refine GI.i fun _=>?_ | with_reducible rfl | decide | (simp only [List.length_cons,List.length_nil];omega))
  all_goals first | exact one_sq _ | simp_all [dirC,dirS,zv0]
instance {m : Nat} {t : FR} {h : Bool} {τ1 : MT} [j1 : NF τ1 (TRN m t h)] : Con Tryz.prog 99 [τ1] (10000 * m + 100000 ≤ BIG) (MT.tup2 (QV (4 * m + 130) (dirC h t.val)) (QV (4 * m + 130) (dirS h t.val))):=.o1 fun hok h1 hp=>w99.c1 hok (j1.h h1) hp
theorem w26 {n : Nat} {rg ra rb rc : FR} : Con Tryz.prog 26 [QUD n rg ra rb rc] (10000 * n + 100000 ≤ BIG) (IT (barC [rg,ra,rb,rc])):=.o1 fun hok h1 hp=>by
  refine St.enter (N:=28) Tryz.func26 rfl rfl rfl hok (enter1 h1) fun a=>?_
  repeat' (first | refine W.run ?_ fun a w G=>?_ | refine W.mv fun a w G=>?_ | refine W.asg fun a w G=>?_ | refine W.bx fun b a w G=>?_ | (refine W.nn hK ?_;clear hK K) | refine W.reg fun K hK=>?_ | refine W.reg1 ?_ | refine W.nl ?_ | refine W.sq fun K hK=>?_ | refine W.ds ?_ (fun β a w G hu=>W.fin ?_ hu) mixedOrders (by kernel_rfl) | refine W.sk ?_ | (refine W.kn hK ?_;clear hK K) | refine W.cd (fun hc=>?_) (fun hc=>?_) | refine W.cb (fun hc=>?_) (fun hc=>?_) | refine W.al fun b a w G=>?_ | refine W.st fun w=>?_ | refine W.stp fun w=>?_ | refine W.ste ?_ fun w=>?_ | refine W.bl ?_ | refine W.bn ?_ | refine W.ex ?_ | refine W.xt ?_ | refine W.xb ?_ | refine W.xo ?_ | refine W.rt ?_ | refine W.tr ?_ | refine W.br ?_ | refine W.rt1 rfl ?_ | refine W.rt2 rfl ?_ ?_ | refine W.rt3 rfl ?_ ?_ ?_ | refine W.lp 16 (α:=Nat) (fun j=>4 - j) (fun j=>j ≤ 4 ∧ ([rg,ra,rb,rc].take j).all posR = true) [2,4,13,14,15,16,17,18,19,20,21,22,23,24,25,26,27] (fun j=>[(15,NT j),(14,NT 4),(13,LS (some 3) ([rg,ra,rb,rc].map (FX n)))]) (fun j=>[]) (0) ?_ ?_ ?_ fun j hj a w G=>?_ | refine W.ag (x:=j) (j+1) ?_ ?_ ?_ ?_ | clear hK K | clear hu | exact True.intro | exact Nat.le_trans (by clear hp;omega) hp | exact Nat.le_trans (by clear hp;omega) hp.1 | exact Nat.le_trans (by clear hp;omega) hp.2 | (clear hp;omega) | apply And.intro | refine GI.i fun _=>?_ | with_reducible rfl | decide | (simp only [List.length_cons,List.length_nil];omega))
  all_goals first | rfl | exact (bar_3 (all_not (show j < 4 by omega) (posR_t hc))).symm | exact all_snoc (show j < 4 by omega) hj.2 (posR_f hc) | exact (bar_0 (all_end (show ¬ j < 4 by omega) hj.2)).symm
instance {n : Nat} {rg ra rb rc : FR} {τ1 : MT} [j1 : NF τ1 (QUD n rg ra rb rc)] : Con Tryz.prog 26 [τ1] (10000 * n + 100000 ≤ BIG) (IT (barC [rg,ra,rb,rc])):=.o1 fun hok h1 hp=>w26.c1 hok (j1.h h1) hp
theorem w23 {rg ra rb rc : FR} : Con Tryz.prog 23 [PTS [(some 3,RX rg),(some 3,RX ra),(some 3,RX rb),(some 3,RX rc)]] (True) (BT ([rg,ra,rb,rc].all shortR)):=.o1 fun hok h1 hp=>by
  refine St.enter (N:=30) Tryz.func23 rfl rfl rfl hok (enter1 h1) fun a=>?_
  repeat' (first | refine W.run ?_ fun a w G=>?_ | refine W.mv fun a w G=>?_ | refine W.asg fun a w G=>?_ | refine W.bx fun b a w G=>?_ | (refine W.nn hK ?_;clear hK K) | refine W.reg fun K hK=>?_ | refine W.reg1 ?_ | refine W.nl ?_ | refine W.sq fun K hK=>?_ | refine W.ds ?_ (fun β a w G hu=>W.fin ?_ hu) mixedOrders (by kernel_rfl) | refine W.sk ?_ | (refine W.kn hK ?_;clear hK K) | refine W.cd (fun hc=>?_) (fun hc=>?_) | refine W.cb (fun hc=>?_) (fun hc=>?_) | refine W.al fun b a w G=>?_ | refine W.st fun w=>?_ | refine W.stp fun w=>?_ | refine W.ste ?_ fun w=>?_ | refine W.bl ?_ | refine W.bn ?_ | refine W.ex ?_ | refine W.xt ?_ | refine W.xb ?_ | refine W.xo ?_ | refine W.rt ?_ | refine W.tr ?_ | refine W.br ?_ | refine W.rt1 rfl ?_ | refine W.rt2 rfl ?_ ?_ | refine W.rt3 rfl ?_ ?_ ?_ | refine W.lp 16 (α:=Nat) (fun j=>4 - j) (fun j=>j ≤ 4 ∧ ([rg,ra,rb,rc].take j).all shortR = true) [2,4,13,14,15,16,17,18,19,20,21,22,23,24,25,26,27,28,29] (fun j=>[(15,NT j),(14,NT 4),(13,LS (some 3) ([rg,ra,rb,rc].map RX))]) (fun j=>[]) (0) ?_ ?_ ?_ fun j hj a w G=>?_ | refine W.ag (x:=j) (j+1) ?_ ?_ ?_ ?_ | clear hK K | clear hu | exact True.intro | exact Nat.le_trans (by clear hp;omega) hp | exact Nat.le_trans (by clear hp;omega) hp.1 | exact Nat.le_trans (by clear hp;omega) hp.2 | (clear hp;omega) | apply And.intro | refine GI.i fun _=>?_ | with_reducible rfl | decide | (simp only [List.length_cons,List.length_nil];omega))
  all_goals first | rfl | exact (all_not (show j < 4 by omega) (shortR_t hc)).symm | exact all_snoc (show j < 4 by omega) hj.2 (shortR_f hc) | exact (all_end (show ¬ j < 4 by omega) hj.2).symm
instance {rg ra rb rc : FR} {τ1 : MT} [j1 : NR τ1 (PTS [(some 3,RX rg),(some 3,RX ra),(some 3,RX rb),(some 3,RX rc)])] : Con Tryz.prog 23 [τ1] (True) (BT ([rg,ra,rb,rc].all shortR)):=.o1 fun hok h1 hp=>w23.c1 hok (j1.h h1) hp
theorem w28 {n : Nat} {rg ra rb rc : FR} : Con Tryz.prog 28 [QUD n rg ra rb rc] (10 * n ≤ BIG) (PTS [(some 3,QC (n + n) (rg.val * rg.val)),(some 3,QC (n + n) (ra.val * ra.val)),(some 3,FX (n + n) rb),(some 3,FX (n + n) rc)]):=.o1 fun hok h1 hp=>by
  refine St.enter (N:=18) Tryz.func28 rfl rfl rfl hok (enter1 h1) fun a=>?_
  repeat' (first | refine W.run ?_ fun a w G=>?_ | refine W.mv fun a w G=>?_ | refine W.asg fun a w G=>?_ | refine W.bx fun b a w G=>?_ | (refine W.nn hK ?_;clear hK K) | refine W.reg fun K hK=>?_ | refine W.reg1 ?_ | refine W.nl ?_ | refine W.sq fun K hK=>?_ | refine W.ds ?_ (fun β a w G hu=>W.fin ?_ hu) mixedOrders (by kernel_rfl) | refine W.sk ?_ | (refine W.kn hK ?_;clear hK K) | refine W.cd (fun hc=>?_) (fun hc=>?_) | refine W.cb (fun hc=>?_) (fun hc=>?_) | refine W.al fun b a w G=>?_ | refine W.st fun w=>?_ | refine W.stp fun w=>?_ | refine W.ste ?_ fun w=>?_ | refine W.bl ?_ | refine W.bn ?_ | refine W.ex ?_ | refine W.xt ?_ | refine W.xb ?_ | refine W.xo ?_ | refine W.rt ?_ | refine W.tr ?_ | refine W.br ?_ | refine W.rt1 rfl ?_ | refine W.rt2 rfl ?_ ?_ | refine W.rt3 rfl ?_ ?_ ?_ | clear hK K | clear hu | exact True.intro | exact Nat.le_trans (by clear hp;omega) hp | exact Nat.le_trans (by clear hp;omega) hp.1 | exact Nat.le_trans (by clear hp;omega) hp.2 | (clear hp;omega) | apply And.intro | refine GI.i fun _=>?_ | with_reducible rfl | decide | (simp only [List.length_cons,List.length_nil];omega))
instance {n : Nat} {rg ra rb rc : FR} {τ1 : MT} [j1 : NF τ1 (QUD n rg ra rb rc)] : Con Tryz.prog 28 [τ1] (10 * n ≤ BIG) (PTS [(some 3,QC (n + n) (rg.val * rg.val)),(some 3,QC (n + n) (ra.val * ra.val)),(some 3,FX (n + n) rb),(some 3,FX (n + n) rc)]):=.o1 fun hok h1 hp=>w28.c1 hok (j1.h h1) hp
theorem w100 {n m l : Nat} {k x y : Rat} : Con Tryz.prog 100 [QV n k,PTS [(some 3,QV (m) (x)),(some 3,QV (l) (y))]] (n + m + l ≤ BIG) (PTS [(some 3,QC (n + m) (k * x)),(some 3,QC (n + l) (k * y))]):=.o2 fun hok h1 h2 hp=>by
  refine St.enter (N:=14) Tryz.func100 rfl rfl rfl hok (enter2 h1 h2) fun a=>?_
  repeat' (first | refine W.run ?_ fun a w G=>?_ | refine W.mv fun a w G=>?_ | refine W.asg fun a w G=>?_ | refine W.bx fun b a w G=>?_ | (refine W.nn hK ?_;clear hK K) | refine W.reg fun K hK=>?_ | refine W.reg1 ?_ | refine W.nl ?_ | refine W.sq fun K hK=>?_ | refine W.ds ?_ (fun β a w G hu=>W.fin ?_ hu) mixedOrders (by kernel_rfl) | refine W.sk ?_ | (refine W.kn hK ?_;clear hK K) | refine W.cd (fun hc=>?_) (fun hc=>?_) | refine W.cb (fun hc=>?_) (fun hc=>?_) | refine W.al fun b a w G=>?_ | refine W.st fun w=>?_ | refine W.stp fun w=>?_ | refine W.ste ?_ fun w=>?_ | refine W.bl ?_ | refine W.bn ?_ | refine W.ex ?_ | refine W.xt ?_ | refine W.xb ?_ | refine W.xo ?_ | refine W.rt ?_ | refine W.tr ?_ | refine W.br ?_ | refine W.rt1 rfl ?_ | refine W.rt2 rfl ?_ ?_ | refine W.rt3 rfl ?_ ?_ ?_ | clear hK K | clear hu | exact True.intro | exact Nat.le_trans (by clear hp;omega) hp | exact Nat.le_trans (by clear hp;omega) hp.1 | exact Nat.le_trans (by clear hp;omega) hp.2 | (clear hp;omega) | apply And.intro | refine GI.i fun _=>?_ | with_reducible rfl | decide | (simp only [List.length_cons,List.length_nil];omega))
instance {n m l : Nat} {k x y : Rat} {τ1 : MT} [j1 : NQ τ1 (QV n k)] {τ2 : MT} [j2 : NQ τ2 (PTS [(some 3,QV (m) (x)),(some 3,QV (l) (y))])] : Con Tryz.prog 100 [τ1,τ2] (n + m + l ≤ BIG) (PTS [(some 3,QC (n + m) (k * x)),(some 3,QC (n + l) (k * y))]):=.o2 fun hok h1 h2 hp=>w100.c2 hok (j1.h h1) (j2.h h2) hp
theorem w68 {n m : Nat} {rg ra rb rc t : FR} {h : Bool} : Con Tryz.prog 68 [QUD n rg ra rb rc,TRN m t h] (10000 * n + 10000 * m + 100000 ≤ BIG) (PLQ (n + 4 * m + 130) (ra.val * dirC h t.val) (ra.val * dirS h t.val)):=.o2 fun hok h1 h2 hp=>by
  refine St.enter (N:=18) Tryz.func68 rfl rfl rfl hok (enter2 h1 h2) fun a=>?_
  repeat' (first | refine W.run ?_ fun a w G=>?_ | refine W.mv fun a w G=>?_ | refine W.asg fun a w G=>?_ | refine W.bx fun b a w G=>?_ | (refine W.nn hK ?_;clear hK K) | refine W.reg fun K hK=>?_ | refine W.reg1 ?_ | refine W.nl ?_ | refine W.sq fun K hK=>?_ | refine W.ds ?_ (fun β a w G hu=>W.fin ?_ hu) mixedOrders (by kernel_rfl) | refine W.sk ?_ | (refine W.kn hK ?_;clear hK K) | refine W.cd (fun hc=>?_) (fun hc=>?_) | refine W.cb (fun hc=>?_) (fun hc=>?_) | refine W.al fun b a w G=>?_ | refine W.st fun w=>?_ | refine W.stp fun w=>?_ | refine W.ste ?_ fun w=>?_ | refine W.bl ?_ | refine W.bn ?_ | refine W.ex ?_ | refine W.xt ?_ | refine W.xb ?_ | refine W.xo ?_ | refine W.rt ?_ | refine W.tr ?_ | refine W.br ?_ | refine W.rt1 rfl ?_ | refine W.rt2 rfl ?_ ?_ | refine W.rt3 rfl ?_ ?_ ?_ | clear hK K | clear hu | exact True.intro | exact Nat.le_trans (by clear hp;omega) hp | exact Nat.le_trans (by clear hp;omega) hp.1 | exact Nat.le_trans (by clear hp;omega) hp.2 | (clear hp;omega) | apply And.intro | refine GI.i fun _=>?_ | with_reducible rfl | decide | (simp only [List.length_cons,List.length_nil];omega))
instance {n m : Nat} {rg ra rb rc t : FR} {h : Bool} {τ1 : MT} [j1 : NF τ1 (QUD n rg ra rb rc)] {τ2 : MT} [j2 : NF τ2 (TRN m t h)] : Con Tryz.prog 68 [τ1,τ2] (10000 * n + 10000 * m + 100000 ≤ BIG) (PLQ (n + 4 * m + 130) (ra.val * dirC h t.val) (ra.val * dirS h t.val)):=.o2 fun hok h1 h2 hp=>w68.c2 hok (j1.h h1) (j2.h h2) hp
theorem w67 {n m k l : Nat} {x y z u : Rat} : Con Tryz.prog 67 [PTS [(some 3,QV (n) (x)),(some 3,QV (m) (y))],PTS [(some 3,QV (k) (z)),(some 3,QV (l) (u))]] (n + m + k + l + 1 ≤ BIG) (PTS [(some 3,QC (n + k + 1) (x - z)),(some 3,QC (m + l + 1) (y - u))]):=.o2 fun hok h1 h2 hp=>by
  refine St.enter (N:=16) Tryz.func67 rfl rfl rfl hok (enter2 h1 h2) fun a=>?_
  repeat' (first | refine W.run ?_ fun a w G=>?_ | refine W.mv fun a w G=>?_ | refine W.asg fun a w G=>?_ | refine W.bx fun b a w G=>?_ | (refine W.nn hK ?_;clear hK K) | refine W.reg fun K hK=>?_ | refine W.reg1 ?_ | refine W.nl ?_ | refine W.sq fun K hK=>?_ | refine W.ds ?_ (fun β a w G hu=>W.fin ?_ hu) mixedOrders (by kernel_rfl) | refine W.sk ?_ | (refine W.kn hK ?_;clear hK K) | refine W.cd (fun hc=>?_) (fun hc=>?_) | refine W.cb (fun hc=>?_) (fun hc=>?_) | refine W.al fun b a w G=>?_ | refine W.st fun w=>?_ | refine W.stp fun w=>?_ | refine W.ste ?_ fun w=>?_ | refine W.bl ?_ | refine W.bn ?_ | refine W.ex ?_ | refine W.xt ?_ | refine W.xb ?_ | refine W.xo ?_ | refine W.rt ?_ | refine W.tr ?_ | refine W.br ?_ | refine W.rt1 rfl ?_ | refine W.rt2 rfl ?_ ?_ | refine W.rt3 rfl ?_ ?_ ?_ | clear hK K | clear hu | exact True.intro | exact Nat.le_trans (by clear hp;omega) hp | exact Nat.le_trans (by clear hp;omega) hp.1 | exact Nat.le_trans (by clear hp;omega) hp.2 | (clear hp;omega) | apply And.intro | refine GI.i fun _=>?_ | with_reducible rfl | decide | (simp only [List.length_cons,List.length_nil];omega))
instance {n m k l : Nat} {x y z u : Rat} {τ1 : MT} [j1 : NQ τ1 (PTS [(some 3,QV (n) (x)),(some 3,QV (m) (y))])] {τ2 : MT} [j2 : NQ τ2 (PTS [(some 3,QV (k) (z)),(some 3,QV (l) (u))])] : Con Tryz.prog 67 [τ1,τ2] (n + m + k + l + 1 ≤ BIG) (PTS [(some 3,QC (n + k + 1) (x - z)),(some 3,QC (m + l + 1) (y - u))]):=.o2 fun hok h1 h2 hp=>w67.c2 hok (j1.h h1) (j2.h h2) hp
theorem w37 {n m : Nat} {x y : Rat} : Con Tryz.prog 37 [PTS [(some 3,QV (n) (x)),(some 3,QV (m) (y))]] (4 * n + 4 * m + 1 ≤ BIG) (QC (2 * n + 2 * m + 1) (d2F x y)):=.o1 fun hok h1 hp=>by
  refine St.enter (N:=14) Tryz.func37 rfl rfl rfl hok (enter1 h1) fun a=>?_
  repeat' (first | refine W.run ?_ fun a w G=>?_ | refine W.mv fun a w G=>?_ | refine W.asg fun a w G=>?_ | refine W.bx fun b a w G=>?_ | (refine W.nn hK ?_;clear hK K) | refine W.reg fun K hK=>?_ | refine W.reg1 ?_ | refine W.nl ?_ | refine W.sq fun K hK=>?_ | refine W.ds ?_ (fun β a w G hu=>W.fin ?_ hu) mixedOrders (by kernel_rfl) | refine W.sk ?_ | (refine W.kn hK ?_;clear hK K) | refine W.cd (fun hc=>?_) (fun hc=>?_) | refine W.cb (fun hc=>?_) (fun hc=>?_) | refine W.al fun b a w G=>?_ | refine W.st fun w=>?_ | refine W.stp fun w=>?_ | refine W.ste ?_ fun w=>?_ | refine W.bl ?_ | refine W.bn ?_ | refine W.ex ?_ | refine W.xt ?_ | refine W.xb ?_ | refine W.xo ?_ | refine W.rt ?_ | refine W.tr ?_ | refine W.br ?_ | refine W.rt1 rfl ?_ | refine W.rt2 rfl ?_ ?_ | refine W.rt3 rfl ?_ ?_ ?_ | clear hK K | clear hu | exact True.intro | exact Nat.le_trans (by clear hp;omega) hp | exact Nat.le_trans (by clear hp;omega) hp.1 | exact Nat.le_trans (by clear hp;omega) hp.2 | (clear hp;omega) | apply And.intro | refine GI.i fun _=>?_ | with_reducible rfl | decide | (simp only [List.length_cons,List.length_nil];omega))
  all_goals rfl
instance {n m : Nat} {x y : Rat} {τ1 : MT} [j1 : NQ τ1 (PTS [(some 3,QV (n) (x)),(some 3,QV (m) (y))])] : Con Tryz.prog 37 [τ1] (4 * n + 4 * m + 1 ≤ BIG) (QC (2 * n + 2 * m + 1) (d2F x y)):=.o1 fun hok h1 hp=>w37.c1 hok (j1.h h1) hp
theorem w38 {n m : Nat} {rg ra rb rc t : FR} {h : Bool} : Con Tryz.prog 38 [QUD n rg ra rb rc,TRN m t h] (10000 * n + 10000 * m + 100000 ≤ BIG) (PLQ (2 * n + 4 * m + 132) (wayX rg.val ra.val h t.val) (wayY ra.val h t.val)):=.o2 fun hok h1 h2 hp=>by
  refine St.enter (N:=12) Tryz.func38 rfl rfl rfl hok (enter2 h1 h2) fun a=>?_
  repeat' (first | refine W.run ?_ fun a w G=>?_ | refine W.mv fun a w G=>?_ | refine W.asg fun a w G=>?_ | refine W.bx fun b a w G=>?_ | (refine W.nn hK ?_;clear hK K) | refine W.reg fun K hK=>?_ | refine W.reg1 ?_ | refine W.nl ?_ | refine W.sq fun K hK=>?_ | refine W.ds ?_ (fun β a w G hu=>W.fin ?_ hu) mixedOrders (by kernel_rfl) | refine W.sk ?_ | (refine W.kn hK ?_;clear hK K) | refine W.cd (fun hc=>?_) (fun hc=>?_) | refine W.cb (fun hc=>?_) (fun hc=>?_) | refine W.al fun b a w G=>?_ | refine W.st fun w=>?_ | refine W.stp fun w=>?_ | refine W.ste ?_ fun w=>?_ | refine W.bl ?_ | refine W.bn ?_ | refine W.ex ?_ | refine W.xt ?_ | refine W.xb ?_ | refine W.xo ?_ | refine W.rt ?_ | refine W.tr ?_ | refine W.br ?_ | refine W.rt1 rfl ?_ | refine W.rt2 rfl ?_ ?_ | refine W.rt3 rfl ?_ ?_ ?_ | clear hK K | clear hu | exact True.intro | exact Nat.le_trans (by clear hp;omega) hp | exact Nat.le_trans (by clear hp;omega) hp.1 | exact Nat.le_trans (by clear hp;omega) hp.2 | (clear hp;omega) | apply And.intro | refine GI.i fun _=>?_ | with_reducible rfl | decide | (simp only [List.length_cons,List.length_nil];omega))
  all_goals grind [wayX,wayY,zv0]
instance {n m : Nat} {rg ra rb rc t : FR} {h : Bool} {τ1 : MT} [j1 : NF τ1 (QUD n rg ra rb rc)] {τ2 : MT} [j2 : NF τ2 (TRN m t h)] : Con Tryz.prog 38 [τ1,τ2] (10000 * n + 10000 * m + 100000 ≤ BIG) (PLQ (2 * n + 4 * m + 132) (wayX rg.val ra.val h t.val) (wayY ra.val h t.val)):=.o2 fun hok h1 h2 hp=>w38.c2 hok (j1.h h1) (j2.h h2) hp
theorem w62 {n m k : Nat} {x y z : Rat} : Con Tryz.prog 62 [QV n x,QV m y,QV k z] (100 * n + 100 * m + 100 * k + 1000 ≤ BIG) (QC (3 * n + 3 * m + 2 * k + 71) (discF x y z)):=.o3 fun hok h1 h2 h3 hp=>by
  refine St.enter (N:=24) Tryz.func62 rfl rfl rfl hok (enter3 h1 h2 h3) fun a=>?_
  repeat' (first | refine W.run ?_ fun a w G=>?_ | refine W.mv fun a w G=>?_ | refine W.asg fun a w G=>?_ | refine W.bx fun b a w G=>?_ | (refine W.nn hK ?_;clear hK K) | refine W.reg fun K hK=>?_ | refine W.reg1 ?_ | refine W.nl ?_ | refine W.sq fun K hK=>?_ | refine W.ds ?_ (fun β a w G hu=>W.fin ?_ hu) mixedOrders (by kernel_rfl) | refine W.sk ?_ | (refine W.kn hK ?_;clear hK K) | refine W.cd (fun hc=>?_) (fun hc=>?_) | refine W.cb (fun hc=>?_) (fun hc=>?_) | refine W.al fun b a w G=>?_ | refine W.st fun w=>?_ | refine W.stp fun w=>?_ | refine W.ste ?_ fun w=>?_ | refine W.bl ?_ | refine W.bn ?_ | refine W.ex ?_ | refine W.xt ?_ | refine W.xb ?_ | refine W.xo ?_ | refine W.rt ?_ | refine W.tr ?_ | refine W.br ?_ | refine W.rt1 rfl ?_ | refine W.rt2 rfl ?_ ?_ | refine W.rt3 rfl ?_ ?_ ?_ | clear hK K | clear hu | exact True.intro | exact Nat.le_trans (by clear hp;omega) hp | exact Nat.le_trans (by clear hp;omega) hp.1 | exact Nat.le_trans (by clear hp;omega) hp.2 | (clear hp;omega) | apply And.intro | refine GI.i fun _=>?_ | with_reducible rfl | decide | (simp only [List.length_cons,List.length_nil];omega))
  all_goals rfl
instance {n m k : Nat} {x y z : Rat} {τ1 : MT} [j1 : NQ τ1 (QV n x)] {τ2 : MT} [j2 : NQ τ2 (QV m y)] {τ3 : MT} [j3 : NQ τ3 (QV k z)] : Con Tryz.prog 62 [τ1,τ2,τ3] (100 * n + 100 * m + 100 * k + 1000 ≤ BIG) (QC (3 * n + 3 * m + 2 * k + 71) (discF x y z)):=.o3 fun hok h1 h2 h3 hp=>w62.c3 hok (j1.h h1) (j2.h h2) (j3.h h3) hp
theorem w31 {n m : Nat} {rg ra rb rc t : FR} {h : Bool} : Con Tryz.prog 31 [QUD n rg ra rb rc,TRN m t h] (10000 * n + 10000 * m + 100000 ≤ BIG) (QC (22 * n + 32 * m + 1200) (dsc rg ra rb rc h t.val)):=.o2 fun hok h1 h2 hp=>by
  refine St.enter (N:=14) Tryz.func31 rfl rfl rfl hok (enter2 h1 h2) fun a=>?_
  repeat' (first | refine W.run ?_ fun a w G=>?_ | refine W.mv fun a w G=>?_ | refine W.asg fun a w G=>?_ | refine W.bx fun b a w G=>?_ | (refine W.nn hK ?_;clear hK K) | refine W.reg fun K hK=>?_ | refine W.reg1 ?_ | refine W.nl ?_ | refine W.sq fun K hK=>?_ | refine W.ds ?_ (fun β a w G hu=>W.fin ?_ hu) mixedOrders (by kernel_rfl) | refine W.sk ?_ | (refine W.kn hK ?_;clear hK K) | refine W.cd (fun hc=>?_) (fun hc=>?_) | refine W.cb (fun hc=>?_) (fun hc=>?_) | refine W.al fun b a w G=>?_ | refine W.st fun w=>?_ | refine W.stp fun w=>?_ | refine W.ste ?_ fun w=>?_ | refine W.bl ?_ | refine W.bn ?_ | refine W.ex ?_ | refine W.xt ?_ | refine W.xb ?_ | refine W.xo ?_ | refine W.rt ?_ | refine W.tr ?_ | refine W.br ?_ | refine W.rt1 rfl ?_ | refine W.rt2 rfl ?_ ?_ | refine W.rt3 rfl ?_ ?_ ?_ | clear hK K | clear hu | exact True.intro | exact Nat.le_trans (by clear hp;omega) hp | exact Nat.le_trans (by clear hp;omega) hp.1 | exact Nat.le_trans (by clear hp;omega) hp.2 | (clear hp;omega) | apply And.intro | refine GI.i fun _=>?_ | with_reducible rfl | decide | (simp only [List.length_cons,List.length_nil];omega))
  all_goals (unfold dsc;rfl)
instance {n m : Nat} {rg ra rb rc t : FR} {h : Bool} {τ1 : MT} [j1 : NF τ1 (QUD n rg ra rb rc)] {τ2 : MT} [j2 : NF τ2 (TRN m t h)] : Con Tryz.prog 31 [τ1,τ2] (10000 * n + 10000 * m + 100000 ≤ BIG) (QC (22 * n + 32 * m + 1200) (dsc rg ra rb rc h t.val)):=.o2 fun hok h1 h2 hp=>w31.c2 hok (j1.h h1) (j2.h h2) hp
theorem chk_val {l m : List FR} (hl : l.all posR = true) (hm : m.all posR = true) (h : l.map FR.val = m.map FR.val) : chkF l = chkF m:=by
  have hk : ∀ (l : List FR) j,lk l j = (l.map FR.val).getD ((orderF (l.map FR.val)).getD j default) 0:=fun l j=>by
    unfold lk
    rw [List.getD_eq_getElem?_getD,List.getD_eq_getElem?_getD (l:=l.map FR.val),List.getElem?_map]
    cases l[(orderF (l.map FR.val)).getD j default]? <;> rfl
  unfold chkF
  rw [hl,hm]
  simp only [hk,h]
theorem chk_sqb {g a b c : FR} (hb : barC [g,a,b,c] = 0) : chkF [FR.of (g.val * g.val),FR.of (a.val * a.val),b,c] = chkF (sqF g a b c):=by
  have hp:=sq_pos hb
  have h:=bar_pos hb
  refine chk_val ?_ hp (by simp [sqF,FR.of_val])
  simp only [sqF,List.all_cons,List.all_nil,Bool.and_true,Bool.and_eq_true] at hp h ⊢
  exact ⟨hp.1,hp.2.1,h.2.2⟩
theorem ci16 {g a b c : FR} (hb : barC [g,a,b,c] = 0) (h : chkF [FR.of (g.val * g.val),FR.of (a.val * a.val),b,c] ≠ 0) : 16 = ciF g a b c:=by rw [chk_sqb hb] at h;unfold ciF;rw [if_pos hb,if_neg h]
theorem ci15 {g a b c : FR} (hb : barC [g,a,b,c] = 0) (h : chkF [FR.of (g.val * g.val),FR.of (a.val * a.val),b,c] = 0) (h2 : (decide (cmpQ g.val a.val = 0) && decide (cmpQ b.val c.val = 0)) = true) : 15 = ciF g a b c:=by
  simp only [Bool.and_eq_true,decide_eq_true_eq] at h2
  rw [chk_sqb hb] at h;exact (ci_15 hb h h2.1 h2.2).symm
theorem ci0 {g a b c : FR} (hb : barC [g,a,b,c] = 0) (h : chkF [FR.of (g.val * g.val),FR.of (a.val * a.val),b,c] = 0) (h2 : (decide (cmpQ g.val a.val = 0) && decide (cmpQ b.val c.val = 0)) = false) : 0 = ciF g a b c:=by
  rw [chk_sqb hb] at h;exact (ci_0 hb h (by simpa using h2)).symm
theorem d2_zero {x y : Rat} : (d2F x y).num.sign = 0 ↔ x = 0 ∧ y = 0:=by
  rw [Int.sign_eq_zero_iff_zero,Rat.num_eq_zero]
  unfold d2F
  have sq : ∀ z : Rat,0 ≤ z * z:=fun z=>by
    rcases (Rat.le_total : 0 ≤ z ∨ z ≤ 0) with h | h
    · exact Rat.mul_nonneg h h
    · have:=Rat.mul_nonneg (show 0 ≤ -z by grind) (show 0 ≤ -z by grind);grind
  have sx:=sq x;have sy:=sq y
  constructor
  · intro h
    have h1 : x * x = 0:=by grind
    have h2 : y * y = 0:=by grind
    exact ⟨by rcases Rat.mul_eq_zero.1 h1 with h | h <;> exact h,by rcases Rat.mul_eq_zero.1 h2 with h | h <;> exact h⟩
  · rintro ⟨rfl,rfl⟩;grind
theorem way_zero {g a t : Rat} {h : Bool} : (d2F (wayX g a h t) (wayY a h t)).num.sign = 0 ↔ cmpQ (a * dirC h t) g = 0 ∧ (a * dirS h t).num.sign = 0:=by
  rw [d2_zero,cmpQ_eq0,Int.sign_eq_zero_iff_zero,Rat.num_eq_zero]
  unfold wayX wayY
  constructor <;> rintro ⟨h1,h2⟩ <;> constructor <;> grind
theorem w10 {n : Nat} {rg ra rb rc : FR} : Con Tryz.prog 10 [QUD n rg ra rb rc] (100000 * n + 10000000 ≤ BIG) (IT (ciF rg ra rb rc)):=.o1 fun hok h1 hp=>by
  refine St.enter (N:=27) Tryz.func10 rfl rfl rfl hok (enter1 h1) fun a=>?_
  repeat' (first | refine W.run ?_ fun a w G=>?_ | refine W.mv fun a w G=>?_ | refine W.asg fun a w G=>?_ | refine W.bx fun b a w G=>?_ | (refine W.nn hK ?_;clear hK K) | refine W.reg fun K hK=>?_ | refine W.reg1 ?_ | refine W.nl ?_ | refine W.sq fun K hK=>?_ | refine W.ds ?_ (fun β a w G hu=>W.fin ?_ hu) mixedOrders (by kernel_rfl) | refine W.sk ?_ | (refine W.kn hK ?_;clear hK K) | refine W.cd (fun hc=>?_) (fun hc=>?_) | refine W.cb (fun hc=>?_) (fun hc=>?_) | refine W.al fun b a w G=>?_ | refine W.st fun w=>?_ | refine W.stp fun w=>?_ | refine W.ste ?_ fun w=>?_ | refine W.bl ?_ | refine W.bn ?_ | refine W.ex ?_ | refine W.xt ?_ | refine W.xb ?_ | refine W.xo ?_ | refine W.rt ?_ | refine W.tr ?_ | refine W.br ?_ | refine W.rt1 rfl ?_ | refine W.rt2 rfl ?_ ?_ | refine W.rt3 rfl ?_ ?_ ?_ | clear hK K | clear hu | exact True.intro | exact Nat.le_trans (by clear hp;omega) hp | exact Nat.le_trans (by clear hp;omega) hp.1 | exact Nat.le_trans (by clear hp;omega) hp.2 | (clear hp;omega) | apply And.intro | refine GI.i fun _=>?_ | with_reducible rfl | decide | (simp only [List.length_cons,List.length_nil];omega))
  all_goals first | exact ci_b hc | exact ci16 (by omega) hc | exact ci15 (by omega) (by omega) hc | exact ci0 (by omega) (by omega) hc
instance {n : Nat} {rg ra rb rc : FR} {τ1 : MT} [j1 : NF τ1 (QUD n rg ra rb rc)] : Con Tryz.prog 10 [τ1] (100000 * n + 10000000 ≤ BIG) (IT (ciF rg ra rb rc)):=.o1 fun hok h1 hp=>w10.c1 hok (j1.h h1) hp
theorem w12 {n : Nat} {rg ra rb rc : FR} : Con Tryz.prog 12 [QUD n rg ra rb rc] (100000 * n + 10000000 ≤ BIG) (MT.tup2 (IT (dsc rg ra rb rc false zFR.val).num.sign) (IT (dsc rg ra rb rc true zFR.val).num.sign)):=.o1 fun hok h1 hp=>by
  refine St.enter (N:=12) Tryz.func12 rfl rfl rfl hok (enter1 h1) fun a=>?_
  repeat' (first | refine W.run ?_ fun a w G=>?_ | refine W.mv fun a w G=>?_ | refine W.asg fun a w G=>?_ | refine W.bx fun b a w G=>?_ | (refine W.nn hK ?_;clear hK K) | refine W.reg fun K hK=>?_ | refine W.reg1 ?_ | refine W.nl ?_ | refine W.sq fun K hK=>?_ | refine W.ds ?_ (fun β a w G hu=>W.fin ?_ hu) mixedOrders (by kernel_rfl) | refine W.sk ?_ | (refine W.kn hK ?_;clear hK K) | refine W.cd (fun hc=>?_) (fun hc=>?_) | refine W.cb (fun hc=>?_) (fun hc=>?_) | refine W.al fun b a w G=>?_ | refine W.st fun w=>?_ | refine W.stp fun w=>?_ | refine W.ste ?_ fun w=>?_ | refine W.bl ?_ | refine W.bn ?_ | refine W.ex ?_ | refine W.xt ?_ | refine W.xb ?_ | refine W.xo ?_ | refine W.rt ?_ | refine W.tr ?_ | refine W.br ?_ | refine W.rt1 rfl ?_ | refine W.rt2 rfl ?_ ?_ | refine W.rt3 rfl ?_ ?_ ?_ | clear hK K | clear hu | exact True.intro | exact Nat.le_trans (by clear hp;omega) hp | exact Nat.le_trans (by clear hp;omega) hp.1 | exact Nat.le_trans (by clear hp;omega) hp.2 | (clear hp;omega) | apply And.intro | refine GI.i fun _=>?_ | with_reducible rfl | decide | (simp only [List.length_cons,List.length_nil];omega))
instance {n : Nat} {rg ra rb rc : FR} {τ1 : MT} [j1 : NF τ1 (QUD n rg ra rb rc)] : Con Tryz.prog 12 [τ1] (100000 * n + 10000000 ≤ BIG) (MT.tup2 (IT (dsc rg ra rb rc false zFR.val).num.sign) (IT (dsc rg ra rb rc true zFR.val).num.sign)):=.o1 fun hok h1 hp=>w12.c1 hok (j1.h h1) hp
theorem w13 {n : Nat} {rg ra rb rc : FR} : Con Tryz.prog 13 [QUD n rg ra rb rc] (100000 * n + 10000000 ≤ BIG) (LS (some 3) ((cirF (dsc rg ra rb rc false zFR.val).num.sign (dsc rg ra rb rc true zFR.val).num.sign).map CIR)):=.o1 fun hok h1 hp=>by
  refine St.enter (N:=41) Tryz.func13 rfl rfl rfl hok (enter1 h1) fun a=>?_
  repeat' (first | refine W.run ?_ fun a w G=>?_ | refine W.mv fun a w G=>?_ | refine W.asg fun a w G=>?_ | refine W.bx fun b a w G=>?_ | (refine W.nn hK ?_;clear hK K) | refine W.reg fun K hK=>?_ | refine W.reg1 ?_ | refine W.nl ?_ | refine W.sq fun K hK=>?_ | refine W.ds ?_ (fun β a w G hu=>W.fin ?_ hu) mixedOrders (by kernel_rfl) | refine W.sk ?_ | (refine W.kn hK ?_;clear hK K) | refine W.cd (fun hc=>?_) (fun hc=>?_) | refine W.cb (fun hc=>?_) (fun hc=>?_) | refine W.al fun b a w G=>?_ | refine W.st fun w=>?_ | refine W.stp fun w=>?_ | refine W.ste ?_ fun w=>?_ | refine W.bl ?_ | refine W.bn ?_ | refine W.ex ?_ | refine W.xt ?_ | refine W.xb ?_ | refine W.xo ?_ | refine W.rt ?_ | refine W.tr ?_ | refine W.br ?_ | refine W.rt1 rfl ?_ | refine W.rt2 rfl ?_ ?_ | refine W.rt3 rfl ?_ ?_ ?_ | clear hK K | clear hu | exact True.intro | exact Nat.le_trans (by clear hp;omega) hp | exact Nat.le_trans (by clear hp;omega) hp.1 | exact Nat.le_trans (by clear hp;omega) hp.2 | (clear hp;omega) | apply And.intro | refine GI.i fun _=>?_ | with_reducible rfl | decide | (simp only [List.length_cons,List.length_nil];omega))
  all_goals (have h1:=sgn_cases (dsc rg ra rb rc false zFR.val).num;have h2:=sgn_cases (dsc rg ra rb rc true zFR.val).num;unfold cirF;grind)
instance {n : Nat} {rg ra rb rc : FR} {τ1 : MT} [j1 : NF τ1 (QUD n rg ra rb rc)] : Con Tryz.prog 13 [τ1] (100000 * n + 10000000 ≤ BIG) (LS (some 3) ((cirF (dsc rg ra rb rc false zFR.val).num.sign (dsc rg ra rb rc true zFR.val).num.sign).map CIR)):=.o1 fun hok h1 hp=>w13.c1 hok (j1.h h1) hp
theorem exC_r {g a b c : FR} {h : Bool} {t : FR} {m : Int} : exC g a b c h t m = if ((decide ((dsc g a b c h t.val).num.sign < 0) || (decide ((dsc g a b c h t.val).num.sign = 0) != decide (m = 0))) || decide ((d2F (wayX g.val a.val h t.val) (wayY a.val h t.val)).num.sign = 0)) = true then 16 else 0:=by
  have e : decide ((d2F (wayX g.val a.val h t.val) (wayY a.val h t.val)).num.sign = 0) = (decide (cmpQ (a.val * dirC h t.val) g.val = 0) && decide ((a.val * dirS h t.val).num.sign = 0)):=by rw [Bool.eq_iff_iff];simp only [decide_eq_true_eq,Bool.and_eq_true,way_zero]
  unfold exC exK
  rw [e]
  generalize decide (cmpQ (a.val * dirC h t.val) g.val = 0) = A
  generalize decide ((a.val * dirS h t.val).num.sign = 0) = B
  generalize decide ((dsc g a b c h t.val).num.sign < 0) = C
  generalize decide ((dsc g a b c h t.val).num.sign = 0) = D
  generalize decide (m = 0) = E
  cases A <;> cases B <;> cases C <;> cases D <;> cases E <;> rfl
theorem cirs_r {g a b c : FR} (h : ciF g a b c = 0) : cirs g a b c = cirF (dsc g a b c false zFR.val).num.sign (dsc g a b c true zFR.val).num.sign:=by rw [cirs_ok h,enR_ok h,enL_ok h]
theorem w17 {n m : Nat} {rg ra rb rc t : FR} {h : Bool} {md : Int} : Con Tryz.prog 17 [QUD n rg ra rb rc,BST m t h md] (100000 * n + 100000 * m + 10000000 ≤ BIG ∧ ciF rg ra rb rc = 0) (MT.tup2 (IT (ofI rg ra rb rc h t md)) (IT (ofC rg ra rb rc h t md))):=.o2 fun hok h1 h2 hp=>by
  refine St.enter (N:=63) Tryz.func17 rfl rfl rfl hok (enter2 h1 h2) fun a=>?_
  repeat' (first | refine W.run ?_ fun a w G=>?_ | refine W.mv fun a w G=>?_ | refine W.asg fun a w G=>?_ | refine W.bx fun b a w G=>?_ | (refine W.nn hK ?_;clear hK K) | refine W.reg fun K hK=>?_ | refine W.reg1 ?_ | refine W.nl ?_ | refine W.sq fun K hK=>?_ | refine W.ds ?_ (fun β a w G hu=>W.fin ?_ hu) mixedOrders (by kernel_rfl) | refine W.sk ?_ | (refine W.kn hK ?_;clear hK K) | refine W.cd (fun hc=>?_) (fun hc=>?_) | refine W.cb (fun hc=>?_) (fun hc=>?_) | refine W.al fun b a w G=>?_ | refine W.st fun w=>?_ | refine W.stp fun w=>?_ | refine W.ste ?_ fun w=>?_ | refine W.bl ?_ | refine W.bn ?_ | refine W.ex ?_ | refine W.xt ?_ | refine W.xb ?_ | refine W.xo ?_ | refine W.rt ?_ | refine W.tr ?_ | refine W.br ?_ | refine W.rt1 rfl ?_ | refine W.rt2 rfl ?_ ?_ | refine W.rt3 rfl ?_ ?_ ?_ | clear hK K | clear hu | exact True.intro | exact Nat.le_trans (by clear hp;omega) hp | exact Nat.le_trans (by clear hp;omega) hp.1 | exact Nat.le_trans (by clear hp;omega) hp.2 | (clear hp;omega) | apply And.intro | refine GI.i fun _=>?_ | with_reducible rfl | decide | (simp only [List.length_cons,List.length_nil];omega))
  all_goals (have hx:=@exC_r rg ra rb rc h t md;have hl:=cirs_r hp.2;have h0:=cir_len ((dsc rg ra rb rc false zFR.val).num.sign) ((dsc rg ra rb rc true zFR.val).num.sign);(try unfold ofI);(try unfold ofC);(try unfold ofK);grind)
instance {n m : Nat} {rg ra rb rc t : FR} {h : Bool} {md : Int} {τ1 : MT} [j1 : NF τ1 (QUD n rg ra rb rc)] {τ2 : MT} [j2 : NF τ2 (BST m t h md)] : Con Tryz.prog 17 [τ1,τ2] (100000 * n + 100000 * m + 10000000 ≤ BIG ∧ ciF rg ra rb rc = 0) (MT.tup2 (IT (ofI rg ra rb rc h t md)) (IT (ofC rg ra rb rc h t md))):=.o2 fun hok h1 h2 hp=>w17.c2 hok (j1.h h1) (j2.h h2) hp
theorem w18 {n m m2 : Nat} {rg ra rb rc t t2 : FR} {h h2 : Bool} {md md2 : Int} : Con Tryz.prog 18 [QUD n rg ra rb rc,BST m t h md,BST m2 t2 h2 md2] (100000 * n + 100000 * m + 100000 * m2 + 10000000 ≤ BIG ∧ ciF rg ra rb rc = 0) (MT.tup2 (BT (decide (boC rg ra rb rc h t md h2 t2 md2 = 0) && decide (boI rg ra rb rc h t md h2 t2 md2 = boK rg ra rb rc h t md h2 t2 md2))) (IT (boC rg ra rb rc h t md h2 t2 md2))):=.o3 fun hok h1 h2 h3 hp=>by
  refine St.enter (N:=34) Tryz.func18 rfl rfl rfl hok (enter3 h1 h2 h3) fun a=>?_
  repeat' (first | refine W.run ?_ fun a w G=>?_ | refine W.mv fun a w G=>?_ | refine W.asg fun a w G=>?_ | refine W.bx fun b a w G=>?_ | (refine W.nn hK ?_;clear hK K) | refine W.reg fun K hK=>?_ | refine W.reg1 ?_ | refine W.nl ?_ | refine W.sq fun K hK=>?_ | refine W.ds ?_ (fun β a w G hu=>W.fin ?_ hu) mixedOrders (by kernel_rfl) | refine W.sk ?_ | (refine W.kn hK ?_;clear hK K) | refine W.cd (fun hc=>?_) (fun hc=>?_) | refine W.cb (fun hc=>?_) (fun hc=>?_) | refine W.al fun b a w G=>?_ | refine W.st fun w=>?_ | refine W.stp fun w=>?_ | refine W.ste ?_ fun w=>?_ | refine W.bl ?_ | refine W.bn ?_ | refine W.ex ?_ | refine W.xt ?_ | refine W.xb ?_ | refine W.xo ?_ | refine W.rt ?_ | refine W.tr ?_ | refine W.br ?_ | refine W.rt1 rfl ?_ | refine W.rt2 rfl ?_ ?_ | refine W.rt3 rfl ?_ ?_ ?_ | clear hK K | clear hu | exact True.intro | exact Nat.le_trans (by clear hp;omega) hp | exact Nat.le_trans (by clear hp;omega) hp.1 | exact Nat.le_trans (by clear hp;omega) hp.2 | (clear hp;omega) | apply And.intro | refine GI.i fun _=>?_ | with_reducible rfl | decide | (simp only [List.length_cons,List.length_nil];omega))
  all_goals grind [boC,boI,boK]
instance {n m m2 : Nat} {rg ra rb rc t t2 : FR} {h h2 : Bool} {md md2 : Int} {τ1 : MT} [j1 : NF τ1 (QUD n rg ra rb rc)] {τ2 : MT} [j2 : NF τ2 (BST m t h md)] {τ3 : MT} [j3 : NF τ3 (BST m2 t2 h2 md2)] : Con Tryz.prog 18 [τ1,τ2,τ3] (100000 * n + 100000 * m + 100000 * m2 + 10000000 ≤ BIG ∧ ciF rg ra rb rc = 0) (MT.tup2 (BT (decide (boC rg ra rb rc h t md h2 t2 md2 = 0) && decide (boI rg ra rb rc h t md h2 t2 md2 = boK rg ra rb rc h t md h2 t2 md2))) (IT (boC rg ra rb rc h t md h2 t2 md2))):=.o3 fun hok h1 h2 h3 hp=>w18.c3 hok (j1.h h1) (j2.h h2) (j3.h h3) hp
end Go.Proofs.YtpbkcbnghhodiaaGreat
set_option linter.unusedVariables false
set_option linter.unusedSimpArgs false
set_option maxHeartbeats 4000000
set_option maxRecDepth 100000
set_option synthInstance.maxSize 100000
set_option synthInstance.maxHeartbeats 400000
namespace Go.Proofs.YtpbkcbnghhodiaaGreat
open Go.RowKit (Below)
attribute [local irreducible] barC trnC btC ciF dsc enR enL cirs exC ofC ofI boC boI boK dirC dirS cirF
theorem ex_bar : barC [FR.of 4,FR.of 1,FR.of 9,FR.of 9] = 0:=by
  unfold barC;simp only [List.all_cons,List.all_nil,posR_of4];decide +kernel
theorem ex_ci : ciF (FR.of 4) (FR.of 1) (FR.of 9) (FR.of 9) = 0:=by
  have h : chkF (sqF (FR.of 4) (FR.of 1) (FR.of 9) (FR.of 9)) = 0:=by
    unfold sqF;simp only [FR.of_val];rw [show (4 : Rat) * 4 = 16 by decide +kernel,show (1 : Rat) * 1 = 1 by decide +kernel];exact ex_chk
  unfold ciF;rw [if_pos ex_bar,if_pos h];simp only [FR.of_val];decide +kernel
theorem ex_dR : dsc (FR.of 4) (FR.of 1) (FR.of 9) (FR.of 9) false zFR.val = 243:=by unfold dsc;simp only [FR.of_val,zv0];decide +kernel
theorem ex_dL : dsc (FR.of 4) (FR.of 1) (FR.of 9) (FR.of 9) true zFR.val = 275:=by unfold dsc;simp only [FR.of_val,zv0];decide +kernel
theorem ex_enR : enR (FR.of 4) (FR.of 1) (FR.of 9) (FR.of 9) = 1:=by rw [← enR_ok ex_ci,ex_dR];decide +kernel
theorem ex_enL : enL (FR.of 4) (FR.of 1) (FR.of 9) (FR.of 9) = 1:=by rw [← enL_ok ex_ci,ex_dL];decide +kernel
theorem ex_cirs : cirs (FR.of 4) (FR.of 1) (FR.of 9) (FR.of 9) = [(true,false,1),(true,false,-1)]:=by rw [cirs_ok ex_ci,ex_enR,ex_enL];decide +kernel
theorem ex_ofC : ofC (FR.of 4) (FR.of 1) (FR.of 9) (FR.of 9) true zFR (-1) = 0:=by
  have h : exC (FR.of 4) (FR.of 1) (FR.of 9) (FR.of 9) true zFR (-1) = 0:=by rw [exC_r,ex_dL];simp only [FR.of_val,zv0];decide +kernel
  unfold ofC;rw [if_pos ex_ci,if_pos trn_zero,h];decide
theorem ex_ofI : ofI (FR.of 4) (FR.of 1) (FR.of 9) (FR.of 9) true zFR (-1) = 1:=by unfold ofI;rw [ex_ofC,ex_cirs];decide +kernel
instance  : Con Tryz.prog 22 [] (True) (QUD 64 (FR.of 4) (FR.of 1) (FR.of 9) (FR.of 9)):=.o0 fun hok  hp=>by
  refine St.enter (N:=6) Tryz.func22 rfl rfl rfl hok enter0 fun a=>?_
  repeat' (first | refine W.run ?_ fun a w G=>?_ | refine W.mv fun a w G=>?_ | refine W.asg fun a w G=>?_ | refine W.bx fun b a w G=>?_ | (refine W.nn hK ?_;clear hK K) | refine W.reg fun K hK=>?_ | refine W.reg1 ?_ | refine W.nl ?_ | refine W.sq fun K hK=>?_ | refine W.ds ?_ (fun β a w G hu=>W.fin ?_ hu) mixedOrders (by kernel_rfl) | refine W.sk ?_ | (refine W.kn hK ?_;clear hK K) | refine W.cd (fun hc=>?_) (fun hc=>?_) | refine W.cb (fun hc=>?_) (fun hc=>?_) | refine W.al fun b a w G=>?_ | refine W.st fun w=>?_ | refine W.stp fun w=>?_ | refine W.ste ?_ fun w=>?_ | refine W.bl ?_ | refine W.bn ?_ | refine W.ex ?_ | refine W.xt ?_ | refine W.xb ?_ | refine W.xo ?_ | refine W.rt ?_ | refine W.tr ?_ | refine W.br ?_ | refine W.rt1 rfl ?_ | refine W.rt2 rfl ?_ ?_ | refine W.rt3 rfl ?_ ?_ ?_ | clear hK K | clear hu | exact True.intro | exact Nat.le_trans (by clear hp;omega) hp | exact Nat.le_trans (by clear hp;omega) hp.1 | exact Nat.le_trans (by clear hp;omega) hp.2 | (clear hp;omega) | apply And.intro | refine GI.i fun _=>?_ | with_reducible rfl | decide | (simp only [List.length_cons,List.length_nil];omega))
instance  : Con Tryz.prog 6 [] (True) (BT true):=.o0 fun hok  hp=>by
  refine St.enter (N:=66) Tryz.func6 rfl rfl rfl hok enter0 fun a=>?_
  repeat' (first | refine W.run ?_ fun a w G=>?_ | refine W.mv fun a w G=>?_ | refine W.asg fun a w G=>?_ | refine W.bx fun b a w G=>?_ | (refine W.nn hK ?_;clear hK K) | refine W.reg fun K hK=>?_ | refine W.reg1 ?_ | refine W.nl ?_ | refine W.sq fun K hK=>?_ | refine W.ds ?_ (fun β a w G hu=>W.fin ?_ hu) mixedOrders (by kernel_rfl) | refine W.sk ?_ | (refine W.kn hK ?_;clear hK K) | refine W.cd (fun hc=>?_) (fun hc=>?_) | refine W.cb (fun hc=>?_) (fun hc=>?_) | refine W.al fun b a w G=>?_ | refine W.st fun w=>?_ | refine W.stp fun w=>?_ | refine W.ste ?_ fun w=>?_ | refine W.bl ?_ | refine W.bn ?_ | refine W.ex ?_ | refine W.xt ?_ | refine W.xb ?_ | refine W.xo ?_ | refine W.rt ?_ | refine W.tr ?_ | refine W.br ?_ | refine W.rt1 rfl ?_ | refine W.rt2 rfl ?_ ?_ | refine W.rt3 rfl ?_ ?_ ?_ | clear hK K | clear hu | exact True.intro | exact Nat.le_trans (by clear hp;omega) hp | exact Nat.le_trans (by clear hp;omega) hp.1 | exact Nat.le_trans (by clear hp;omega) hp.2 | (clear hp;omega) | apply And.intro | refine GI.i fun _=>?_ | with_reducible rfl | decide | (simp only [List.length_cons,List.length_nil];omega))
  all_goals first | (rw [ex_cirs];decide) | (rw [ex_ci,ex_ofC,ex_cirs,ex_enR,ex_enL,ex_ofI];decide) | skip
end Go.Proofs.YtpbkcbnghhodiaaGreat
set_option linter.unusedVariables false
set_option linter.unusedSimpArgs false
set_option maxHeartbeats 4000000
set_option maxRecDepth 100000
set_option synthInstance.maxSize 100000
set_option synthInstance.maxHeartbeats 400000
namespace Go.Proofs.YtpbkcbnghhodiaaGreat
open Go.RowKit (Below)
attribute [local irreducible] barC trnC btC ciF dsc enR enL cirs exC ofC ofI boC boI boK dirC dirS cirF
def BSX (x : FR × Bool × Int) : MT:=PTS [(some 4,PTS [(some 3,RX x.1),(none,BT x.2.1)]),(none,IT x.2.2)]
instance {x : FR × Bool × Int} : Shp (BSX x) (some 5):=⟨fun h=>PTS.shaped rfl h⟩
instance (priority:=800) Prt.bsx {x : FR × Bool × Int} {i : Nat} {kt : Option Nat} {τ : MT} [h : PrtL [(some 4,PTS [(some 3,RX x.1),(none,BT x.2.1)]),(none,IT x.2.2)] i kt τ] : Prt (BSX x) i kt τ:=(inferInstance : Prt (PTS [(some 4,PTS [(some 3,RX x.1),(none,BT x.2.1)]),(none,IT x.2.2)]) i kt τ)
instance {r : FR} {h : Bool} {m : Int} : AsT (PTS [(some 4,PTS [(some 3,RX r),(none,BT h)]),(none,IT m)]) BSX (r,h,m):=⟨fun h=>h⟩
instance {n : Nat} {r : FR} {h : Bool} {m : Int} : AsT (PTS [(some 4,PTS [(some 3,FX n r),(none,BT h)]),(none,IT m)]) BSX (r,h,m):=⟨fun h=>NR.h h⟩
instance NR.bs {τs : List MT} {xs : List (FR × Bool × Int)} [h : AsTL τs BSX xs] : NR (LSC (some 5) τs) (LS (some 5) (xs.map BSX)):=⟨fun hv=>h.ls hv.1⟩
instance NR.bn : NR (.ex (.slice none 0 0)) (LS (some 5) (([] : List (FR × Bool × Int)).map BSX)):=⟨fun h=>by cases h;exact LS.nil⟩
def shT (x : FR × Bool × Int) : Bool:=shortR x.1
instance : CirT Tryz.prog 42:=⟨_,_,_,Tryz.underlying42,by kernel_rfl,by kernel_rfl,rfl,⟨rfl,rfl,rfl⟩,by kernel_rfl,by kernel_rfl,by kernel_rfl,by kernel_rfl,by kernel_rfl,by kernel_rfl⟩
theorem w7 {rg ra rb rc : FR} {l : List (FR × Bool × Int)} : Con Tryz.prog 7 [PTS [(some 3,RX rg),(some 3,RX ra),(some 3,RX rb),(some 3,RX rc)],LS (some 5) (l.map BSX)] (True) (BT (l.all shT && [rg,ra,rb,rc].all shortR)):=.o2 fun hok h1 h2 hp=>by
  refine St.enter (N:=30) Tryz.func7 rfl rfl rfl hok (enter2 h1 h2) fun a=>?_
  have hlim:=LS.lenM h2
  simp only [LIM] at hlim
  repeat' (first | refine W.run ?_ fun a w G=>?_ | refine W.mv fun a w G=>?_ | refine W.asg fun a w G=>?_ | refine W.bx fun b a w G=>?_ | (refine W.nn hK ?_;clear hK K) | refine W.reg fun K hK=>?_ | refine W.reg1 ?_ | refine W.nl ?_ | refine W.sq fun K hK=>?_ | refine W.ds ?_ (fun β a w G hu=>W.fin ?_ hu) mixedOrders (by kernel_rfl) | refine W.sk ?_ | (refine W.kn hK ?_;clear hK K) | refine W.cd (fun hc=>?_) (fun hc=>?_) | refine W.cb (fun hc=>?_) (fun hc=>?_) | refine W.al fun b a w G=>?_ | refine W.st fun w=>?_ | refine W.stp fun w=>?_ | refine W.ste ?_ fun w=>?_ | refine W.bl ?_ | refine W.bn ?_ | refine W.ex ?_ | refine W.xt ?_ | refine W.xb ?_ | refine W.xo ?_ | refine W.rt ?_ | refine W.tr ?_ | refine W.br ?_ | refine W.rt1 rfl ?_ | refine W.rt2 rfl ?_ ?_ | refine W.rt3 rfl ?_ ?_ ?_ | refine W.lp 10 (α:=Nat) (fun j=>l.length - j) (fun j=>j ≤ l.length ∧ (l.take j).all shT = true) [4,6,9,10,11,12,13,14,15,16,17,18,19,20,21,22,23,24,25,26,27] (fun j=>[(9,NT j)]) (fun j=>[]) (0) ?_ ?_ ?_ fun j hj a w G=>?_ | refine W.ag (x:=j) (j+1) ?_ ?_ ?_ ?_ | clear hK K | clear hu | exact True.intro | exact Nat.le_trans (by clear hp;omega) hp | exact Nat.le_trans (by clear hp;omega) hp.1 | exact Nat.le_trans (by clear hp;omega) hp.2 | (clear hp;omega) | apply And.intro | refine GI.i fun _=>?_ | with_reducible rfl | decide | (simp only [List.length_cons,List.length_nil];omega))
  all_goals first
    | rfl
    | (rw [all_not (show j < l.length by omega) (shortR_t hc)];rfl)
    | exact all_snoc (show j < l.length by omega) hj.2 (shortR_f hc)
    | (rw [all_end (show ¬ j < l.length by omega) hj.2,Bool.true_and])
instance {rg ra rb rc : FR} {l : List (FR × Bool × Int)} {τ1 : MT} [j1 : NR τ1 (PTS [(some 3,RX rg),(some 3,RX ra),(some 3,RX rb),(some 3,RX rc)])] {τ2 : MT} [j2 : NR τ2 (LS (some 5) (l.map BSX))] : Con Tryz.prog 7 [τ1,τ2] (True) (BT (l.all shT && [rg,ra,rb,rc].all shortR)):=.o2 fun hok h1 h2 hp=>w7.c2 hok (j1.h h1) (j2.h h2) hp
end Go.Proofs.YtpbkcbnghhodiaaGreat
set_option linter.unusedVariables false
set_option linter.unusedSimpArgs false
set_option maxHeartbeats 4000000
set_option maxRecDepth 100000
set_option synthInstance.maxSize 100000
set_option synthInstance.maxHeartbeats 400000
namespace Go.Proofs.YtpbkcbnghhodiaaGreat
open Go.RowKit (Below)
attribute [local irreducible] barC trnC btC ciF dsc enR enL cirs exC ofC ofI boC boI boK dirC dirS cirF
end Go.Proofs.YtpbkcbnghhodiaaGreat
namespace Go.Proofs.YtpbkcbnghhodiaaGreat
theorem inv_pos {u : Rat} (h : 0 < u) : ∃ v : Rat,0 < v ∧ u * v = 1:=by
  refine ⟨u⁻¹,?_,Rat.mul_inv_cancel u (by grind)⟩
  exact Rat.inv_pos.2 h
theorem num_sg (x : Rat) : (x.num.sign = 1 ↔ 0 < x) ∧ (x.num.sign = 0 ↔ x = 0) ∧ (x.num.sign < 0 ↔ x < 0):=by
  have h1:=@rat_pos_iff x;have h2:=@Rat.num_eq_zero x;have h3:=sgn_cases x.num
  refine ⟨by rw [h1];omega,by rw [← h2];omega,?_⟩
  constructor
  · intro h;have : ¬ 0 < x:=fun k=>by have:=h1.1 k;omega
    have : x ≠ 0:=fun e=>by have:=h2.2 e;omega
    grind
  · intro h;have : ¬ 0 < x.num:=fun k=>by have:=h1.2 k;grind
    have : x.num ≠ 0:=fun e=>by have:=h2.1 e;grind
    omega
end Go.Proofs.YtpbkcbnghhodiaaGreat
set_option linter.unusedVariables false
set_option linter.unusedSimpArgs false
set_option maxHeartbeats 4000000
set_option maxRecDepth 100000
set_option synthInstance.maxSize 100000
set_option synthInstance.maxHeartbeats 400000
namespace Go.Proofs.YtpbkcbnghhodiaaGreat
open Go.RowKit (Below)
attribute [local irreducible] barC trnC btC ciF dsc enR enL cirs exC ofC ofI boC boI boK dirC dirS cirF
end Go.Proofs.YtpbkcbnghhodiaaGreat
set_option linter.unusedVariables false
set_option linter.unusedSimpArgs false
namespace Go.Proofs.YtpbkcbnghhodiaaGreat
open Go.RowKit (Below)
class Gnd (ρ : MT) : Prop where
  h : ∀ {v : Value} {G G' : Gh},ρ.t v G → ρ.t v G'
instance Gnd.e {x : Value} : Gnd (.ex x):=⟨fun h=>h⟩
instance Gnd.t2 {τ σ : MT} [h : Gnd τ] [k : Gnd σ] : Gnd (.tup2 τ σ):=⟨fun ⟨x,y,e,h1,h2⟩=>⟨x,y,e,h.h h1,k.h h2⟩⟩
instance Gnd.t3 {τ σ ρ : MT} [h : Gnd τ] [k : Gnd σ] [l : Gnd ρ] : Gnd (.tup3 τ σ ρ):=⟨fun ⟨x,y,z,e,h1,h2,h3⟩=>⟨x,y,z,e,h.h h1,k.h h2,l.h h3⟩⟩
section
variable {P : Program} {W0 : World} {a : Act} {w : World} {G : Gh} {o : Oper} {ρ : MT}
theorem OpR.lendG {f b : Nat} {ty : TypeId} {k : Option Nat} {τ : MT} {args : Array Operand} {ats : Array TypeId} (hok : Gok w G) (ho : o.op = .call { callee := .value (.func f), args := args, argTypes := ats }) (hc : callable P f = true) (hg : Gnd ρ)
    (hb : BX.ok ⟨b,ty,k,τ⟩ W0 w G) (h : ∀ G1 v,Gle G G1 → Gok w G1 → Shaped k v → τ.t v G → G1 b = some (.cells v.cells ty (0,0)) → Calls P f (args.map a.eval) w (Ret w G1 ρ)) : OpR P o a w G ρ:=by
  obtain ⟨h1,h2,v,hv,hs,hvt⟩:=hb
  simp only at h1 h2 hv hs hvt
  have hle : Gle G (Gput G b (.cells v.cells ty (0,0))):=fun c x hc=>by
    unfold Gput;split
    · rename_i e;subst e;rw [h2] at hc;cases hc
    · exact hc
  have hok1 : Gok w (Gput G b (.cells v.cells ty (0,0))):=fun c x hc=>by
    unfold Gput at hc;split at hc
    · rename_i e;subst e;cases hc;exact hv
    · exact hok c x hc
  have hcall:=h _ v hle hok1 hs hvt (by simp [Gput])
  intro Q K hK
  have hr : (execOp a.eval o).run P w = .ok (.enter f (args.map a.eval)) w:=by
    simp [execOp,ho,resolve,Act.eval,Deferred.ofValue,invoke,run_callFunc hc]
  unfold Oper.wp
  rw [hr]
  refine Calls.mono hcall fun e w' he=>?_
  obtain ⟨u,G',rfl,hu,hN⟩:=he
  refine hK u w' (fun c=>if c = b then none else G' c) (hg.h hu) ⟨hN.below,fun c hc=>?_,fun c x hc=>?_,fun c x hc=>?_⟩
  · by_cases e : c = b
    · subst e;simp [h2]
    · simp only [if_neg e];rw [hN.agree c hc];unfold Gput;rw [if_neg e]
  · have e : c ≠ b:=fun e=>by rw [e,h2] at hc;cases hc
    simp only [if_neg e]
    exact hN.le c x (hle c x hc)
  · by_cases e : c = b
    · subst e;simp at hc
    · simp only [if_neg e] at hc;exact hN.ok c x hc
end
theorem Args.mono {G G' : Gh} (hle : Gle G G') : ∀ {vs : List Value} {τs : List MT},Args vs τs G → Args vs τs G'
  | [],[],_=>trivial
  | _ :: _,τ :: _,h=>⟨τ.mono hle h.1,Args.mono hle h.2⟩
  | [],_ :: _,h=>h.elim
  | _ :: _,[],h=>h.elim
class OpdX (L : List (Nat × MT)) (B : List BX) (xs : List Operand) (τs : outParam (List MT)) (u : outParam (List Nat)) (i : outParam Nat) (pre : outParam Prop) : Prop where
  h : ∃ xb,B[i]? = some xb ∧ ∀ {a : Act} {G G1 : Gh} {v : Value},pre → Env L u a G → Gle G G1 → Shaped xb.k v → xb.τ.t v G → G1 xb.b = some (.cells v.cells xb.ty (0,0)) → Args (xs.map a.eval) τs G1
section
variable {P : Program} {L : List (Nat × MT)} {B : List BX} {x : Operand} {ys : List Operand} {u v : List Nat} {t ty : TypeId} {τ τb ρ : MT} {τs : List MT} {n nn c b i f : Nat} {k : Option Nat} {α : Type} {T : α → MT} {xs : List α} {pre p2 : Prop} {ats : Array TypeId}
instance OpdX.hd [h : Opd L x (OSL b n c) u] [hb : Bx B b i ty (some nn) τb] [r : AsR τb k α T xs] [l : OpdL L ys τs v] : OpdX L B (x :: ys) (LS k (xs.map T) :: τs) (u ++ v) i (n = xs.length ∧ n ≤ c ∧ n ≤ LIM):=⟨_,hb.m,fun hp e hle hs ht hG =>
  ⟨ROWS.sl (r.h (MT.mono _ hle ht)) hG (by rw [List.length_map];exact hp.1) hp.2.1 hp.2.2 (h.h e.l),Args.mono hle (l.h e.r)⟩⟩
instance OpdX.tl [h : Opd L x τ u] [l : OpdX L B ys τs v i pre] : OpdX L B (x :: ys) (τ :: τs) (u ++ v) i pre:=by
  obtain ⟨xb,h1,h2⟩:=l.h
  exact ⟨xb,h1,fun hp e hle hs ht hG=>⟨τ.mono hle (h.h e.l),h2 hp e.r hle hs ht hG⟩⟩
instance (priority:=400) Op1.lend [h : OpdX L B ys τs u i p2] [c : Con P f τs pre ρ] [g : Gnd ρ] [kb : Cb P f] : Op1 P L B (.call { callee:=.value (.func f),args:=ys.toArray,argTypes:=ats }) (p2 ∧ pre) ρ (u ++ [1000000 + i]):=⟨fun ho hok e hB hp=>by
  obtain ⟨xb,h1,h2⟩:=h.h
  exact .lendG hok ho kb.h g (hB i xb (by simp) h1) fun G1 v hle hok1 hs ht hG=>by
    rw [List.map_toArray]
    exact c.h hok1 (h2 hp.1 e.l hle hs ht hG) hp.2⟩
instance Op1.sla [e : ArE P t n k] [h : Opd L x (PB b) u] : Op1 P L B (.slice t x none none none) (0 < n) (OSL b n n) u:=⟨fun ho hok e' _ hp=>by
  obtain ⟨e0,h3,h4⟩:=e.h
  exact .slAr hok ho h3 h4 (h.h e') (decide_eq_true hp) rfl⟩
instance LitN.add {z z' : Int} {m m' : Nat} [h : LitN z m] [h' : LitN z' m'] : LitN (z + z') (m + m'):=⟨by rw [h.h,h'.h];omega⟩
instance LitN.mul {z z' : Int} {m m' : Nat} [h : LitN z m] [h' : LitN z' m'] : LitN (z * z') (m * m'):=⟨by rw [h.h,h'.h];exact (Int.natCast_mul _ _).symm⟩
variable {y : Operand} {t' : TypeId} {z z' : Int} {m m' j : Nat}
instance Op1.quoN [h : Opd L x (IT z) u] [h2 : Opd L y (IT z') v] [l : LitN z m] [l' : LitN z' m'] : Op1 P L B (.binOp .quo t x y t') (m' ≠ 0 ∧ m ≤ 9223372036854775807) (NT (m / m')) (u ++ v):=⟨fun ho hok e _ hp=>by
  obtain rfl:=l.h;obtain rfl:=l'.h
  exact .nquo hok ho (h.h e.l) (h2.h e.r) hp.1 (i64_w ⟨Int.le_trans (by decide) (Int.natCast_nonneg _),Int.ofNat_le.2 (Nat.le_trans (Nat.div_le_self m m') hp.2)⟩) rfl⟩
instance Op1.remN [h : Opd L x (IT z) u] [h2 : Opd L y (IT z') v] [l : LitN z m] [l' : LitN z' m'] : Op1 P L B (.binOp .rem t x y t') (m' ≠ 0) (NT (m % m')) (u ++ v):=⟨fun ho hok e _ hp=>by
  obtain rfl:=l.h;obtain rfl:=l'.h
  exact .nrem hok ho (h.h e.l) (h2.h e.r) hp rfl⟩
instance Op1.shlN [h : Opd L x (IT z) u] [h2 : Opd L y (IT z') v] [l : LitN z m] [l' : LitN z' m'] : Op1 P L B (.binOp .shl t x y t') (m' < 64 ∧ m * 2 ^ m' ≤ 9223372036854775807) (NT (m * 2 ^ m')) (u ++ v):=⟨fun ho hok e _ hp=>by
  obtain rfl:=l.h;obtain rfl:=l'.h
  refine .shl hok ho (h.h e.l) (h2.h e.r) (by omega) ?_
  have e1 : (min ((m' : Int).toNat) IntKind.i64.bits) = m':=by simp only [Int.toNat_natCast,IntKind.bits];omega
  have e2 : ((m : Int) * 2 ^ m') = ((m * 2 ^ m' : Nat) : Int):=by simp
  rw [e1,e2,i64_w ⟨by omega,by omega⟩];rfl⟩
instance Op1.maxN [h : Opd L x (IT z) u] [h2 : Opd L y (IT z') v] [l : LitN z m] [l' : LitN z' m'] : Op1 P L B (.call { callee:=.builtin .max,args:=#[x,y],argTypes:=ats }) True (NT (max m m')) (u ++ v):=⟨fun ho hok e _ hp=>by
  obtain rfl:=l.h;obtain rfl:=l'.h
  exact .nmax hok ho (h.h e.l) (h2.h e.r) rfl⟩
class LsOf (τ : MT) (k : Option Nat) (α : outParam Type) (T : outParam (α → MT)) (xs : outParam (List α)) : Prop where
  h : ∀ {v : Value} {G : Gh},τ.t v G → (LS k (xs.map T)).t v G
instance LsOf.ll : LsOf (LS k (xs.map T)) k α T xs:=⟨fun h=>h⟩
instance LsOf.lc : LsOf (LSC k (xs.map T)) k α T xs:=⟨fun h=>h.1⟩
instance Op1.cutHiM [s : SlE P t k] [h : Opd L x τ u] [l : LsOf τ k α T xs] [h2 : Opd L y (IT z) v] [lz : LitN z j] : Op1 P L B (.slice t x none (some y) none) (j ≤ xs.length) (LS k ((xs.take j).map T)) (u ++ v):=⟨fun ho hok e _ hp=>by
  obtain ⟨e',h3,h4⟩:=s.h
  exact .cutHiM hok ho h3 h4 (l.h (h.h e.l)) (h2.h e.r) lz.h hp⟩
instance Op1.cutLoM [s : SlE P t k] [h : Opd L x τ u] [l : LsOf τ k α T xs] [h2 : Opd L y (IT z) v] [lz : LitN z j] : Op1 P L B (.slice t x (some y) none none) (j ≤ xs.length) (LS k ((xs.drop j).map T)) (u ++ v):=⟨fun ho hok e _ hp=>by
  obtain ⟨e',h3,h4⟩:=s.h
  exact .cutLoM hok ho h3 h4 (l.h (h.h e.l)) (h2.h e.r) lz.h hp⟩
instance Op1.cutLHM {y2 : Operand} {z2 : Int} {j2 : Nat} {v2 : List Nat} [s : SlE P t k] [h : Opd L x τ u] [l : LsOf τ k α T xs] [h2 : Opd L y (IT z) v] [lz : LitN z j] [h3 : Opd L y2 (IT z2) v2] [lz2 : LitN z2 j2] : Op1 P L B (.slice t x (some y) (some y2) none) (j ≤ j2 ∧ j2 ≤ xs.length) (LS k (((xs.take j2).drop j).map T)) (u ++ (v ++ v2)):=⟨fun ho hok e _ hp=>by
  obtain ⟨e',h4,h5⟩:=s.h
  exact .cutLHM hok ho h4 h5 (l.h (h.h e.l)) (h2.h e.r.l) lz.h (h3.h e.r.r) lz2.h hp.1 hp.2⟩
instance (priority:=1100) Op1.lenC [s : SlE P t k] [h : Opd L x (LSC k (xs.map T)) u] : Op1 P L B (.call { callee:=.builtin .len,args:=#[x],argTypes:=#[t] }) True (NT xs.length) u:=⟨fun ho hok e _ _=>by obtain ⟨e',h1,h2⟩:=s.h;exact .lenM hok ho h1 (h.h e).1 rfl⟩
instance Op1.ixMC [Inhabited α] [s : SlE P t k] [h : Opd L x (LSC k (xs.map T)) u] [h2 : Opd L y (IT z) v] : Op1 P L B (.indexAddr t x y) (0 ≤ z ∧ z < xs.length) (PE k (T (xs.getD z.toNat default))) (u ++ v):=⟨fun ho hok e _ hp=>by
  obtain ⟨e',h3,h4⟩:=s.h
  exact .ixM hok ho h3 h4 (h.h e.l).1 (h2.h e.r) (i:=z.toNat) (by omega) (by omega)⟩
instance (priority:=1100) Op1.ixMCN [Inhabited α] [s : SlE P t k] [h : Opd L x (LSC k (xs.map T)) u] [h2 : Opd L y (NT j) v] : Op1 P L B (.indexAddr t x y) (j < xs.length) (PE k (T (xs.getD j default))) (u ++ v):=⟨fun ho hok e _ hp=>by
  obtain ⟨e',h3,h4⟩:=s.h
  exact .ixM hok ho h3 h4 (h.h e.l).1 (h2.h e.r) rfl hp⟩
end
section
variable {fs : List (Option Nat × MT)} {n i : Nat} {τ τ' : MT} {k kt : Option Nat}
instance (priority:=500) PrtL.s5 [h : PrtL fs i kt τ] : PrtL ((some 5,τ') :: fs) (i + 5) kt τ:=h.skip rfl
instance (priority:=500) UpdL.s5 {fs' : List (Option Nat × MT)} [h : UpdL fs i kt τ fs'] : UpdL ((some 5,τ') :: fs) (i + 5) kt τ ((some 5,τ') :: fs'):=h.skip rfl
instance ShN.s7 [h : ShN fs n] : ShN ((some 7,τ) :: fs) (n + 7):=⟨by rw [offs_cons,h.h];simp;omega⟩
instance (priority:=500) PrtL.s7 [h : PrtL fs i kt τ] : PrtL ((some 7,τ') :: fs) (i + 7) kt τ:=h.skip rfl
instance (priority:=500) UpdL.s7 {fs' : List (Option Nat × MT)} [h : UpdL fs i kt τ fs'] : UpdL ((some 7,τ') :: fs) (i + 7) kt τ ((some 7,τ') :: fs'):=h.skip rfl
instance ShN.s8 [h : ShN fs n] : ShN ((some 8,τ) :: fs) (n + 8):=⟨by rw [offs_cons,h.h];simp;omega⟩
instance (priority:=500) PrtL.s8 [h : PrtL fs i kt τ] : PrtL ((some 8,τ') :: fs) (i + 8) kt τ:=h.skip rfl
instance (priority:=500) UpdL.s8 {fs' : List (Option Nat × MT)} [h : UpdL fs i kt τ fs'] : UpdL ((some 8,τ') :: fs) (i + 8) kt τ ((some 8,τ') :: fs'):=h.skip rfl
instance ShN.s9 [h : ShN fs n] : ShN ((some 9,τ) :: fs) (n + 9):=⟨by rw [offs_cons,h.h];simp;omega⟩
instance (priority:=500) PrtL.s9 [h : PrtL fs i kt τ] : PrtL ((some 9,τ') :: fs) (i + 9) kt τ:=h.skip rfl
instance (priority:=500) UpdL.s9 {fs' : List (Option Nat × MT)} [h : UpdL fs i kt τ fs'] : UpdL ((some 9,τ') :: fs) (i + 9) kt τ ((some 9,τ') :: fs'):=h.skip rfl
instance ShN.s10 [h : ShN fs n] : ShN ((some 10,τ) :: fs) (n + 10):=⟨by rw [offs_cons,h.h];simp;omega⟩
instance (priority:=500) PrtL.s10 [h : PrtL fs i kt τ] : PrtL ((some 10,τ') :: fs) (i + 10) kt τ:=h.skip rfl
instance (priority:=500) UpdL.s10 {fs' : List (Option Nat × MT)} [h : UpdL fs i kt τ fs'] : UpdL ((some 10,τ') :: fs) (i + 10) kt τ ((some 10,τ') :: fs'):=h.skip rfl
instance ShN.s12 [h : ShN fs n] : ShN ((some 12,τ) :: fs) (n + 12):=⟨by rw [offs_cons,h.h];simp;omega⟩
instance (priority:=500) PrtL.s12 [h : PrtL fs i kt τ] : PrtL ((some 12,τ') :: fs) (i + 12) kt τ:=h.skip rfl
instance (priority:=500) UpdL.s12 {fs' : List (Option Nat × MT)} [h : UpdL fs i kt τ fs'] : UpdL ((some 12,τ') :: fs) (i + 12) kt τ ((some 12,τ') :: fs'):=h.skip rfl
instance ShN.s13 [h : ShN fs n] : ShN ((some 13,τ) :: fs) (n + 13):=⟨by rw [offs_cons,h.h];simp;omega⟩
instance (priority:=500) PrtL.s13 [h : PrtL fs i kt τ] : PrtL ((some 13,τ') :: fs) (i + 13) kt τ:=h.skip rfl
instance (priority:=500) UpdL.s13 {fs' : List (Option Nat × MT)} [h : UpdL fs i kt τ fs'] : UpdL ((some 13,τ') :: fs) (i + 13) kt τ ((some 13,τ') :: fs'):=h.skip rfl
instance ShN.s14 [h : ShN fs n] : ShN ((some 14,τ) :: fs) (n + 14):=⟨by rw [offs_cons,h.h];simp;omega⟩
instance (priority:=500) PrtL.s14 [h : PrtL fs i kt τ] : PrtL ((some 14,τ') :: fs) (i + 14) kt τ:=h.skip rfl
instance (priority:=500) UpdL.s14 {fs' : List (Option Nat × MT)} [h : UpdL fs i kt τ fs'] : UpdL ((some 14,τ') :: fs) (i + 14) kt τ ((some 14,τ') :: fs'):=h.skip rfl
instance ShN.s15 [h : ShN fs n] : ShN ((some 15,τ) :: fs) (n + 15):=⟨by rw [offs_cons,h.h];simp;omega⟩
instance (priority:=500) PrtL.s15 [h : PrtL fs i kt τ] : PrtL ((some 15,τ') :: fs) (i + 15) kt τ:=h.skip rfl
instance (priority:=500) UpdL.s15 {fs' : List (Option Nat × MT)} [h : UpdL fs i kt τ fs'] : UpdL ((some 15,τ') :: fs) (i + 15) kt τ ((some 15,τ') :: fs'):=h.skip rfl
instance ShN.s16 [h : ShN fs n] : ShN ((some 16,τ) :: fs) (n + 16):=⟨by rw [offs_cons,h.h];simp;omega⟩
instance (priority:=500) PrtL.s16 [h : PrtL fs i kt τ] : PrtL ((some 16,τ') :: fs) (i + 16) kt τ:=h.skip rfl
instance (priority:=500) UpdL.s16 {fs' : List (Option Nat × MT)} [h : UpdL fs i kt τ fs'] : UpdL ((some 16,τ') :: fs) (i + 16) kt τ ((some 16,τ') :: fs'):=h.skip rfl
instance ShN.s18 [h : ShN fs n] : ShN ((some 18,τ) :: fs) (n + 18):=⟨by rw [offs_cons,h.h];simp;omega⟩
instance (priority:=500) PrtL.s18 [h : PrtL fs i kt τ] : PrtL ((some 18,τ') :: fs) (i + 18) kt τ:=h.skip rfl
instance (priority:=500) UpdL.s18 {fs' : List (Option Nat × MT)} [h : UpdL fs i kt τ fs'] : UpdL ((some 18,τ') :: fs) (i + 18) kt τ ((some 18,τ') :: fs'):=h.skip rfl
instance ShN.s20 [h : ShN fs n] : ShN ((some 20,τ) :: fs) (n + 20):=⟨by rw [offs_cons,h.h];simp;omega⟩
instance (priority:=500) PrtL.s20 [h : PrtL fs i kt τ] : PrtL ((some 20,τ') :: fs) (i + 20) kt τ:=h.skip rfl
instance (priority:=500) UpdL.s20 {fs' : List (Option Nat × MT)} [h : UpdL fs i kt τ fs'] : UpdL ((some 20,τ') :: fs) (i + 20) kt τ ((some 20,τ') :: fs'):=h.skip rfl
end
end Go.Proofs.YtpbkcbnghhodiaaGreat
set_option linter.unusedVariables false
set_option linter.unusedSimpArgs false
set_option maxHeartbeats 4000000
set_option maxRecDepth 100000
set_option synthInstance.maxSize 100000
set_option synthInstance.maxHeartbeats 400000
namespace Go.Proofs.YtpbkcbnghhodiaaGreat
open Go.RowKit (Below)
attribute [local irreducible] barC trnC btC ciF dsc enR enL cirs exC ofC ofI boC boI boK dirC dirS cirF
instance {r : FR} : Con Tryz.prog 34 [RX r] (shortR r = true) (IT r.val.num.sign):=.o1 fun hok h1 hp=>w34.c1 hok (FX.toQV (RX.toFX h1 hp)) (by decide)
theorem longG {s A B C : Bool} (h : s = false) : ((((!true || !s) || A) || B) || C) = true:=by rw [h];rfl
end Go.Proofs.YtpbkcbnghhodiaaGreat
set_option linter.unusedVariables false
set_option linter.unusedSimpArgs false
namespace Go.Proofs.YtpbkcbnghhodiaaGreat
open Go.RowKit (Below)
abbrev NM (n : Nat) (l : List Rat) : MT:=LS (some 3) (l.map (QC n))
abbrev TWR (n : Nat) (rs : List (List Rat)) : MT:=PTS [(none,LS none (rs.map (NM n)))]
abbrev BPT (n : Nat) (x : Int × List Rat × List Rat) : MT:=PTS [(none,IT x.1),(some 2,PTS [(none,NM n x.2.1),(none,NM n x.2.2)])]
theorem LS.shn {k : Option Nat} {τs : List MT} {v : Value} {G : Gh} (h : (LS k τs).t v G) : Shaped none v:=by obtain ⟨A,c,rfl,_⟩:=h;exact ⟨rfl,rfl⟩
instance {k : Option Nat} {τs : List MT} : ShK (LS k τs) none:=⟨LS.shn⟩
instance {k : Option Nat} {τs : List MT} : ShK (LSC k τs) none:=⟨fun h=>LS.shn h.1⟩
class Fit {α : Type} (τ : MT) (T : α → MT) (x : outParam α) (p : outParam Prop) : Prop where
  h : p → ∀ {v : Value} {G : Gh},τ.t v G → (T x).t v G
class FitL {α : Type} (τs : List MT) (T : α → MT) (xs : outParam (List α)) (p : outParam Prop) : Prop where
  h : p → τs.length = xs.length ∧ ∀ (i : Nat) (τ : MT),τs[i]? = some τ → ∃ x,xs[i]? = some x ∧ ∀ {v : Value} {G : Gh},τ.t v G → (T x).t v G
section
variable {α : Type} {T : α → MT} {τ τ' : MT} {τs : List MT} {x : α} {xs ys : List α} {p p' : Prop} {b c : Nat} {k : Option Nat}
instance (priority:=500) Fit.of [h : AsT τ T x] : Fit τ T x True:=⟨fun _ _ _ hv=>h.h hv⟩
instance Fit.q {z : Rat} : Fit (QC c z) (QC b) z (c ≤ b):=⟨fun e _ _ h=>QC.up h e⟩
instance FitL.nil : FitL [] T [] True:=⟨fun _=>⟨rfl,fun i τ h=>by simp at h⟩⟩
instance FitL.cons [h : Fit τ T x p] [l : FitL τs T xs p'] : FitL (τ :: τs) T (x :: xs) (p ∧ p'):=⟨fun e=>⟨by simp [(l.h e.2).1],fun i σ hi=>by
  cases i with
  | zero=>cases hi;exact ⟨x,rfl,h.h e.1⟩
  | succ i=>exact (l.h e.2).2 i σ (by simpa using hi)⟩⟩
class FitM {β : Type} (U : β → MT) (T : α → MT) (f : outParam (β → α)) (p : outParam Prop) : Prop where
  h : p → ∀ {y : β} {v : Value} {G : Gh},(U y).t v G → (T (f y)).t v G
instance (priority:=600) FitL.m {β : Type} {U : β → MT} {f : β → α} {zs : List β} [h : FitM U T f p] : FitL (zs.map U) T (zs.map f) p:=⟨fun e=>⟨by simp,fun i τ hi=>by
  rw [List.getElem?_map] at hi
  cases hz : zs[i]? with
  | none=>rw [hz] at hi;cases hi
  | some z=>rw [hz] at hi;cases hi;exact ⟨f z,by simp [hz],fun hv=>h.h e hv⟩⟩⟩
instance FitL.q {zs : List Rat} : FitL (zs.map (QC c)) (QC b) zs (c ≤ b):=⟨fun e=>⟨by simp,fun i τ hi=>by
  rw [List.getElem?_map] at hi
  cases hz : zs[i]? with
  | none=>rw [hz] at hi;cases hi
  | some z=>rw [hz] at hi;cases hi;exact ⟨z,rfl,fun hv=>QC.up hv e⟩⟩⟩
theorem FitL.ls (l : FitL τs T xs p) (e : p) {v : Value} {G : Gh} (h : (LS k τs).t v G) : (LS k (xs.map T)).t v G:=AsTL.ls ⟨(l.h e).1,fun i τ hi=>(l.h e).2 i τ hi⟩ h
class LsQ (τ : MT) (τs : outParam (List MT)) : Prop where
  h : ∀ {v : Value} {G : Gh},τ.t v G → (LS (some 3) τs).t v G
instance LsQ.l : LsQ (LS (some 3) τs) τs:=⟨fun h=>h⟩
instance LsQ.lc : LsQ (LSC (some 3) τs) τs:=⟨fun h=>h.1⟩
instance LsQ.n : LsQ (.ex (.slice none 0 0)) []:=⟨fun h=>by cases h;exact LS.nil⟩
instance Fit.nm {l : List Rat} [a : LsQ τ τs] [h : FitL τs (QC b) l p] : Fit τ (NM b) l p:=⟨fun e _ _ hv=>h.ls e (a.h hv)⟩
instance Fit.bp {z : Int} {τ1 τ2 : MT} {l1 l2 : List Rat} {p1 p2 : Prop} [h1 : Fit τ1 (NM b) l1 p1] [h2 : Fit τ2 (NM b) l2 p2] : Fit (PTS [(none,IT z),(some 2,PTS [(none,τ1),(none,τ2)])]) (BPT b) (z,l1,l2) (p1 ∧ p2):=⟨fun e v G hv=>by
  obtain ⟨us,e1,a1,a2⟩:=hv
  refine ⟨us,e1,a1,fun i f u hf hu=>?_⟩
  match i,hf with
  | 0,hf=>exact a2 0 _ u (by cases hf;rfl) hu
  | 1,hf =>
    cases hf
    obtain ⟨b1,us2,e2,c1,c2⟩:=a2 1 _ u rfl hu
    refine ⟨b1,us2,e2,c1,fun j g y hg hy=>?_⟩
    match j,hg with
    | 0,hg=>cases hg;obtain ⟨d1,d2⟩:=c2 0 _ y rfl hy;exact ⟨d1,h1.h e.1 d2⟩
    | 1,hg=>cases hg;obtain ⟨d1,d2⟩:=c2 1 _ y rfl hy;exact ⟨d1,h2.h e.2 d2⟩⟩
instance (priority:=900) Cv.fit {xs ys : List α} [h : FitL τs T xs p] : Cv (LSC k τs) (LS k (ys.map T)) (p ∧ xs = ys):=⟨fun e v G hv=>by
  obtain ⟨e1,rfl⟩:=e;exact h.ls e1 hv.1⟩
instance (priority:=900) Cv.fitl {xs ys : List α} [h : FitL τs T xs p] : Cv (LS k τs) (LS k (ys.map T)) (p ∧ xs = ys):=⟨fun e v G hv=>by
  obtain ⟨e1,rfl⟩:=e;exact h.ls e1 hv⟩
class NU (τ : MT) (τ' : outParam MT) : Prop where
  h : ∀ {v : Value} {G : Gh},τ.t v G → τ'.t v G
theorem LS.els {v : Value} {G : Gh} (h : (LS k τs).t v G) {σs : List MT} (hl : τs.length = σs.length) (f : ∀ (i : Nat) (τ σ : MT),τs[i]? = some τ → σs[i]? = some σ → ∀ {v : Value},τ.t v G → σ.t v G) : (LS k σs).t v G:=by
  obtain ⟨A,c',h1,h2,h3,h4⟩:=h
  refine ⟨A,c',by rw [h1,hl],by rw [← hl];exact h2,by rw [← hl];exact h3,fun i σ hi=>?_⟩
  have hlt : i < τs.length:=by rw [hl];exact (List.getElem?_eq_some_iff.1 hi).1
  obtain ⟨b,off,e3,e4⟩:=h4 i τs[i] (List.getElem?_eq_getElem hlt)
  exact ⟨b,off,e3,e4.cv (f i _ σ (List.getElem?_eq_getElem hlt) hi)⟩
class Grow {α : Type} (T : Nat → α → MT) : Prop where
  h : ∀ {n m : Nat} {x : α} {v : Value} {G : Gh},(T n x).t v G → n ≤ m → (T m x).t v G
instance : Grow QC:=⟨QC.up⟩
class Rdn {α : Type} (τ : MT) (T : Nat → α → MT) (n : outParam Nat) (x : outParam α) : Prop where
  h : ∀ {v : Value} {G : Gh},τ.t v G → (T n x).t v G
class RdnL {α : Type} (τs : List MT) (T : Nat → α → MT) (n : outParam Nat) (xs : outParam (List α)) : Prop where
  h : τs.length = xs.length ∧ ∀ (i : Nat) (τ σ : MT),τs[i]? = some τ → (xs.map (T n))[i]? = some σ → ∀ {v : Value} {G : Gh},τ.t v G → σ.t v G
instance Rdn.q {z : Rat} : Rdn (QC b z) QC b z:=⟨fun h=>h⟩
instance RdnL.nil {T : Nat → α → MT} : RdnL [] T 0 []:=⟨rfl,fun i τ σ h=>by simp at h⟩
instance RdnL.m {T : Nat → α → MT} : RdnL (xs.map (T b)) T b xs:=⟨by simp,fun i τ σ h1 h2 {v G} h=>by rw [h1] at h2;cases h2;exact h⟩
instance (priority:=800) RdnL.cons {T : Nat → α → MT} [g : Grow T] [h : Rdn τ T b x] [l : RdnL τs T c xs] : RdnL (τ :: τs) T (max b c) (x :: xs):=⟨by simp [l.h.1],fun i σ ρ h1 h2 {v G} hv=>by
  cases i with
  | zero=>cases h1;cases h2;exact g.h (h.h hv) (Nat.le_max_left _ _)
  | succ i =>
    simp only [List.map_cons,List.getElem?_cons_succ,List.getElem?_map] at h1 h2
    cases hx : xs[i]? with
    | none=>rw [hx] at h2;cases h2
    | some y=>rw [hx] at h2;cases h2;exact g.h (l.h.2 i σ _ h1 (by rw [List.getElem?_map,hx];rfl) hv) (Nat.le_max_right _ _)⟩
theorem RdnL.ls {T : Nat → α → MT} (l : RdnL τs T b xs) {v : Value} {G : Gh} (h : (LS k τs).t v G) : (LS k (xs.map (T b))).t v G:=LS.els h (by rw [l.h.1,List.length_map]) fun i τ σ h1 h2 _ hv=>l.h.2 i τ σ h1 h2 hv
theorem NM.up {l : List Rat} {v : Value} {G : Gh} (h : (NM b l).t v G) (e : b ≤ c) : (NM c l).t v G:=LS.convM (T:=QC b) (U:=QC c) (f:=fun r=>r) h (by simp) fun _ _ _ _ hv=>QC.up hv e
instance : Grow NM:=⟨NM.up⟩
instance Rdn.nm {l : List Rat} [a : LsQ τ τs] [h : RdnL τs QC b l] : Rdn τ NM b l:=⟨fun hv=>h.ls (a.h hv)⟩
instance NU.of {l : List Rat} [h : Rdn τ NM b l] : NU τ (NM b l):=⟨fun hv=>h.h hv⟩
class LsN (τ : MT) (τs : outParam (List MT)) : Prop where
  h : ∀ {v : Value} {G : Gh},τ.t v G → (LS none τs).t v G
instance LsN.l : LsN (LS none τs) τs:=⟨fun h=>h⟩
instance LsN.lc : LsN (LSC none τs) τs:=⟨fun h=>h.1⟩
instance LsN.n : LsN (.ex (.slice none 0 0)) []:=⟨fun h=>by cases h;exact LS.nil⟩
abbrev RTS (n : Nat) (rs : List (List Rat)) : MT:=LS none (rs.map (NM n))
instance Rdn.rts {rs : List (List Rat)} [a : LsN τ τs] [h : RdnL τs NM b rs] : Rdn τ RTS b rs:=⟨fun hv=>h.ls (a.h hv)⟩
instance NU.rts {rs : List (List Rat)} [h : Rdn τ RTS b rs] : NU τ (RTS b rs):=⟨fun hv=>h.h hv⟩
theorem pts1 (f : ∀ {v : Value} {G : Gh},τ.t v G → τ'.t v G) {v : Value} {G : Gh} (h : (PTS [(k,τ)]).t v G) : (PTS [(k,τ')]).t v G:=by
  obtain ⟨us,e,a1,a2⟩:=h
  refine ⟨us,e,a1,fun i p u hp hu=>?_⟩
  match i,hp with
  | 0,hp=>cases hp;obtain ⟨d1,d2⟩:=a2 0 _ u rfl hu;exact ⟨d1,f d2⟩
instance NU.tw {rs : List (List Rat)} [h : Rdn τ RTS b rs] : NU (PTS [(none,τ)]) (TWR b rs):=⟨fun hv=>pts1 (τ':=RTS b rs) h.h hv⟩
instance Fit.rts {rs : List (List Rat)} [a : LsN τ τs] [h : FitL τs (NM b) rs p] : Fit τ (RTS b) rs p:=⟨fun e _ _ hv=>h.ls e (a.h hv)⟩
instance (priority:=900) Cv.tw {rs rs' : List (List Rat)} [h : Fit τ (RTS b) rs p] : Cv (PTS [(none,τ)]) (TWR b rs') (p ∧ rs = rs'):=⟨fun e _ _ hv=>by
  obtain ⟨e1,rfl⟩:=e;exact pts1 (τ':=RTS b rs) (h.h e1) hv⟩
end
end Go.Proofs.YtpbkcbnghhodiaaGreat
set_option linter.unusedVariables false
set_option linter.unusedSimpArgs false
set_option maxHeartbeats 4000000
set_option maxRecDepth 100000
set_option synthInstance.maxSize 100000
set_option synthInstance.maxHeartbeats 400000
namespace Go.Proofs.YtpbkcbnghhodiaaGreat
open Go.RowKit (Below)
attribute [local irreducible] barC trnC btC ciF enR enL cirs exC ofC ofI boC boI boK dirC dirS cirF
def w2F (g a : FR) (h : Bool) (t : Rat) : Rat:=d2F (wayX g.val a.val h t) (wayY a.val h t)
def ouE (g a b c : FR) (h : Bool) (t : Rat) : Int:=if w2F g a h t = 0 ∧ b.val = c.val then 15 else if dsc g a b c h t < 0 then 16 else 0
def ouK (g a b c : FR) (h : Bool) (t : Rat) : Rat:=(w2F g a h t + b.val - c.val) / (2 * w2F g a h t)
def ouX (g a b c : FR) (h : Bool) (t : Rat) : Rat:=a.val * dirC h t + ouK g a b c h t * wayX g.val a.val h t
def ouY (g a b c : FR) (h : Bool) (t : Rat) : Rat:=a.val * dirS h t + ouK g a b c h t * wayY a.val h t
def ouMX (g a : FR) (h : Bool) (t : Rat) : Rat:=-(1 / (2 * w2F g a h t) * wayY a.val h t)
def ouMY (g a : FR) (h : Bool) (t : Rat) : Rat:=1 / (2 * w2F g a h t) * wayX g.val a.val h t
def ouR (g a b c : FR) (h : Bool) (t : Rat) : List (List Rat):=if ouE g a b c h t = 0 ∧ dsc g a b c h t ≠ 0 then [[dsc g a b c h t]] else []
def ouL (g a b c : FR) (h : Bool) (t : Rat) : List (Int × List Rat × List Rat) :=
  if ouE g a b c h t = 0 then (if dsc g a b c h t = 0 then [(0,[ouX g a b c h t],[ouY g a b c h t])] else
    [(1,[ouX g a b c h t,ouMX g a h t],[ouY g a b c h t,ouMY g a h t]),(-1,[ouX g a b c h t,-ouMX g a h t],[ouY g a b c h t,-ouMY g a h t])]) else []
theorem sg0 {x : Rat} : x.num.sign = 0 ↔ x = 0:=(num_sg x).2.1
section
variable {g a b c : FR} {h : Bool} {t : Rat}
theorem ou_15 (hc : (decide ((d2F (wayX g.val a.val h t) (wayY a.val h t)).num.sign = 0) && decide (cmpQ b.val c.val = 0)) = true) : ouE g a b c h t = 15:=by
  simp only [Bool.and_eq_true,decide_eq_true_eq] at hc
  unfold ouE w2F
  rw [if_pos ⟨sg0.1 hc.1,cmpQ_eq0.1 hc.2⟩]
theorem ou_n (hc : (decide ((d2F (wayX g.val a.val h t) (wayY a.val h t)).num.sign = 0) && decide (cmpQ b.val c.val = 0)) = false) : ¬ (w2F g a h t = 0 ∧ b.val = c.val):=fun e=>by
  rw [show (decide ((d2F (wayX g.val a.val h t) (wayY a.val h t)).num.sign = 0) && decide (cmpQ b.val c.val = 0)) = true by simp only [Bool.and_eq_true,decide_eq_true_eq];exact ⟨sg0.2 e.1,cmpQ_eq0.2 e.2⟩] at hc
  cases hc
theorem ou_16 (h1 : ¬ (w2F g a h t = 0 ∧ b.val = c.val)) (h2 : (dsc g a b c h t).num.sign < 0) : ouE g a b c h t = 16:=by
  unfold ouE;rw [if_neg h1,if_pos ((num_sg _).2.2.1 h2)]
theorem ou_0 (h1 : ¬ (w2F g a h t = 0 ∧ b.val = c.val)) (h2 : ¬ (dsc g a b c h t).num.sign < 0) : ouE g a b c h t = 0:=by
  unfold ouE;rw [if_neg h1,if_neg fun e=>h2 ((num_sg _).2.2.2 e)]
theorem ou_ne (h1 : ¬ (w2F g a h t = 0 ∧ b.val = c.val)) (h2 : ¬ (dsc g a b c h t).num.sign < 0) : w2F g a h t ≠ 0:=fun e=>by
  refine h2 ((num_sg _).2.2.2 ?_)
  unfold dsc
  rw [show d2F (wayX g.val a.val h t) (wayY a.val h t) = 0 from e]
  unfold discF
  have hne : b.val - c.val ≠ 0:=fun e2=>h1 ⟨e,by grind⟩
  have hpos : 0 < (b.val - c.val) * (b.val - c.val):=by
    rcases (Rat.le_total : 0 ≤ b.val - c.val ∨ b.val - c.val ≤ 0) with h | h
    · have hp : 0 < b.val - c.val:=by grind
      exact Rat.mul_pos hp hp
    · have hp : 0 < -(b.val - c.val):=by grind
      have:=Rat.mul_pos hp hp
      grind
  grind
theorem ou_s (h1 : ¬ (w2F g a h t = 0 ∧ b.val = c.val)) (h2 : ¬ (dsc g a b c h t).num.sign < 0) (h3 : (dsc g a b c h t).num.sign = 0) : ouR g a b c h t = [] ∧ ouL g a b c h t = [(0,[ouX g a b c h t],[ouY g a b c h t])]:=by
  have e:=ou_0 h1 h2;have e2:=sg0.1 h3
  unfold ouR ouL;rw [if_neg fun k=>k.2 e2,if_pos e,if_pos e2];exact ⟨rfl,rfl⟩
theorem ou_t (h1 : ¬ (w2F g a h t = 0 ∧ b.val = c.val)) (h2 : ¬ (dsc g a b c h t).num.sign < 0) (h3 : ¬ (dsc g a b c h t).num.sign = 0) : ouR g a b c h t = [[dsc g a b c h t]] ∧ ouL g a b c h t =
    [(1,[ouX g a b c h t,ouMX g a h t],[ouY g a b c h t,ouMY g a h t]),(-1,[ouX g a b c h t,-ouMX g a h t],[ouY g a b c h t,-ouMY g a h t])]:=by
  have e:=ou_0 h1 h2;have e2:=fun k=>h3 (sg0.2 k)
  unfold ouR ouL;rw [if_pos ⟨e,e2⟩,if_pos e,if_neg e2];exact ⟨rfl,rfl⟩
theorem two_ne {x : Rat} (h : x ≠ 0) : 2 * x ≠ 0:=fun e=>h (by grind)
theorem ou_e {e : Int} (h0 : ouE g a b c h t = e) (he : e ≠ 0) : ouR g a b c h t = [] ∧ ouL g a b c h t = []:=by
  unfold ouR ouL;rw [if_neg (by rw [h0];exact fun e=>he e.1),if_neg (by rw [h0];exact he)];exact ⟨rfl,rfl⟩
end
theorem w20 {n m : Nat} {rg ra rb rc t : FR} {h : Bool} : Con Tryz.prog 20 [QUD n rg ra rb rc,TRN m t h] (10000 * n + 10000 * m + 100000 ≤ BIG ∧ barC [rg,ra,rb,rc] = 0 ∧ trnF h t = true) (MT.tup3 (TWR (100 * n + 200 * m + 10000) (ouR rg ra rb rc h t.val)) (LS (some 3) ((ouL rg ra rb rc h t.val).map (BPT (100 * n + 200 * m + 10000)))) (.ex (errV 70 (ouE rg ra rb rc h t.val)))):=.o2 fun hok h1 h2 hp=>by
  refine St.enter (N:=146) Tryz.func20 rfl rfl rfl hok (enter2 h1 h2) fun a=>?_
  have hb:=hp.2.1
  have ht:=trn_0 hp.2.2
  have hbt:=bt_0 hp.2.1 hp.2.2
  repeat' (first | refine W.run ?_ fun a w G=>?_ | refine W.mv fun a w G=>?_ | refine W.asg fun a w G=>?_ | refine W.bx fun b a w G=>?_ | (refine W.nn hK ?_;clear hK K) | refine W.reg fun K hK=>?_ | refine W.reg1 ?_ | refine W.nl ?_ | refine W.sq fun K hK=>?_ | refine W.ds ?_ (fun β a w G hu=>W.fin ?_ hu) mixedOrders (by kernel_rfl) | refine W.sk ?_ | (refine W.kn hK ?_;clear hK K) | refine W.cd (fun hc=>?_) (fun hc=>?_) | refine W.cb (fun hc=>?_) (fun hc=>?_) | refine W.al fun b a w G=>?_ | refine W.st fun w=>?_ | refine W.stp fun w=>?_ | refine W.ste ?_ fun w=>?_ | refine W.bl ?_ | refine W.bn ?_ | refine W.ex ?_ | refine W.xt ?_ | refine W.xb ?_ | refine W.xo ?_ | refine W.rt ?_ | refine W.tr ?_ | refine W.br ?_ | refine W.rt1 rfl ?_ | refine W.rt2 rfl ?_ ?_ | refine W.rt3 rfl ?_ ?_ ?_ | clear hK K | clear hu | exact True.intro | exact Nat.le_trans (by clear hp;omega) hp | exact Nat.le_trans (by clear hp;omega) hp.1 | exact Nat.le_trans (by clear hp;omega) hp.2 | (clear hp;omega) | apply And.intro | refine GI.i fun _=>?_ | with_reducible rfl | decide | (simp only [List.length_cons,List.length_nil];omega))
  all_goals first
    | (exfalso;omega)
    | assumption
    | exact hp.2.2
    | exact hp.2.1
    | exact (ou_15 hc).symm
    | exact (ou_e (ou_15 hc) (by decide)).1.symm
    | exact (ou_e (ou_15 hc) (by decide)).2
    | (have hn := ou_n (by assumption)
       first
       | exact (ou_16 hn hc).symm
       | exact (ou_e (ou_16 hn hc) (by decide)).1.symm
       | exact (ou_e (ou_16 hn hc) (by decide)).2
       | exact two_ne (ou_ne hn hc)
       | (have hd : ¬ (dsc rg ra rb rc h t.val).num.sign < 0 := by assumption
          first
          | exact ou_0 hn hd
          | exact (ou_0 hn hd).symm
          | exact (ou_s hn hd (by assumption)).1.symm
          | exact (ou_s hn hd (by assumption)).2.symm
          | exact (ou_t hn hd (by assumption)).1.symm
          | exact (ou_t hn hd (by assumption)).2.symm)
       | exact two_ne (ou_ne hn (by assumption))
       | skip)
    | skip
instance {n m : Nat} {rg ra rb rc t : FR} {h : Bool} {τ1 : MT} [j1 : NF τ1 (QUD n rg ra rb rc)] {τ2 : MT} [j2 : NF τ2 (TRN m t h)] : Con Tryz.prog 20 [τ1,τ2] (10000 * n + 10000 * m + 100000 ≤ BIG ∧ barC [rg,ra,rb,rc] = 0 ∧ trnF h t = true) (MT.tup3 (TWR (100 * n + 200 * m + 10000) (ouR rg ra rb rc h t.val)) (LS (some 3) ((ouL rg ra rb rc h t.val).map (BPT (100 * n + 200 * m + 10000)))) (.ex (errV 70 (ouE rg ra rb rc h t.val)))):=.o2 fun hok h1 h2 hp=>w20.c2 hok (j1.h h1) (j2.h h2) hp
theorem gi_t {s : Bool} (h : s = false) (k : (!true || !s) = false) : False:=by rw [h] at k;cases k
instance {t : FR} {h : Bool} : Con Tryz.prog 19 [PTS [(some 3,RX t),(none,BT h)]] (shortR t = true) (BT (trnF h t)):=.o1 fun hok h1 hp=>w19.c1 hok (NS.h (τ':=TRN 64 t h) ⟨hp,trivial,trivial⟩ h1) (by decide)
def anyM (l : List (Int × List Rat × List Rat)) (m : Int) (j : Nat) : Bool:=(l.take j).any fun x=>decide (x.1 = m)
theorem anyM_go {l : List (Int × List Rat × List Rat)} {m : Int} {j : Nat} (h : j < l.length) : (anyM l m j || decide ((l.getD j default).1 = m)) = anyM l m (j + 1):=by
  unfold anyM
  rw [List.take_add_one,List.any_append,List.getElem?_eq_getElem h,List.getD_eq_getElem?_getD,List.getElem?_eq_getElem h]
  simp
theorem anyM_end {l : List (Int × List Rat × List Rat)} {m : Int} {j : Nat} (h : ¬ j < l.length) : anyM l m j = l.any fun x=>decide (x.1 = m):=by
  unfold anyM;rw [List.take_of_length_le (by omega)]
theorem ouL_2 (g a b c : FR) (h : Bool) (t : Rat) : (ouL g a b c h t).length ≤ 2:=by
  unfold ouL;split
  · split
    · exact Nat.le_succ 1
    · exact Nat.le_refl 2
  · exact Nat.zero_le _
theorem ex_ou {g a b c : FR} {h : Bool} {t : FR} {m : Int} (hm : -1 ≤ m ∧ m ≤ 1) :
    (((ouL g a b c h t.val).any fun x=>decide (x.1 = m)) = true → exC g a b c h t m = 0 ∧ ouE g a b c h t.val = 0) ∧ (((ouL g a b c h t.val).any fun x=>decide (x.1 = m)) = false → exC g a b c h t m = 16):=by
  have hd:=num_sg (dsc g a b c h t.val)
  have hw : w2F g a h t.val = 0 ↔ (cmpQ (a.val * dirC h t.val) g.val = 0 ∧ (a.val * dirS h t.val).num.sign = 0):=by
    rw [← sg0 (x:=w2F g a h t.val)]
    unfold w2F
    rw [d2_zero,cmpQ_eq0,sg0]
    unfold wayX wayY
    constructor <;> rintro ⟨h1,h2⟩ <;> constructor <;> grind
  unfold exC exK
  by_cases h0 : w2F g a h t.val = 0
  · have h1:=hw.1 h0
    rw [h1.1,h1.2]
    have hL : ouL g a b c h t.val = []:=by
      by_cases hbc : b.val = c.val
      · exact (ou_e (e:=15) (by unfold ouE;rw [if_pos ⟨h0,hbc⟩]) (by decide)).2
      · by_cases h2 : (dsc g a b c h t.val).num.sign < 0
        · exact (ou_e (ou_16 (fun e=>hbc e.2) h2) (by decide)).2
        · exact absurd h0 (ou_ne (fun e=>hbc e.2) h2)
    rw [hL]
    simp
  · have hn : ¬ (w2F g a h t.val = 0 ∧ b.val = c.val):=fun e=>h0 e.1
    have hf : (decide (cmpQ (a.val * dirC h t.val) g.val = 0) && decide ((a.val * dirS h t.val).num.sign = 0)) = false:=by
      rw [← Bool.not_eq_true];intro e;rw [Bool.and_eq_true,decide_eq_true_eq,decide_eq_true_eq] at e;exact h0 (hw.2 e)
    rw [hf]
    by_cases h2 : (dsc g a b c h t.val).num.sign < 0
    · rw [(ou_e (ou_16 hn h2) (by decide)).2,decide_eq_true h2];simp
    · rw [decide_eq_false h2,ou_0 hn h2]
      by_cases h3 : (dsc g a b c h t.val).num.sign = 0
      · rw [(ou_s hn h2 h3).2,decide_eq_true h3]
        by_cases hm0 : m = 0
        · subst hm0;simp
        · simp [hm0,Ne.symm hm0]
      · rw [(ou_t hn h2 h3).2,decide_eq_false h3]
        by_cases hm0 : m = 0
        · subst hm0;simp
        · have : 1 = m ∨ -1 = m:=by omega
          simp only [List.any_cons,List.any_nil,Bool.or_false,hm0,decide_false,Bool.or_eq_true,decide_eq_true_eq,this]
          simp
          intro h1
          omega
theorem ex_t {g a b c : FR} {h : Bool} {t : FR} {m : Int} {s : Bool} {j : Nat} (hg : (!true || !s || !trnF h t || decide (m < -1) || decide (m > 1)) = false) (hc : ¬ ciF g a b c ≠ 0) (hj : ¬ j < (ouL g a b c h t.val).length) :
    (anyM (ouL g a b c h t.val) m j = true → (decide (ofC g a b c h t m = 0) && decide (ouE g a b c h t.val = 0)) = true) ∧ (anyM (ouL g a b c h t.val) m j = false → decide (ofC g a b c h t m = 16) = true):=by
  simp only [Bool.or_eq_false_iff,decide_eq_false_iff_not,Bool.not_eq_false'] at hg
  obtain ⟨⟨⟨_,ht⟩,h1⟩,h2⟩:=hg
  rw [anyM_end hj,← of_ex (by omega) ht (by omega)]
  have:=ex_ou (g:=g) (a:=a) (b:=b) (c:=c) (h:=h) (t:=t) (m:=m) (by omega)
  exact ⟨fun e=>by rw [(this.1 e).1,(this.1 e).2];rfl,fun e=>by rw [this.2 e];rfl⟩
theorem ex_trn {h : Bool} {t : FR} {m : Int} {s : Bool} (hg : (!true || !s || !trnF h t || decide (m < -1) || decide (m > 1)) = false) : trnF h t = true:=by
  simp only [Bool.or_eq_false_iff,decide_eq_false_iff_not,Bool.not_eq_false'] at hg
  exact hg.1.1.2
theorem longCircuitsExists {rg ra rb rc t : FR} {hx : Bool} {md : Int} : Con Tryz.prog 5 [PTS [(some 3,RX rg),(some 3,RX ra),(some 3,RX rb),(some 3,RX rc)],PTS [(some 4,PTS [(some 3,RX t),(none,BT hx)]),(none,IT md)]] (([(t,hx,md)].all shT && [rg,ra,rb,rc].all shortR) = false) (BT true):=.o2 fun hok h1 h2 hp=>by
  refine St.enter (N:=86) Tryz.func5 rfl rfl rfl hok (enter2 h1 h2) fun a=>?_
  repeat' (first | refine W.cbt (longG hp) ?_ | refine W.run ?_ fun a w G=>?_ | refine W.mv fun a w G=>?_ | refine W.asg fun a w G=>?_ | refine W.bx fun b a w G=>?_ | (refine W.nn hK ?_;clear hK K) | refine W.reg fun K hK=>?_ | refine W.reg1 ?_ | refine W.nl ?_ | refine W.sq fun K hK=>?_ | refine W.ds ?_ (fun β a w G hu=>W.fin ?_ hu) mixedOrders (by kernel_rfl) | refine W.sk ?_ | (refine W.kn hK ?_;clear hK K) | refine W.cd (fun hc=>?_) (fun hc=>?_) | refine W.cb (fun hc=>?_) (fun hc=>?_) | refine W.al fun b a w G=>?_ | refine W.st fun w=>?_ | refine W.stp fun w=>?_ | refine W.ste ?_ fun w=>?_ | refine W.bl ?_ | refine W.bn ?_ | refine W.ex ?_ | refine W.xt ?_ | refine W.xb ?_ | refine W.xo ?_ | refine W.rt ?_ | refine W.tr ?_ | refine W.br ?_ | refine W.rt1 rfl ?_ | refine W.rt2 rfl ?_ ?_ | refine W.rt3 rfl ?_ ?_ ?_ | clear hK K | clear hu | exact True.intro | exact Nat.le_trans (by clear hp;omega) hp | exact Nat.le_trans (by clear hp;omega) hp.1 | exact Nat.le_trans (by clear hp;omega) hp.2 | (clear hp;omega) | apply And.intro | refine GI.i fun _=>?_ | with_reducible rfl | decide | (simp only [List.length_cons,List.length_nil];omega))
  all_goals first | exact (gi_t hp (by assumption)).elim | skip
theorem shortCircuitsExists {rg ra rb rc t : FR} {hx : Bool} {md : Int} : Con Tryz.prog 5 [QUD 64 rg ra rb rc,BST 64 t hx md] (([(t,hx,md)].all shT && [rg,ra,rb,rc].all shortR) = true) (BT true):=.o2 fun hok h1 h2 hp=>by
  refine St.enter (N:=86) Tryz.func5 rfl rfl rfl hok (enter2 h1 h2) fun a=>?_
  have hl2:=ouL_2 rg ra rb rc hx t.val
  repeat' (first | refine W.run ?_ fun a w G=>?_ | refine W.mv fun a w G=>?_ | refine W.asg fun a w G=>?_ | refine W.bx fun b a w G=>?_ | (refine W.nn hK ?_;clear hK K) | refine W.reg fun K hK=>?_ | refine W.reg1 ?_ | refine W.nl ?_ | refine W.sq fun K hK=>?_ | refine W.ds ?_ (fun β a w G hu=>W.fin ?_ hu) mixedOrders (by kernel_rfl) | refine W.sk ?_ | (refine W.kn hK ?_;clear hK K) | refine W.cd (fun hc=>?_) (fun hc=>?_) | refine W.cb (fun hc=>?_) (fun hc=>?_) | refine W.al fun b a w G=>?_ | refine W.st fun w=>?_ | refine W.stp fun w=>?_ | refine W.ste ?_ fun w=>?_ | refine W.bl ?_ | refine W.bn ?_ | refine W.ex ?_ | refine W.xt ?_ | refine W.xb ?_ | refine W.xo ?_ | refine W.rt ?_ | refine W.tr ?_ | refine W.br ?_ | refine W.rt1 rfl ?_ | refine W.rt2 rfl ?_ ?_ | refine W.rt3 rfl ?_ ?_ ?_ | refine W.lp 65 (α:=Nat) (fun j=>(ouL rg ra rb rc hx t.val).length - j) (fun j=>j ≤ (ouL rg ra rb rc hx t.val).length) [12,14,64,65,66,67,68,69,70,71,72,73,74,75,76] (fun j=>[(64,NT j),(12,BT (anyM (ouL rg ra rb rc hx t.val) md j))]) (fun j=>[]) (0) ?_ ?_ ?_ fun j hj a w G=>?_ | refine W.ag (x:=j) (j+1) ?_ ?_ ?_ ?_ | clear hK K | clear hu | exact True.intro | exact Nat.le_trans (by clear hp;omega) hp | exact Nat.le_trans (by clear hp;omega) hp.1 | exact Nat.le_trans (by clear hp;omega) hp.2 | (clear hp;omega) | apply And.intro | refine GI.i fun _=>?_ | with_reducible rfl | decide | (simp only [List.length_cons,List.length_nil];omega))
  all_goals first
    | exact ci_bar (Classical.not_not.1 hc)
    | exact ex_trn (by assumption)
    | rfl
    | exact anyM_go (by omega)
    | exact (ex_t (by assumption) (by assumption) (by omega)).1 hc
    | exact (ex_t (by assumption) (by assumption) (by omega)).2 hc
    | skip
theorem lawCircuitsExists {rg ra rb rc t : FR} {hx : Bool} {md : Int} {w : World} {G : Gh} {v1 v2 : Value} (hok : Gok w G) (h1 : (PTS [(some 3,RX rg),(some 3,RX ra),(some 3,RX rb),(some 3,RX rc)]).t v1 G) (h2 : (PTS [(some 4,PTS [(some 3,RX t),(none,BT hx)]),(none,IT md)]).t v2 G) : Calls Tryz.prog 5 #[v1,v2] w (Ret w G (BT true)):=by
  cases hs : ([(t,hx,md)].all shT && [rg,ra,rb,rc].all shortR) with
  | true =>
    have hq:=hs
    (try simp only [List.all_cons,List.all_nil,Bool.and_true,Bool.and_eq_true,shT] at hq)
    exact shortCircuitsExists.c2 hok (NS.h (τ':=QUD 64 rg ra rb rc) (by (try simp only [and_true,true_and]);grind) h1) (NS.h (τ':=BST 64 t hx md) (by (try simp only [and_true,true_and]);grind) h2) hs
  | false=>exact longCircuitsExists.c2 hok h1 h2 hs
end Go.Proofs.YtpbkcbnghhodiaaGreat
namespace Go.Proofs.YtpbkcbnghhodiaaGreat
open Go.RowKit (Below)
def G0of (W : World) : Gh:=fun b=>W.heap[b]?
theorem G0of_ok (W : World) : Gok W (G0of W):=fun _ _ h=>h
theorem Gc_G0 {W : World} {b i : Nat} : Gc (G0of W) b i = W.cell? ⟨b,i,none⟩:=by
  unfold Gc G0of World.cell?;cases W.heap[b]? with
  | none=>rfl
  | some o=>cases o <;> rfl
def RdA (P : Program) (W : World) (t : TypeId) (k : Option Nat) (A : MT → Prop) : Prop:=∀ (H : Type) (enc : TypeId × Value → H) (fuel : Nat) (cs : List Value) (x : DataW H × List MemPlace),
  DataW.trod enc P W 0 (fun _=>true) true fuel t cs = some x → (x.1.weights P t).all (· ≤ reachBytes) = true → ∃ (v : Value) (τ : MT),A τ ∧ v.cells.toList = cs ∧ Shaped k v ∧ τ.t v (G0of W)
section
variable {P : Program} {W : World} {t e : TypeId} {k : Option Nat} {A A' : MT → Prop}
theorem RdA.mono (h : RdA P W t k A) (hA : ∀ τ v,A τ → τ.t v (G0of W) → ∃ σ,A' σ ∧ σ.t v (G0of W)) : RdA P W t k A':=fun H enc fuel cs x hx hw=>by
  obtain ⟨v,τ,h1,h2,h3,h4⟩:=h H enc fuel cs x hx hw
  obtain ⟨σ,h5,h6⟩:=hA τ v h1 h4
  exact ⟨v,σ,h5,h2,h3,h6⟩
theorem rd_bool (ht : P.underlying t = some .bool) : RdA P W t none (fun τ=>∃ b,τ = .ex (.bool b)):=fun H enc fuel cs x hx hw=>by
  obtain ⟨b,rfl,rfl⟩:=DataW.trod_bool ht hx
  exact ⟨.bool b,_,⟨b,rfl⟩,rfl,⟨rfl,rfl⟩,rfl⟩
theorem rd_int {kk : IntKind} (ht : P.underlying t = some (.int kk)) : RdA P W t none (fun τ=>∃ z,(Lit.int kk z).wf = true ∧ τ = .ex (.int kk z)):=fun H enc fuel cs x hx hw=>by
  obtain ⟨z,rfl,rfl,h⟩:=DataW.trod_int ht hx
  exact ⟨.int kk z,_,⟨z,h,rfl⟩,rfl,⟨rfl,rfl⟩,rfl⟩
theorem rd_i64 (ht : P.underlying t = some (.int .i64)) : RdA P W t none (fun τ=>∃ z : Int,τ = .ex (.int .i64 z)):=(rd_int ht).mono fun τ v ⟨z,_,e⟩ hv=>⟨τ,⟨z,e⟩,hv⟩
theorem cells_get {a : Addr} {n : Nat} {L : List Value} (h : W.cells? 0 a n = some L) : L.length = n ∧ ∀ j,j < n → W.cell? (a.add j) = L[j]?:=by
  unfold World.cells? at h
  rw [if_pos (Nat.zero_le _)] at h
  exact ⟨by simpa using mapM_some_length h,fun j hj=>mapM_some_get h j j (by simp [hj])⟩
theorem weightsAll_mem {H : Type} {es : List (DataW H)} {d : DataW H} {i : Nat} (hi : es[i]? = some d) : ∀ n ∈ d.weights P e,n ∈ DataW.weightsAll P e es:=by
  induction es generalizing i with
  | nil=>simp at hi
  | cons x r ih =>
    intro n hn
    rw [DataW.weightsAll,List.mem_append]
    cases i with
    | zero=>simp at hi;subst hi;exact .inl hn
    | succ j=>exact .inr (ih (by simpa using hi) n hn)
theorem rd_slice (ht : P.underlying t = some (.slice e)) (hc : P.cellsOf e = k.getD 1) (hc0 : 0 < k.getD 1) (hb : 4 ≤ P.bytesOf e) (h : RdA P W e k A) : RdA P W t none (fun τ=>∃ τs,(∀ σ ∈ τs,A σ) ∧ τ = LS k τs):=fun H enc fuel cs x hx hw=>by
  rcases DataW.trod_slice ht hx with ⟨rfl,rfl⟩ | ⟨a,len,cap,elems,rest,n,rfl,rfl,rfl,hb0,hlc,hcm,hel,hE,_,_⟩
  · exact ⟨.slice none 0 0,LS k [],⟨[],by simp,rfl⟩,rfl,⟨rfl,rfl⟩,LS.nil⟩
  · simp only [DataW.weights,ht,List.all_cons,List.all_append,Bool.and_eq_true,decide_eq_true_eq] at hw
    obtain ⟨hw1,hw2,_⟩:=hw
    have hlim : len ≤ LIM:=by
      have h1 : len * 4 ≤ ((elems.map (·.1)).length + (rest.map (·.1)).length) * P.bytesOf e:=Nat.mul_le_mul (by simp;omega) hb
      have h2 : reachBytes = 140737488351232:=rfl
      simp only [LIM];omega
    have each : ∀ i,∃ (v : Value) (τ : MT),i < len → W.cells? 0 (a.add (i * k.getD 1)) (k.getD 1) = some v.cells.toList ∧ A τ ∧ Shaped k v ∧ τ.t v (G0of W):=fun i=>by
      by_cases hi : i < len
      · have h1:=hE i hi
        rw [List.getElem?_eq_getElem (by omega),Option.bind_eq_some_iff,hc] at h1
        obtain ⟨cs',h2,h3⟩:=h1
        obtain ⟨v,τ,h4,h5,h6,h7⟩:=h H enc n cs' _ h3 (List.all_eq_true.2 fun m hm=>List.all_eq_true.1 hw2 m (weightsAll_mem (i:=i) (by rw [List.getElem?_map,List.getElem?_eq_getElem (by omega)];rfl) m hm))
        exact ⟨v,τ,fun _=>⟨by rw [h5];exact h2,h4,h6,h7⟩⟩
      · exact ⟨undef,.ex undef,fun h=>absurd h hi⟩
    obtain ⟨f,g,hfg⟩ : ∃ (f : Nat → Value) (g : Nat → MT),∀ i,i < len → W.cells? 0 (a.add (i * k.getD 1)) (k.getD 1) = some (f i).cells.toList ∧ A (g i) ∧ Shaped k (f i) ∧ (g i).t (f i) (G0of W):=⟨fun i=>(each i).choose,fun i=>(each i).choose_spec.choose,fun i=>(each i).choose_spec.choose_spec⟩
    refine ⟨.slice (some a) len cap,LS k ((List.range len).map g),⟨_,fun σ hσ=>?_,rfl⟩,rfl,⟨rfl,rfl⟩,LS.of_vals (us:=(List.range len).map f) (A:=some a) (c:=cap) (by simp) (by simpa using hlc) (by simpa using hlim) ⟨by simp,fun i τ u hi hu=>?_⟩ fun i u hu=>?_⟩
    · obtain ⟨i,hi,rfl⟩:=List.mem_map.1 hσ
      exact (hfg i (by simpa using hi)).2.1
    · have hlt : i < len:=by have:=(List.getElem?_eq_some_iff.1 hi).1;simpa using this
      simp [List.getElem?_range hlt] at hi hu
      subst hi;subst hu
      exact (hfg i hlt).2.2
    · have hlt : i < len:=by have:=(List.getElem?_eq_some_iff.1 hu).1;simpa using this
      simp [List.getElem?_range hlt] at hu
      subst hu
      obtain ⟨h1,h2,h3,h4⟩:=hfg i hlt
      obtain ⟨h5,h6⟩:=cells_get h1
      obtain ⟨g5,g6⟩:=cells_get (hfg 0 (by omega)).1
      obtain ⟨b,off,spot⟩:=a
      have h7:=g6 0 hc0
      rw [List.getElem?_eq_getElem (by omega)] at h7
      have hs : spot = none:=by simpa [Addr.add] using World.cell?_spot h7
      subst hs
      refine ⟨b,off,rfl,fun j x hj=>?_⟩
      have hjl : j < k.getD 1:=by have:=(Array.getElem?_eq_some_iff.1 hj).1;rw [← h5,Array.length_toList];exact this
      have h8:=h6 j hjl
      rw [Gc_G0]
      rw [addr_add,addr_add,Array.getElem?_toList,hj] at h8
      exact h8
theorem forall_map' {α : Type} {T : α → MT} {p : α → Prop} {τs : List MT} (h : ∀ σ ∈ τs,∃ x,p x ∧ σ = T x) : ∃ xs : List α,τs = xs.map T ∧ ∀ x ∈ xs,p x:=by
  induction τs with
  | nil=>exact ⟨[],rfl,by simp⟩
  | cons a r ih =>
    obtain ⟨l,rfl,hl⟩:=ih fun σ h'=>h σ (List.mem_cons_of_mem _ h')
    obtain ⟨x,hx,rfl⟩:=h a (List.mem_cons_self ..)
    exact ⟨x :: l,rfl,by simpa using ⟨hx,hl⟩⟩
theorem rd_words (ht : P.underlying t = some (.slice e)) (hu : P.underlying e = some (.int .u32)) (hc : P.cellsOf e = 1) (hb : 4 ≤ P.bytesOf e) : RdA P W t none (fun τ=>∃ l,τ = SL l):=by
  have h1 : RdA P W e none (fun τ=>∃ x : Nat,x < 4294967296 ∧ τ = .ex (u32 x)):=(rd_int hu).mono fun τ v ⟨z,hz,hτ⟩ hv=>by
    subst hτ
    have hm : IntKind.u32.min = 0:=by decide
    have hM : IntKind.u32.max = 4294967295:=by decide
    simp [Lit.wf,hm,hM] at hz
    exact ⟨_,⟨z.toNat,by omega,rfl⟩,by
      have : (z.toNat : Int) = z:=by omega
      show v = .int .u32 (z.toNat : Int);rw [this];exact hv⟩
  refine (rd_slice (k:=none) ht hc (by decide) hb h1).mono fun τ v ⟨τs,hσ,hτ⟩ hv=>?_
  subst hτ
  obtain ⟨l,hl,hlt⟩:=forall_map' hσ
  subst hl
  obtain ⟨A,c,us,h2,h3,h4,h5,h6⟩:=LS.vals hv
  rw [List.length_map] at h2 h3 h4
  refine ⟨_,⟨l,rfl⟩,A,c,h2,h3,h4,hlt,fun i x hi=>?_⟩
  have hil:=(List.getElem?_eq_some_iff.1 hi).1
  have hul : i < us.length:=by rw [h5.1,List.length_map];exact hil
  have hui : us[i]? = some us[i]:=by rw [List.getElem?_eq_getElem hul]
  have h7:=(h5.2 i (.ex (u32 x)) us[i] (by rw [List.getElem?_map,hi];rfl) hui).2
  obtain ⟨b,off,e1,h8⟩:=h6 i us[i] hui
  refine ⟨b,off,e1,?_⟩
  have h9 : us[i] = u32 x:=h7
  rw [h9] at h8
  simpa using h8 0 (u32 x) rfl
def FldOk (P : Program) (W : World) : Nat → List Field → List (Option Nat × (MT → Prop)) → Prop
  | _,[],[]=>True
  | off,f :: fs,a :: As=>f.offset = off ∧ P.cellsOf f.type = a.1.getD 1 ∧ RdA P W f.type a.1 a.2 ∧ FldOk P W (off + a.1.getD 1) fs As
  | _,_,_=>False
def Mt : List (Option Nat × (MT → Prop)) → List (Option Nat × MT) → Prop
  | [],[]=>True
  | a :: As,f :: F=>f.1 = a.1 ∧ a.2 f.2 ∧ Mt As F
  | _,_=>False
def tot (As : List (Option Nat × (MT → Prop))) : Nat:=(As.map fun a=>a.1.getD 1).sum
theorem Mt.tot : ∀ {As : List (Option Nat × (MT → Prop))} {F : List (Option Nat × MT)},Mt As F → (F.map fun f=>f.1.getD 1).sum = Go.Proofs.YtpbkcbnghhodiaaGreat.tot As
  | [],[],_=>rfl
  | a :: As,f :: F,h=>by
    have:=Mt.tot h.2.2
    simp only [Go.Proofs.YtpbkcbnghhodiaaGreat.tot,List.map_cons,List.sum_cons,h.1] at this ⊢
    rw [this]
  | [],_ :: _,h=>h.elim
  | _ :: _,[],h=>h.elim
theorem rd_fields {H : Type} {enc : TypeId × Value → H} {n : Nat} {cs : List Value} : ∀ (fs : List Field) (As : List (Option Nat × (MT → Prop))) (xs : List (DataW H × List MemPlace)) (off : Nat), FldOk P W off fs As → xs.length = fs.length →
    (∀ (i : Nat) (f : Field),fs[i]? = some f → DataW.trod enc P W 0 (fun _=>true) true n f.type ((cs.drop f.offset).take (P.cellsOf f.type)) = xs[i]?) → (DataW.weightsEach P (fs.map (·.type)) (xs.map (·.1))).all (· ≤ reachBytes) = true → cs.length = off + tot As →
    ∃ us F,Mt As F ∧ flat us = cs.drop off ∧ us.length = F.length ∧ ∀ (i : Nat) (f : Option Nat × MT) (u : Value),F[i]? = some f → us[i]? = some u → Shaped f.1 u ∧ f.2.t u (G0of W)
  | [],[],xs,off,_,_,_,_,hl=>⟨[],[],trivial,by rw [List.drop_eq_nil_of_le (by rw [hl];simp [tot])];rfl,rfl,fun i f u h=>by simp at h⟩
  | f :: fs,a :: As,[],off,_,hx,_,_,_=>by simp at hx
  | f :: fs,a :: As,x :: xs,off,hF,hx,hT,hw,hl=>by
    obtain ⟨h1,h2,h3,h4⟩:=hF
    simp only [List.map_cons,DataW.weightsEach,List.all_append,Bool.and_eq_true] at hw
    obtain ⟨v,τ,h5,h6,h7,h8⟩:=h3 H enc n _ x (hT 0 f rfl) hw.1
    obtain ⟨us,F,g1,g2,g3,g4⟩:=rd_fields fs As xs (off + a.1.getD 1) h4 (by simpa using hx) (fun i g hg=>by simpa using hT (i + 1) g (by simpa using hg)) hw.2 (by rw [hl];simp [tot];omega)
    refine ⟨v :: us,(a.1,τ) :: F,⟨rfl,h5,g1⟩,?_,by simp [g3],fun i f' u hf hu=>?_⟩
    · rw [flat_cons,h6,g2,h1,h2,← List.drop_drop,List.take_append_drop]
    · cases i with
      | zero=>simp at hf hu;subst hf;subst hu;exact ⟨h7,h8⟩
      | succ i=>exact g4 i f' u (by simpa using hf) (by simpa using hu)
  | [],_ :: _,_,_,h,_,_,_,_=>h.elim
  | _ :: _,[],_,_,h,_,_,_,_=>h.elim
theorem rd_struct {fs : Array Field} {As : List (Option Nat × (MT → Prop))} {n : Nat} (ht : P.underlying t = some (.struct fs)) (hn : P.cellsOf t = n) (hnA : tot As = n) (hF : FldOk P W 0 fs.toList As) : RdA P W t (some n) (fun τ=>∃ F,Mt As F ∧ τ = PTS F):=fun H enc fuel cs x hx hw=>by
  obtain ⟨xs,m,rfl,rfl,hl,hxl,hT⟩:=DataW.trod_struct ht hx
  simp only [DataW.weights,ht] at hw
  obtain ⟨us,F,h1,h2,h3,h4⟩:=rd_fields fs.toList As xs 0 hF (by simpa using hxl) (fun i f hf=>hT i f (by simpa using hf)) hw (by omega)
  have hP : (PTS F).t (.agg (flat us).toArray) (G0of W):=⟨us,rfl,h3,h4⟩
  refine ⟨.agg (flat us).toArray,PTS F,⟨F,h1,rfl⟩,by rw [h2];rfl,PTS.shaped (by unfold offs;rw [List.take_length,h1.tot,hnA]) hP,hP⟩
theorem shaped1 {u : Value} (h : Shaped none u) : u.cells = #[u]:=h.1
theorem PTS.toQR {s : Bool} {p q : List Nat} {v : Value} {G : Gh} (h : (PTS [(none,.ex (.bool s)),(none,SL p),(none,SL q)]).t v G) : (QR s p q).t v G:=by
  obtain ⟨us,rfl,hl,h⟩:=h
  match us,hl,h with
  | [u0,u1,u2],_,h =>
    obtain ⟨a0,b0⟩:=h 0 _ u0 rfl rfl
    obtain ⟨a1,b1⟩:=h 1 _ u1 rfl rfl
    obtain ⟨a2,b2⟩:=h 2 _ u2 rfl rfl
    refine ⟨u1,u2,?_,b1,b2⟩
    have e0 : u0 = .bool s:=b0
    simp only [flat,List.flatMap_cons,List.flatMap_nil,shaped1 a0,shaped1 a1,shaped1 a2]
    rw [e0];rfl
theorem rd_frac {fs : Array Field} {f0 f1 f2 : Field} {tw : TypeId} (ht : P.underlying t = some (.struct fs)) (hf : fs.toList = [f0, f1, f2]) (hn : P.cellsOf t = 3) (h0 : f0.offset = 0 ∧ P.cellsOf f0.type = 1 ∧ P.underlying f0.type = some .bool) (h1 : f1.offset = 1 ∧ f1.type = tw) (h2 : f2.offset = 2 ∧ f2.type = tw)
    (hw : P.underlying tw = some (.slice e) ∧ P.cellsOf tw = 1) (he : P.underlying e = some (.int .u32) ∧ P.cellsOf e = 1 ∧ 4 ≤ P.bytesOf e) : RdA P W t (some 3) (fun τ=>∃ r : FR,τ = QR r.s r.p r.q):=by
  have hW : RdA P W tw none (fun τ=>∃ l,τ = SL l):=rd_words hw.1 he.1 he.2.1 he.2.2
  refine (rd_struct (As:=[(none,fun τ=>∃ b,τ = .ex (.bool b)),(none,fun τ=>∃ l,τ = SL l),(none,fun τ=>∃ l,τ = SL l)]) ht hn rfl (by
    rw [hf];exact ⟨h0.1,h0.2.1,rd_bool h0.2.2,h1.1,by rw [h1.2];exact hw.2,by rw [h1.2];exact hW,h2.1,by rw [h2.2];exact hw.2,by rw [h2.2];exact hW,trivial⟩)).mono fun τ v ⟨F,hM,hτ⟩ hv=>?_
  subst hτ
  match F,hM with
  | [a,b,c],⟨a1,⟨s,a2⟩,b1,⟨p,b2⟩,c1,⟨q,c2⟩,_⟩ =>
    obtain ⟨a0,a'⟩:=a;obtain ⟨b0,b'⟩:=b;obtain ⟨c0,c'⟩:=c
    simp only at a1 a2 b1 b2 c1 c2
    subst a1;subst a2;subst b1;subst b2;subst c1;subst c2
    exact ⟨_,⟨⟨s,p,q⟩,rfl⟩,PTS.toQR hv⟩
theorem rd_arg {H : Type} {enc : TypeId × Value → H} {v : Value} {d : DataW H} {ps : List MemPlace} (h : RdA P W t k A) (hd : DataW.Trod enc P W 0 (fun _ => true) true t v d ps) (hw : (d.weights P t).all (· ≤ reachBytes) = true)
    (hv : match k with | none=>v.cells = #[v] | some _=>∃ cs,v = .agg cs) : ∃ τ,A τ ∧ Shaped k v ∧ τ.t v (G0of W):=by
  obtain ⟨fuel,hf⟩:=hd
  obtain ⟨u,τ,h1,h2,h3,h4⟩:=h H enc fuel _ _ hf hw
  have : u = v:=by
    cases k with
    | none =>
      have h5 : u.cells = #[u]:=h3.1
      rw [h5,hv] at h2
      simpa using h2
    | some n =>
      obtain ⟨cs,rfl⟩:=hv
      obtain ⟨cs',rfl,_⟩:=h3
      have : cs'.toList = cs.toList:=h2
      rw [Array.toList_inj.1 this]
  subst this
  exact ⟨τ,h1,h3,h4⟩
end
end Go.Proofs.YtpbkcbnghhodiaaGreat
