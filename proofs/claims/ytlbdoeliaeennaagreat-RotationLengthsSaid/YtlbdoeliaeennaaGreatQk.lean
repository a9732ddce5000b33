import Derived.ChangeArms
import Derived.SizedLaws
import Derived.WideShapes
import Derived.Test.YtlbdoeliaeennaaGreatQj
set_option linter.unusedVariables false
set_option linter.unusedSimpArgs false
namespace Go.Proofs.YtlbdoeliaeennaaGreat
theorem fr_self {r : FR} (hw : wfl r.p ∧ wfl r.q) (hok : r.ok = true) : FR.of r.val = r:=by
  obtain ⟨s,p,q⟩:=r
  have hw : wfl p ∧ wfl q:=hw
  have hok : qok s p q = true:=hok
  by_cases hp : p.length = 0
  · have e:=List.length_eq_zero_iff.1 hp
    subst e
    have h : qok s [] q = true:=hok
    have hv : FR.val ⟨s,[],q⟩ = 0:=qval_nil rfl
    unfold qok at h
    split at h
    · rename_i k
      obtain rfl:=k.2
      rw [hv]
      have : s = false:=by simpa using h
      subst this
      unfold FR.of dwords
      rw [if_pos rfl,show (0 : Rat).num.natAbs = 0 from rfl,words_zero];rfl
    · simp at h
  · obtain ⟨_,h3,h4,h5,h6⟩:=qval_parts hw hok hp
    have hp0 : val p ≠ 0:=fun e=>ne_of_len hp (val_eq_zero h3 e)
    have hne : FR.val ⟨s,p,q⟩ ≠ 0:=fun e=>by
      have h5' : (FR.val ⟨s,p,q⟩).num = sg s (val p):=h5
      rw [e] at h5'
      have:=congrArg Int.natAbs h5'
      rw [sg_abs] at this;exact hp0 this.symm
    have hs : decide (FR.val ⟨s,p,q⟩ < 0) = s:=by
      have h5' : (FR.val ⟨s,p,q⟩).num = sg s (val p):=h5
      have h7 : FR.val ⟨s,p,q⟩ < 0 ↔ (FR.val ⟨s,p,q⟩).num < 0:=by
        rw [← Rat.not_le,← Rat.num_nonneg];omega
      rw [Bool.eq_iff_iff,decide_eq_true_iff,h7,h5']
      cases s <;> simp [sg] <;> omega
    unfold FR.of dwords
    rw [if_neg hne,hs]
    have e1 : (FR.val ⟨s,p,q⟩).num.natAbs = val p:=(congrArg Int.natAbs h5).trans sg_abs
    have e2 : (FR.val ⟨s,p,q⟩).den = val q:=h6
    rw [e1,e2,words_val hw.1 h3,words_val hw.2 h4]
theorem FX.self {n : Nat} {r : FR} {v : Value} {G : Gh} (h : (FX n r).t v G) (hok : r.ok = true) : (FX n (FR.of r.val)).t v G:=FX.eq h (fr_self (QR.wf (FX.qr h)) hok).symm
theorem FX.inv {n : Nat} {ra rb rc rd : FR} {k : Int} {j : Nat} {v : Value} {G : Gh} (hck : chkF [ra,rb,rc,rd] = 0) (h : (FX n ([ra,rb,rc,rd].getD ((j + md4 k) % 4) default)).t v G) : (FX n (invF [ra,rb,rc,rd] k j)).t v G:=by
  have hp:=chk_pos hck
  unfold invF;rw [if_pos hck]
  refine FX.self h ?_
  have hlt : (j + md4 k) % 4 < [ra,rb,rc,rd].length:=Nat.mod_lt _ (by decide)
  have hm : [ra,rb,rc,rd].getD ((j + md4 k) % 4) default ∈ [ra,rb,rc,rd]:=by
    rw [List.getD_eq_getElem?_getD,List.getElem?_eq_getElem hlt];exact List.getElem_mem hlt
  have:=List.all_eq_true.1 hp _ hm
  unfold posR at this
  exact (Bool.and_eq_true_iff.1 this).1
section
variable {a b c d A B C D : Rat}
theorem sums_cmp (ha : 0 ≤ a) (hb : 0 ≤ b) (hc : 0 ≤ c) (hd : 0 ≤ d) (hA : (A = a ∧ B = b) ∨ (A = b ∧ B = a)) (hC : (C = c ∧ D = d) ∨ (C = d ∧ D = c)) : sumsF A B C D = compareF [a,b] [c,d]:=by
  rw [cmp4 ha hb hc hd]
  rcases hA with ⟨rfl,rfl⟩ | ⟨rfl,rfl⟩ <;> rcases hC with ⟨rfl,rfl⟩ | ⟨rfl,rfl⟩
  · rw [sums_four ha hb hc hd]
  · rw [sums_four ha hb hd hc,RR.add_comm (rt C)]
  · rw [sums_four hb ha hc hd,RR.add_comm (rt A)]
  · rw [sums_four hb ha hd hc,RR.add_comm (rt A),RR.add_comm (rt C)]
theorem mm_t (h : cmpQ a b < 0) : maxQ a b = b ∧ minQ a b = a:=by
  have:=cmpQ_lt0.1 h
  exact ⟨max_le (by grind),min_le (by grind)⟩
theorem mm_f (h : ¬ cmpQ a b < 0) : maxQ a b = a ∧ minQ a b = b:=by
  rw [cmpQ_lt0] at h
  unfold maxQ minQ
  refine ⟨if_pos (Rat.not_lt.1 h),?_⟩
  split <;> grind
theorem sums_cmp2 (ha : 0 ≤ a) (hb : 0 ≤ b) (hc : 0 ≤ c) (hd : 0 ≤ d) (hA : maxQ a b = A ∧ minQ a b = B) (hC : maxQ c d = C ∧ minQ c d = D) : sumsF A D B C = compareF [maxQ a b,minQ c d] [minQ a b,maxQ c d]:=by
  have n1 : 0 ≤ maxQ a b:=by unfold maxQ;split <;> assumption
  have n2 : 0 ≤ minQ a b:=by unfold minQ;split <;> assumption
  have n3 : 0 ≤ maxQ c d:=by unfold maxQ;split <;> assumption
  have n4 : 0 ≤ minQ c d:=by unfold minQ;split <;> assumption
  rw [← hA.1,← hA.2,← hC.1,← hC.2,sums_four n1 n4 n2 n3,cmp4 n1 n4 n2 n3]
end
theorem rrot_t {l : List FR} {k : Nat} (c : compareF [(l.getD k default).val, (l.getD ((k + 3) % 4) default).val] [(l.getD ((k + 1) % 4) default).val, (l.getD ((k + 2) % 4) default).val] ≤ 0) :
    decide (compareF [maxQ (l.getD k default).val (l.getD ((k + 3) % 4) default).val,minQ (l.getD ((k + 1) % 4) default).val (l.getD ((k + 2) % 4) default).val] [minQ (l.getD k default).val (l.getD ((k + 3) % 4) default).val,maxQ (l.getD ((k + 1) % 4) default).val (l.getD ((k + 2) % 4) default).val] ≥ 0) = rotL l k:=by
  unfold rotL;rw [decide_eq_true c,Bool.true_and]
theorem rrot_f {l : List FR} {k : Nat} (c : ¬ compareF [(l.getD k default).val,(l.getD ((k + 3) % 4) default).val] [(l.getD ((k + 1) % 4) default).val,(l.getD ((k + 2) % 4) default).val] ≤ 0) : false = rotL l k:=by
  unfold rotL;rw [decide_eq_false c,Bool.false_and]
theorem rotF_in2 {l : List FR} {k : Int} (h : chkF l = 0) (hk : 0 ≤ k ∧ k ≤ 3) : rotF l k = rotL l k.toNat:=rotF_ok (by omega) hk
end Go.Proofs.YtlbdoeliaeennaaGreat
set_option linter.unusedVariables false
set_option linter.unusedSimpArgs false
namespace Go.Proofs.YtlbdoeliaeennaaGreat
def nearR (x : Rat) (u v : RR) (k : Rat) : RR:=RR.of x + RR.of (-(2 * k)) * u + RR.of 2 * v
theorem rt_sub {x : Rat} {u v : RR} {k m : Rat} : nearR x u v k - nearR x u v m = RR.of (2 * (m - k)) * u:=by
  unfold nearR
  obtain ⟨f,hf,rfl⟩:=RR.rep u;obtain ⟨g,hg,rfl⟩:=RR.rep v
  exact RR.ext fun n=>by grind
theorem near_R {g a b c : FR} (h : [g,a,b,c].all posR = true) (k : Rat) : nearF g a b c k = sgR (nearR (g.val + a.val - (b.val + c.val)) (rt (a.val * g.val)) (rt (b.val * c.val)) k):=surds_sg (pos_nn h).1 (pos_nn h).2
theorem far_R {g a b c : FR} (h : [g,a,b,c].all posR = true) (k : Rat) : farF g a b c k = sgR (nearR (-(g.val + a.val - (b.val + c.val))) (rt (a.val * g.val)) (rt (b.val * c.val)) (-k)):=by
  unfold farF nearR
  rw [show -(g.val + a.val - (b.val + c.val)) = b.val + c.val - (g.val + a.val) by grind,show -(2 * -k) = 2 * k by grind]
  exact surds_sg (pos_nn h).1 (pos_nn h).2
theorem nearR_anti {x : Rat} {u v : RR} (hu : 0 ≤ u) {k m : Rat} (hk : k ≤ m) : sgR (nearR x u v m) ≤ sgR (nearR x u v k):=by
  refine sgR_mono ?_
  rw [RR.le_iff_sub,rt_sub]
  exact RR.mul_nn (RR.of_le (p:=0) |>.2 (by grind)) hu
theorem near_anti {g a b c : FR} (h : [g,a,b,c].all posR = true) {k m : Rat} (hk : k ≤ m) : nearF g a b c m ≤ nearF g a b c k:=by
  rw [near_R h,near_R h];exact nearR_anti (rt_nn _) hk
theorem far_mono {g a b c : FR} (h : [g,a,b,c].all posR = true) {k m : Rat} (hk : k ≤ m) : farF g a b c k ≤ farF g a b c m:=by
  rw [far_R h,far_R h];exact nearR_anti (rt_nn _) (by grind)
theorem near_len {g a b c k : Rat} (hg : 0 < g) (ha : 0 < a) (hb : 0 < b) (hc : 0 < c) : nearF (FR.of (g * g)) (FR.of (a * a)) (FR.of (b * b)) (FR.of (c * c)) k = cmpQ (g * g + a * a - 2 * k * (g * a)) ((b - c) * (b - c)) ∧
    farF (FR.of (g * g)) (FR.of (a * a)) (FR.of (b * b)) (FR.of (c * c)) k = cmpQ ((b + c) * (b + c)) (g * g + a * a - 2 * k * (g * a)):=by
  have hp : [FR.of (g * g),FR.of (a * a),FR.of (b * b),FR.of (c * c)].all posR = true:=by
    simp only [List.all_cons,List.all_nil,posR_of4,Bool.and_true,Bool.and_eq_true,decide_eq_true_eq]
    exact ⟨Rat.mul_pos hg hg,Rat.mul_pos ha ha,Rat.mul_pos hb hb,Rat.mul_pos hc hc⟩
  rw [near_R hp,far_R hp,FR.of_val,FR.of_val,FR.of_val,FR.of_val]
  clear hp
  have hg:=Rat.le_of_lt hg;have ha:=Rat.le_of_lt ha;have hb:=Rat.le_of_lt hb;have hc:=Rat.le_of_lt hc
  rw [rt_mul (Rat.mul_nonneg ha ha) (Rat.mul_nonneg hg hg),rt_mul (Rat.mul_nonneg hb hb) (Rat.mul_nonneg hc hc),rt_c ha,rt_c hg,rt_c hb,rt_c hc,← sgR_cmp,← sgR_cmp]
  constructor
  · congr 1;exact RR.ext fun n=>by grind
  · congr 1;exact RR.ext fun n=>by grind
def nearV (g a b c k : Rat) : Int:=surdsF (g + a - (b + c)) (-(2 * k)) (a * g) 2 (b * c)
def farV (g a b c k : Rat) : Int:=surdsF (b + c - (g + a)) (2 * k) (a * g) 2 (b * c)
theorem nearV_s1 {g a b c k : Rat} : nearV g a b c k = nearV a g b c k:=by unfold nearV;rw [Rat.add_comm g a,Rat.mul_comm a g]
theorem nearV_s2 {g a b c k : Rat} : nearV g a b c k = nearV g a c b k:=by unfold nearV;rw [Rat.add_comm b c,Rat.mul_comm b c]
theorem farV_s1 {g a b c k : Rat} : farV g a b c k = farV a g b c k:=by unfold farV;rw [Rat.add_comm g a,Rat.mul_comm a g]
theorem farV_s2 {g a b c k : Rat} : farV g a b c k = farV g a c b k:=by unfold farV;rw [Rat.add_comm b c,Rat.mul_comm b c]
section
variable {g a b c : Rat}
theorem of_4 (hg : 0 ≤ g) (ha : 0 ≤ a) (hb : 0 ≤ b) (hc : 0 ≤ c) : RR.of (g + a - (b + c)) = rt g * rt g + rt a * rt a - (rt b * rt b + rt c * rt c):=by
  rw [rt_sq hg,rt_sq ha,rt_sq hb,rt_sq hc,RR.of_sub,RR.of_add,RR.of_add]
theorem near_p1 (hg : 0 ≤ g) (hb : 0 ≤ b) (hga : g ≤ a) (hbc : b ≤ c) : nearV g a b c 1 ≥ 0 ↔ rt g + rt c ≤ rt a + rt b:=by
  have ha : 0 ≤ a:=by grind
  have hc : 0 ≤ c:=by grind
  unfold nearV
  rw [surds_sg (Rat.mul_nonneg ha hg) (Rat.mul_nonneg hb hc),rt_mul ha hg,rt_mul hb hc,of_4 hg ha hb hc]
  have e : rt g * rt g + rt a * rt a - (rt b * rt b + rt c * rt c) + RR.of (-(2 * 1)) * (rt a * rt g) + RR.of 2 * (rt b * rt c) = (rt a - rt g) * (rt a - rt g) - (rt c - rt b) * (rt c - rt b):=by
    generalize rt a = A;generalize rt g = D;generalize rt b = B;generalize rt c = C
    obtain ⟨f,hf,rfl⟩:=RR.rep A;obtain ⟨f1,hf1,rfl⟩:=RR.rep D;obtain ⟨f2,hf2,rfl⟩:=RR.rep B;obtain ⟨f3,hf3,rfl⟩:=RR.rep C
    exact RR.ext fun n=>by grind
  have e2 : (rt a - rt g) - (rt c - rt b) = (rt a + rt b) - (rt g + rt c):=by
    generalize rt a = A;generalize rt g = D;generalize rt b = B;generalize rt c = C
    obtain ⟨f,hf,rfl⟩:=RR.rep A;obtain ⟨f1,hf1,rfl⟩:=RR.rep D;obtain ⟨f2,hf2,rfl⟩:=RR.rep B;obtain ⟨f3,hf3,rfl⟩:=RR.rep C
    exact RR.ext fun n=>by grind
  rw [e,← sgR_sq (RR.le_iff_sub.1 (rt_le hg hga)) (RR.le_iff_sub.1 (rt_le hb hbc)),e2]
  exact sgR_ge
theorem far_m1 (hg : 0 ≤ g) (ha : 0 ≤ a) (hb : 0 ≤ b) (hc : 0 ≤ c) : farV g a b c (-1) ≥ 0 ↔ rt g + rt a ≤ rt b + rt c:=by
  unfold farV
  rw [surds_sg (Rat.mul_nonneg ha hg) (Rat.mul_nonneg hb hc),rt_mul ha hg,rt_mul hb hc,of_4 hb hc hg ha]
  have e : rt b * rt b + rt c * rt c - (rt g * rt g + rt a * rt a) + RR.of (2 * -1) * (rt a * rt g) + RR.of 2 * (rt b * rt c) = (rt b + rt c) * (rt b + rt c) - (rt g + rt a) * (rt g + rt a):=by
    generalize rt a = A;generalize rt g = D;generalize rt b = B;generalize rt c = C
    obtain ⟨f,hf,rfl⟩:=RR.rep A;obtain ⟨f1,hf1,rfl⟩:=RR.rep D;obtain ⟨f2,hf2,rfl⟩:=RR.rep B;obtain ⟨f3,hf3,rfl⟩:=RR.rep C
    exact RR.ext fun n=>by grind
  rw [e,← sgR_sq (RR.add_nn (rt_nn _) (rt_nn _)) (RR.add_nn (rt_nn _) (rt_nn _))]
  exact sgR_ge
theorem near_m1 (hg : 0 ≤ g) (ha : 0 ≤ a) (hb : 0 ≤ b) (hbc : b ≤ c) (h : rt c ≤ rt g + rt a + rt b) : nearV g a b c (-1) ≥ 0:=by
  have hc : 0 ≤ c:=by grind
  unfold nearV
  rw [surds_sg (Rat.mul_nonneg ha hg) (Rat.mul_nonneg hb hc),rt_mul ha hg,rt_mul hb hc,of_4 hg ha hb hc]
  have e : rt g * rt g + rt a * rt a - (rt b * rt b + rt c * rt c) + RR.of (-(2 * -1)) * (rt a * rt g) + RR.of 2 * (rt b * rt c) = (rt g + rt a) * (rt g + rt a) - (rt c - rt b) * (rt c - rt b):=by
    generalize rt a = A;generalize rt g = D;generalize rt b = B;generalize rt c = C
    obtain ⟨f,hf,rfl⟩:=RR.rep A;obtain ⟨f1,hf1,rfl⟩:=RR.rep D;obtain ⟨f2,hf2,rfl⟩:=RR.rep B;obtain ⟨f3,hf3,rfl⟩:=RR.rep C
    exact RR.ext fun n=>by grind
  have e2 : (rt g + rt a) - (rt c - rt b) = (rt g + rt a + rt b) - rt c:=by
    generalize rt a = A;generalize rt g = D;generalize rt b = B;generalize rt c = C
    obtain ⟨f,hf,rfl⟩:=RR.rep A;obtain ⟨f1,hf1,rfl⟩:=RR.rep D;obtain ⟨f2,hf2,rfl⟩:=RR.rep B;obtain ⟨f3,hf3,rfl⟩:=RR.rep C
    exact RR.ext fun n=>by grind
  rw [e,← sgR_sq (RR.add_nn (rt_nn _) (rt_nn _)) (RR.le_iff_sub.1 (rt_le hb hbc)),e2]
  exact sgR_ge.2 h
theorem far_p1 (hg : 0 ≤ g) (hga : g ≤ a) (hb : 0 ≤ b) (hc : 0 ≤ c) (h : rt a ≤ rt b + rt c + rt g) : farV g a b c 1 ≥ 0:=by
  have ha : 0 ≤ a:=by grind
  unfold farV
  rw [surds_sg (Rat.mul_nonneg ha hg) (Rat.mul_nonneg hb hc),rt_mul ha hg,rt_mul hb hc,of_4 hb hc hg ha]
  have e : rt b * rt b + rt c * rt c - (rt g * rt g + rt a * rt a) + RR.of (2 * 1) * (rt a * rt g) + RR.of 2 * (rt b * rt c) = (rt b + rt c) * (rt b + rt c) - (rt a - rt g) * (rt a - rt g):=by
    generalize rt a = A;generalize rt g = D;generalize rt b = B;generalize rt c = C
    obtain ⟨f,hf,rfl⟩:=RR.rep A;obtain ⟨f1,hf1,rfl⟩:=RR.rep D;obtain ⟨f2,hf2,rfl⟩:=RR.rep B;obtain ⟨f3,hf3,rfl⟩:=RR.rep C
    exact RR.ext fun n=>by grind
  have e2 : (rt b + rt c) - (rt a - rt g) = (rt b + rt c + rt g) - rt a:=by
    generalize rt a = A;generalize rt g = D;generalize rt b = B;generalize rt c = C
    obtain ⟨f,hf,rfl⟩:=RR.rep A;obtain ⟨f1,hf1,rfl⟩:=RR.rep D;obtain ⟨f2,hf2,rfl⟩:=RR.rep B;obtain ⟨f3,hf3,rfl⟩:=RR.rep C
    exact RR.ext fun n=>by grind
  rw [e,← sgR_sq (RR.add_nn (rt_nn _) (rt_nn _)) (RR.le_iff_sub.1 (rt_le hg hga)),e2]
  exact sgR_ge.2 h
theorem full_rot (hg : 0 ≤ g) (ha : 0 ≤ a) (hb : 0 ≤ b) (hc : 0 ≤ c) : (nearV g a b c 1 ≥ 0 ∧ farV g a b c (-1) ≥ 0) ↔ rotQ a g b c:=by
  have key : ∀ {g a b c : Rat},0 ≤ g → 0 ≤ b → g ≤ a → b ≤ c → ((nearV g a b c 1 ≥ 0 ∧ farV g a b c (-1) ≥ 0) ↔ rotQ g a b c):=fun {g a b c} hg hb hga hbc=>by
    rw [near_p1 hg hb hga hbc,far_m1 hg (by grind) hb (by grind),rotQ_iff hg (by grind) hb (by grind) hga hbc]
    exact And.comm
  rw [rotQ_swap1 ha hg hb hc]
  rcases Rat.le_total (a:=g) (b:=a) with h | h <;> rcases Rat.le_total (a:=b) (b:=c) with k | k
  · exact key hg hb h k
  · rw [nearV_s2,farV_s2,key hg hc h k];exact rotQ_swap2 hg ha hc hb
  · rw [nearV_s1,farV_s1,key ha hb h k];exact rotQ_swap1 ha hg hb hc
  · rw [nearV_s1,nearV_s2,farV_s1,farV_s2,key ha hc h k,rotQ_swap1 ha hg hc hb];exact rotQ_swap2 hg ha hc hb
end
theorem sum4 {R : Nat → RR} {i j k m : Nat} (hp : [i,j,k,m].Perm [0,1,2,3]) : R i + R j + R k + R m = R 0 + R 1 + R 2 + R 3:=by
  have hm:=perm4 hp
  simp only [perms4,List.mem_cons,List.not_mem_nil,or_false,List.cons.injEq,and_true] at hm
  haveI : Std.Commutative (α:=RR) (· + ·):=⟨RR.add_comm⟩
  haveI : Std.Associative (α:=RR) (· + ·):=⟨RR.add_assoc⟩
  clear hp
  rcases hm with ⟨rfl,rfl,rfl,rfl⟩ | ⟨rfl,rfl,rfl,rfl⟩ | ⟨rfl,rfl,rfl,rfl⟩ | ⟨rfl,rfl,rfl,rfl⟩ | ⟨rfl,rfl,rfl,rfl⟩ | ⟨rfl,rfl,rfl,rfl⟩ | ⟨rfl,rfl,rfl,rfl⟩ | ⟨rfl,rfl,rfl,rfl⟩ | ⟨rfl,rfl,rfl,rfl⟩ | ⟨rfl,rfl,rfl,rfl⟩ | ⟨rfl,rfl,rfl,rfl⟩ | ⟨rfl,rfl,rfl,rfl⟩ | ⟨rfl,rfl,rfl,rfl⟩ | ⟨rfl,rfl,rfl,rfl⟩ | ⟨rfl,rfl,rfl,rfl⟩ | ⟨rfl,rfl,rfl,rfl⟩ | ⟨rfl,rfl,rfl,rfl⟩ | ⟨rfl,rfl,rfl,rfl⟩ | ⟨rfl,rfl,rfl,rfl⟩ | ⟨rfl,rfl,rfl,rfl⟩ | ⟨rfl,rfl,rfl,rfl⟩ | ⟨rfl,rfl,rfl,rfl⟩ | ⟨rfl,rfl,rfl,rfl⟩ | ⟨rfl,rfl,rfl,rfl⟩
  all_goals ac_rfl
theorem chk_cl {l : List FR} (h : chkF l = 0) : closesF (lk l 3) (lk l 0) (lk l 1) (lk l 2) = true:=by
  cases hc : closesF (lk l 3) (lk l 0) (lk l 1) (lk l 2) with
  | true=>rfl
  | false=>rw [chk16 (chk_pos h) hc] at h;cases h
theorem each_le {l : List FR} (h : chkF l = 0) {t : Nat} (ht : t < 4) : rt ((l.map FR.val).getD t default) + rt ((l.map FR.val).getD t default) ≤ rt ((l.map FR.val).getD 0 default) + rt ((l.map FR.val).getD 1 default) + rt ((l.map FR.val).getD 2 default) + rt ((l.map FR.val).getD 3 default):=by
  have hn : ∀ q,0 ≤ (l.map FR.val).getD q default:=fun q=>by rw [vget];exact vals_pos (chk_pos h) q
  obtain ⟨i,j,k,m,e,hp,b1,b2,b3⟩:=order_ok (l.map FR.val)
  have hc:=chk_cl h
  simp only [lk_get,e] at hc
  have h1:=bef_le b1;have h2:=bef_le b2;have h3:=bef_le b3
  have hc:=(closes_iff (hn m) (hn i) (hn j) (hn k) h3).1 hc
  have hm : t ∈ [i,j,k,m]:=hp.mem_iff.2 (by simp;omega)
  have hle : (l.map FR.val).getD t default ≤ (l.map FR.val).getD m default:=by
    simp only [List.mem_cons,List.not_mem_nil,or_false] at hm
    rcases hm with rfl | rfl | rfl | rfl <;> grind
  have hr:=rt_le (hn t) hle
  refine RR.le_trans (RR.add_le_add hr hr) ?_
  refine RR.le_trans (RR.add_le_add_right hc _) ?_
  rw [sum4 (R:=fun x=>rt ((l.map FR.val).getD x default)) hp]
  exact RR.le_refl _
theorem half4 {p q r x s : RR} (h : x + x ≤ s) (e : s = p + q + r + x) : x ≤ p + q + r:=by
  rw [RR.le_iff_sub] at h ⊢
  have : p + q + r - x = s - (x + x):=by
    subst e
    obtain ⟨f,hf,rfl⟩:=RR.rep p;obtain ⟨f1,hf1,rfl⟩:=RR.rep q;obtain ⟨f2,hf2,rfl⟩:=RR.rep r;obtain ⟨f3,hf3,rfl⟩:=RR.rep x
    exact RR.ext fun n=>by grind
  rwa [this]
theorem near_far_ok {g a b c : FR} (h : chkF [g,a,b,c] = 0) : nearF g a b c (-1) ≥ 0 ∧ farF g a b c 1 ≥ 0:=by
  have hp:=chk_pos h
  simp only [List.all_cons,List.all_nil,Bool.and_true,Bool.and_eq_true] at hp
  have p0:=Rat.le_of_lt (posR_val hp.1);have p1:=Rat.le_of_lt (posR_val hp.2.1);have p2:=Rat.le_of_lt (posR_val hp.2.2.1);have p3:=Rat.le_of_lt (posR_val hp.2.2.2)
  have e0 : rt g.val + rt g.val ≤ rt g.val + rt a.val + rt b.val + rt c.val:=each_le h (t:=0) (by decide)
  have e1 : rt a.val + rt a.val ≤ rt g.val + rt a.val + rt b.val + rt c.val:=each_le h (t:=1) (by decide)
  have e2 : rt b.val + rt b.val ≤ rt g.val + rt a.val + rt b.val + rt c.val:=each_le h (t:=2) (by decide)
  have e3 : rt c.val + rt c.val ≤ rt g.val + rt a.val + rt b.val + rt c.val:=each_le h (t:=3) (by decide)
  haveI : Std.Commutative (α:=RR) (· + ·):=⟨RR.add_comm⟩
  haveI : Std.Associative (α:=RR) (· + ·):=⟨RR.add_assoc⟩
  constructor
  · show nearV g.val a.val b.val c.val (-1) ≥ 0
    rcases Rat.le_total (a:=b.val) (b:=c.val) with k | k
    · exact near_m1 p0 p1 p2 k (half4 e3 (by ac_rfl))
    · rw [nearV_s2];exact near_m1 p0 p1 p3 k (half4 e2 (by ac_rfl))
  · show farV g.val a.val b.val c.val 1 ≥ 0
    rcases Rat.le_total (a:=g.val) (b:=a.val) with k | k
    · exact far_p1 p0 k p2 p3 (half4 e1 (by ac_rfl))
    · rw [farV_s1];exact far_p1 p1 k p2 p3 (half4 e0 (by ac_rfl))
theorem full_rotL {g a b c : FR} (h : chkF [g,a,b,c] = 0) : fullF g a b c = rotL [g,a,b,c] 1:=by
  have hp:=chk_pos h
  simp only [List.all_cons,List.all_nil,Bool.and_true,Bool.and_eq_true] at hp
  have p0:=Rat.le_of_lt (posR_val hp.1);have p1:=Rat.le_of_lt (posR_val hp.2.1);have p2:=Rat.le_of_lt (posR_val hp.2.2.1);have p3:=Rat.le_of_lt (posR_val hp.2.2.2)
  rw [full_ok (by omega),Bool.eq_iff_iff,rotL_iff,Bool.and_eq_true,decide_eq_true_eq,decide_eq_true_eq]
  exact full_rot p0 p1 p2 p3
theorem full_cls {g a b c : FR} (h : chkF [g,a,b,c] = 0) : ((clsF [g,a,b,c] = 0 ∨ clsF [g,a,b,c] = 1) → fullF g a b c = true) ∧ (¬ (clsF [g,a,b,c] = 0 ∨ clsF [g,a,b,c] = 1) → fullF g a b c = false ∨ clsF [g,a,b,c] = 5):=by
  have ht:=turns (chk_pos h) (t:=1) (by decide)
  rw [full_rotL h]
  rcases exc_bd h with e | e | e
  · rw [cls_dn h (by omega),ht.2 (by omega)]
    have hl:=hd4_lt [g,a,b,c]
    show ((((lnk (hd4 [g,a,b,c]) : Nat) : Int) = 0 ∨ ((lnk (hd4 [g,a,b,c]) : Nat) : Int) = 1) → (1 = hd4 [g,a,b,c] ∨ 0 = hd4 [g,a,b,c])) ∧ _
    have hf : ∀ n,n < 4 → ((((lnk n : Nat) : Int) = 0 ∨ ((lnk n : Nat) : Int) = 1) ↔ (1 = n ∨ 0 = n)):=fun n hn=>by
      match n,hn with
      | 0,_=>decide
      | 1,_=>decide
      | 2,_=>decide
      | 3,_=>decide
    refine ⟨fun e=>(hf _ hl).1 e,fun e=>.inl ?_⟩
    cases hr : rotL [g,a,b,c] 1 with
    | false=>rfl
    | true=>exact absurd ((hf _ hl).2 ((ht.2 (by omega)).1 hr)) e
  · rw [cls_up h (by omega),if_neg (by omega)]
    exact ⟨fun e=>by omega,fun _=>.inr rfl⟩
  · rw [cls_up h (by omega),if_pos (by omega)]
    exact ⟨fun e=>by omega,fun _=>.inl (ht.1 (by omega))⟩
theorem surds_neg {x y d z e : Rat} (hd : 0 ≤ d) (he : 0 ≤ e) : surdsF (-x) (-y) d (-z) e = -surdsF x y d z e:=by
  rw [surds_sg hd he,surds_sg hd he,← sgR_negate]
  congr 1
  generalize rt d = A;generalize rt e = B
  obtain ⟨f,hf,rfl⟩:=RR.rep A;obtain ⟨f1,hf1,rfl⟩:=RR.rep B
  exact RR.ext fun n=>by grind
theorem rt_pos {x : Rat} (h : 0 < x) : 0 < rt x:=by
  refine RR.lt_of_ne (rt_nn x) fun e=>?_
  have h2:=rt_sq (Rat.le_of_lt h)
  rw [← e,RR.mul_zero] at h2
  have:=RR.of_inj (p:=0) |>.1 h2
  grind
theorem lim_cmp {k A P S u : Rat} (hP : 0 < P) (hS : 0 ≤ S) : surdsF k (-A) P (-u) (P * S) = sgR (RR.of (-(2 * A * P)) + RR.of (2 * k) * rt P + RR.of (-(2 * u * P)) * rt S):=by
  have h0:=Rat.le_of_lt hP
  have h2 : 0 < RR.of 2 * rt P:=RR.mul_pos (RR.of_lt (p:=0) |>.2 (by decide)) (rt_pos hP)
  rw [surds_sg h0 (Rat.mul_nonneg h0 hS),rt_mul h0 hS,show sgR (RR.of k + RR.of (-A) * rt P + RR.of (-u) * (rt P * rt S)) = sgR (RR.of 2 * rt P * (RR.of k + RR.of (-A) * rt P + RR.of (-u) * (rt P * rt S))) by rw [sgR_mul (RR.of 2 * rt P),sgR_pos h2,Int.one_mul]]
  congr 1
  have e1 : RR.of (-(2 * A * P)) = RR.of (-(2 * A)) * (rt P * rt P):=by rw [rt_sq h0,← RR.of_mul];congr 1;grind
  have e2 : RR.of (-(2 * u * P)) = RR.of (-(2 * u)) * (rt P * rt P):=by rw [rt_sq h0,← RR.of_mul];congr 1;grind
  rw [e1,e2]
  generalize rt P = X;generalize rt S = Y
  obtain ⟨f,hf,rfl⟩:=RR.rep X;obtain ⟨f1,hf1,rfl⟩:=RR.rep Y
  exact RR.ext fun n=>by grind
theorem lim_lo {g a b c : FR} (h : [g,a,b,c].all posR = true) (k : Rat) : surdsF k (-limA g a b c) (a.val * g.val) (- -(1 / (a.val * g.val))) (a.val * g.val * (b.val * c.val)) = farF g a b c k:=by
  have hn:=pos_nn h
  have hag:=ag_ne h
  have hP : 0 < a.val * g.val:=by grind
  rw [lim_cmp hP hn.2,far_R h]
  unfold nearR
  congr 1
  rw [show -(2 * limA g a b c * (a.val * g.val)) = -(g.val + a.val - (b.val + c.val)) by unfold limA;grind,show -(2 * -(1 / (a.val * g.val)) * (a.val * g.val)) = 2 by grind,show -(2 * -k) = 2 * k by grind]
theorem lim_hi {g a b c : FR} (h : [g,a,b,c].all posR = true) (k : Rat) : surdsF k (-limA g a b c) (a.val * g.val) (-(1 / (a.val * g.val))) (a.val * g.val * (b.val * c.val)) = -nearF g a b c k:=by
  have hn:=pos_nn h
  have hag:=ag_ne h
  have hP : 0 < a.val * g.val:=by grind
  rw [lim_cmp hP hn.2,near_R h,← sgR_negate]
  unfold nearR
  congr 1
  rw [show -(2 * limA g a b c * (a.val * g.val)) = -(g.val + a.val - (b.val + c.val)) by unfold limA;grind,show -(2 * (1 / (a.val * g.val)) * (a.val * g.val)) = -2 by grind]
  generalize rt (a.val * g.val) = X;generalize rt (b.val * c.val) = Y
  obtain ⟨f,hf,rfl⟩:=RR.rep X;obtain ⟨f1,hf1,rfl⟩:=RR.rep Y
  exact RR.ext fun n=>by grind
theorem lim_s {g a b c : FR} (h : [g,a,b,c].all posR = true) (k u : Rat) : surdsF (-k) (limA g a b c) (a.val * g.val) u (a.val * g.val * (b.val * c.val)) = -surdsF k (-limA g a b c) (a.val * g.val) (-u) (a.val * g.val * (b.val * c.val)):=by
  have hn:=pos_nn h
  rw [← surds_neg hn.1 (Rat.mul_nonneg hn.1 hn.2),Rat.neg_neg,Rat.neg_neg]
theorem limI_lo {g a b c : FR} (h : [g,a,b,c].all posR = true) : limI g a b c (-(1 / (a.val * g.val))) = (decide (farF g a b c (-1) ≤ 0) && decide (farF g a b c 1 ≥ 0)):=by
  unfold limI
  rw [lim_s h 1,show (1 : Rat) = -(-1) by decide,lim_s h (-1),Rat.neg_neg,lim_lo h,lim_lo h,Bool.and_comm]
  congr 1 <;> exact decide_eq_decide.2 (by omega)
theorem limI_hi {g a b c : FR} (h : [g,a,b,c].all posR = true) : limI g a b c (1 / (a.val * g.val)) = (decide (nearF g a b c (-1) ≥ 0) && decide (nearF g a b c 1 ≤ 0)):=by
  unfold limI
  rw [lim_s h 1,show (1 : Rat) = -(-1) by decide,lim_s h (-1),Rat.neg_neg,lim_hi h,lim_hi h,Bool.and_comm]
  congr 1 <;> exact decide_eq_decide.2 (by omega)
def limR (g a b c : FR) : List (List Rat):=(if (decide (farF g a b c (-1) ≤ 0) && decide (farF g a b c 1 ≥ 0)) = true then [[0,limA g a b c,0,-1 / (a.val * g.val)]] else []) ++ (if (decide (nearF g a b c (-1) ≥ 0) && decide (nearF g a b c 1 ≤ 0)) = true then [[0,limA g a b c,0,1 / (a.val * g.val)]] else [])
theorem limR_eq {g a b c : FR} (h : [g,a,b,c].all posR = true) : limR g a b c = limJ g a b c 2:=by
  unfold limR limJ
  rw [← limI_lo h,← limI_hi h,show (limK g a).take 2 = [-(1 / (a.val * g.val)),1 / (a.val * g.val)] from rfl,show (-1 : Rat) / (a.val * g.val) = -(1 / (a.val * g.val)) by grind]
  clear h
  cases h1 : limI g a b c (-(1 / (a.val * g.val))) <;> cases h2 : limI g a b c (1 / (a.val * g.val)) <;> simp [List.filter_cons,h1,h2,limN]
end Go.Proofs.YtlbdoeliaeennaaGreat
set_option linter.unusedVariables false
set_option linter.unusedSimpArgs false
set_option maxHeartbeats 4000000
set_option maxRecDepth 100000
set_option synthInstance.maxSize 100000
set_option synthInstance.maxHeartbeats 400000
namespace Go.Proofs.YtlbdoeliaeennaaGreat
open Go.RowKit (Below)
private theorem mixedOrders : Tryz.prog.follows .mixedOrders = true:=by kernel_rfl
theorem gd1 {s : Bool} {p : Prop} [Decidable p] (h : (!true || !s || decide p) = false) : ¬ p:=fun e=>by rw [decide_eq_true e] at h;simp at h
theorem short1 {s1 : Bool} (h : s1 = true) : (!true || !s1) = false:=by cases s1 <;> simp_all
theorem long1_0 {s1 : Bool} (h : s1 = false) : (!true || !s1) = true:=by cases s1 <;> simp_all
theorem gi1_0 {s1 : Bool} (h : s1 = false) (g : (!true || !s1) = false) : False:=by cases s1 <;> simp_all
theorem long1_1 {s1 A1 : Bool} (h : s1 = false) : ((!true || !s1) || A1) = true:=by cases s1 <;> simp_all
theorem gi1_1 {s1 A1 : Bool} (h : s1 = false) (g : ((!true || !s1) || A1) = false) : False:=by cases s1 <;> simp_all
theorem long1_2 {s1 A1 A2 : Bool} (h : s1 = false) : (((!true || !s1) || A1) || A2) = true:=by cases s1 <;> simp_all
theorem gi1_2 {s1 A1 A2 : Bool} (h : s1 = false) (g : (((!true || !s1) || A1) || A2) = false) : False:=by cases s1 <;> simp_all
theorem long1_3 {s1 A1 A2 A3 : Bool} (h : s1 = false) : ((((!true || !s1) || A1) || A2) || A3) = true:=by cases s1 <;> simp_all
theorem gi1_3 {s1 A1 A2 A3 : Bool} (h : s1 = false) (g : ((((!true || !s1) || A1) || A2) || A3) = false) : False:=by cases s1 <;> simp_all
theorem long1_4 {s1 A1 A2 A3 A4 : Bool} (h : s1 = false) : (((((!true || !s1) || A1) || A2) || A3) || A4) = true:=by cases s1 <;> simp_all
theorem gi1_4 {s1 A1 A2 A3 A4 : Bool} (h : s1 = false) (g : (((((!true || !s1) || A1) || A2) || A3) || A4) = false) : False:=by cases s1 <;> simp_all
theorem long1_5 {s1 A1 A2 A3 A4 A5 : Bool} (h : s1 = false) : ((((((!true || !s1) || A1) || A2) || A3) || A4) || A5) = true:=by cases s1 <;> simp_all
theorem gi1_5 {s1 A1 A2 A3 A4 A5 : Bool} (h : s1 = false) (g : ((((((!true || !s1) || A1) || A2) || A3) || A4) || A5) = false) : False:=by cases s1 <;> simp_all
theorem long1_6 {s1 A1 A2 A3 A4 A5 A6 : Bool} (h : s1 = false) : (((((((!true || !s1) || A1) || A2) || A3) || A4) || A5) || A6) = true:=by cases s1 <;> simp_all
theorem gi1_6 {s1 A1 A2 A3 A4 A5 A6 : Bool} (h : s1 = false) (g : (((((((!true || !s1) || A1) || A2) || A3) || A4) || A5) || A6) = false) : False:=by cases s1 <;> simp_all
theorem short2 {s1 s2 : Bool} (h : (s1 && s2) = true) : ((!true || !s1) || !s2) = false:=by cases s1 <;> cases s2 <;> simp_all
theorem long2_0 {s1 s2 : Bool} (h : (s1 && s2) = false) : ((!true || !s1) || !s2) = true:=by cases s1 <;> cases s2 <;> simp_all
theorem gi2_0 {s1 s2 : Bool} (h : (s1 && s2) = false) (g : ((!true || !s1) || !s2) = false) : False:=by cases s1 <;> cases s2 <;> simp_all
theorem long2_1 {s1 s2 A1 : Bool} (h : (s1 && s2) = false) : (((!true || !s1) || !s2) || A1) = true:=by cases s1 <;> cases s2 <;> simp_all
theorem gi2_1 {s1 s2 A1 : Bool} (h : (s1 && s2) = false) (g : (((!true || !s1) || !s2) || A1) = false) : False:=by cases s1 <;> cases s2 <;> simp_all
theorem long2_2 {s1 s2 A1 A2 : Bool} (h : (s1 && s2) = false) : ((((!true || !s1) || !s2) || A1) || A2) = true:=by cases s1 <;> cases s2 <;> simp_all
theorem gi2_2 {s1 s2 A1 A2 : Bool} (h : (s1 && s2) = false) (g : ((((!true || !s1) || !s2) || A1) || A2) = false) : False:=by cases s1 <;> cases s2 <;> simp_all
theorem long2_3 {s1 s2 A1 A2 A3 : Bool} (h : (s1 && s2) = false) : (((((!true || !s1) || !s2) || A1) || A2) || A3) = true:=by cases s1 <;> cases s2 <;> simp_all
theorem gi2_3 {s1 s2 A1 A2 A3 : Bool} (h : (s1 && s2) = false) (g : (((((!true || !s1) || !s2) || A1) || A2) || A3) = false) : False:=by cases s1 <;> cases s2 <;> simp_all
theorem long2_4 {s1 s2 A1 A2 A3 A4 : Bool} (h : (s1 && s2) = false) : ((((((!true || !s1) || !s2) || A1) || A2) || A3) || A4) = true:=by cases s1 <;> cases s2 <;> simp_all
theorem gi2_4 {s1 s2 A1 A2 A3 A4 : Bool} (h : (s1 && s2) = false) (g : ((((((!true || !s1) || !s2) || A1) || A2) || A3) || A4) = false) : False:=by cases s1 <;> cases s2 <;> simp_all
theorem long2_5 {s1 s2 A1 A2 A3 A4 A5 : Bool} (h : (s1 && s2) = false) : (((((((!true || !s1) || !s2) || A1) || A2) || A3) || A4) || A5) = true:=by cases s1 <;> cases s2 <;> simp_all
theorem gi2_5 {s1 s2 A1 A2 A3 A4 A5 : Bool} (h : (s1 && s2) = false) (g : (((((((!true || !s1) || !s2) || A1) || A2) || A3) || A4) || A5) = false) : False:=by cases s1 <;> cases s2 <;> simp_all
theorem long2_6 {s1 s2 A1 A2 A3 A4 A5 A6 : Bool} (h : (s1 && s2) = false) : ((((((((!true || !s1) || !s2) || A1) || A2) || A3) || A4) || A5) || A6) = true:=by cases s1 <;> cases s2 <;> simp_all
theorem gi2_6 {s1 s2 A1 A2 A3 A4 A5 A6 : Bool} (h : (s1 && s2) = false) (g : ((((((((!true || !s1) || !s2) || A1) || A2) || A3) || A4) || A5) || A6) = false) : False:=by cases s1 <;> cases s2 <;> simp_all
theorem short3 {s1 s2 s3 : Bool} (h : ((s1 && s2) && s3) = true) : (((!true || !s1) || !s2) || !s3) = false:=by cases s1 <;> cases s2 <;> cases s3 <;> simp_all
theorem long3_0 {s1 s2 s3 : Bool} (h : ((s1 && s2) && s3) = false) : (((!true || !s1) || !s2) || !s3) = true:=by cases s1 <;> cases s2 <;> cases s3 <;> simp_all
theorem gi3_0 {s1 s2 s3 : Bool} (h : ((s1 && s2) && s3) = false) (g : (((!true || !s1) || !s2) || !s3) = false) : False:=by cases s1 <;> cases s2 <;> cases s3 <;> simp_all
theorem long3_1 {s1 s2 s3 A1 : Bool} (h : ((s1 && s2) && s3) = false) : ((((!true || !s1) || !s2) || !s3) || A1) = true:=by cases s1 <;> cases s2 <;> cases s3 <;> simp_all
theorem gi3_1 {s1 s2 s3 A1 : Bool} (h : ((s1 && s2) && s3) = false) (g : ((((!true || !s1) || !s2) || !s3) || A1) = false) : False:=by cases s1 <;> cases s2 <;> cases s3 <;> simp_all
theorem long3_2 {s1 s2 s3 A1 A2 : Bool} (h : ((s1 && s2) && s3) = false) : (((((!true || !s1) || !s2) || !s3) || A1) || A2) = true:=by cases s1 <;> cases s2 <;> cases s3 <;> simp_all
theorem gi3_2 {s1 s2 s3 A1 A2 : Bool} (h : ((s1 && s2) && s3) = false) (g : (((((!true || !s1) || !s2) || !s3) || A1) || A2) = false) : False:=by cases s1 <;> cases s2 <;> cases s3 <;> simp_all
theorem long3_3 {s1 s2 s3 A1 A2 A3 : Bool} (h : ((s1 && s2) && s3) = false) : ((((((!true || !s1) || !s2) || !s3) || A1) || A2) || A3) = true:=by cases s1 <;> cases s2 <;> cases s3 <;> simp_all
theorem gi3_3 {s1 s2 s3 A1 A2 A3 : Bool} (h : ((s1 && s2) && s3) = false) (g : ((((((!true || !s1) || !s2) || !s3) || A1) || A2) || A3) = false) : False:=by cases s1 <;> cases s2 <;> cases s3 <;> simp_all
theorem long3_4 {s1 s2 s3 A1 A2 A3 A4 : Bool} (h : ((s1 && s2) && s3) = false) : (((((((!true || !s1) || !s2) || !s3) || A1) || A2) || A3) || A4) = true:=by cases s1 <;> cases s2 <;> cases s3 <;> simp_all
theorem gi3_4 {s1 s2 s3 A1 A2 A3 A4 : Bool} (h : ((s1 && s2) && s3) = false) (g : (((((((!true || !s1) || !s2) || !s3) || A1) || A2) || A3) || A4) = false) : False:=by cases s1 <;> cases s2 <;> cases s3 <;> simp_all
theorem long3_5 {s1 s2 s3 A1 A2 A3 A4 A5 : Bool} (h : ((s1 && s2) && s3) = false) : ((((((((!true || !s1) || !s2) || !s3) || A1) || A2) || A3) || A4) || A5) = true:=by cases s1 <;> cases s2 <;> cases s3 <;> simp_all
theorem gi3_5 {s1 s2 s3 A1 A2 A3 A4 A5 : Bool} (h : ((s1 && s2) && s3) = false) (g : ((((((((!true || !s1) || !s2) || !s3) || A1) || A2) || A3) || A4) || A5) = false) : False:=by cases s1 <;> cases s2 <;> cases s3 <;> simp_all
theorem long3_6 {s1 s2 s3 A1 A2 A3 A4 A5 A6 : Bool} (h : ((s1 && s2) && s3) = false) : (((((((((!true || !s1) || !s2) || !s3) || A1) || A2) || A3) || A4) || A5) || A6) = true:=by cases s1 <;> cases s2 <;> cases s3 <;> simp_all
theorem gi3_6 {s1 s2 s3 A1 A2 A3 A4 A5 A6 : Bool} (h : ((s1 && s2) && s3) = false) (g : (((((((((!true || !s1) || !s2) || !s3) || A1) || A2) || A3) || A4) || A5) || A6) = false) : False:=by cases s1 <;> cases s2 <;> cases s3 <;> simp_all
instance AsT.qpz : AsT (FX 1 default) QP (1,0):=⟨fun h=>(Cv.fq (n:=1) (k:=1)).h ⟨by omega,rfl,rfl⟩ h⟩
instance NS.a {n : Nat} {k : Option Nat} {xs : List FR} : NS (AR n k (xs.map RX)) (AR n k (xs.map (FX 64))) (xs.all shortR = true):=⟨fun e h=>⟨ARN.convM (T:=RX) (U:=FX 64) (f:=fun r=>r) h.1 (by simp) fun x hx v G hv=>RX.toFX hv (List.all_eq_true.1 e x hx),h.2⟩⟩
attribute [local irreducible] plusF minusF joinF levI lev PW RLN tB sB timesF stepF tmF normF TOK sgL surdsF chkF gapC fullF nearF farF limL limJ limA rotF rotL rotCode clsF excF shortF
theorem w23 {n : Nat} {rg ra rb rc : FR} : Con Tryz.prog 23 [QUD n rg ra rb rc] (100 * n + 1000 ≤ BIG) (TWR (n + n) [[ra.val * rg.val],[rb.val * rc.val,0]]):=.o1 fun hok h1 hp=>by
  refine St.enter (N:=19) Tryz.func23 rfl rfl rfl hok (enter1 h1) fun a=>?_
  have hn1:=qud_pos h1
  repeat' (first | refine W.run ?_ fun a w G=>?_ | refine W.mv fun a w G=>?_ | refine W.asg fun a w G=>?_ | refine W.bx fun b a w G=>?_ | (refine W.nn hK ?_;clear hK K) | refine W.reg fun K hK=>?_ | refine W.reg1 ?_ | refine W.nl ?_ | refine W.sq fun K hK=>?_ | refine W.ds ?_ (fun β a w G hu=>W.fin ?_ hu) mixedOrders (by kernel_rfl) | refine W.sk ?_ | (refine W.kn hK ?_;clear hK K) | refine W.cd (fun hc=>?_) (fun hc=>?_) | refine W.cb (fun hc=>?_) (fun hc=>?_) | refine W.al fun b a w G=>?_ | refine W.st fun w=>?_ | refine W.stp fun w=>?_ | refine W.ste ?_ fun w=>?_ | refine W.bl ?_ | refine W.bn ?_ | refine W.ex ?_ | refine W.xt ?_ | refine W.xb ?_ | refine W.xo ?_ | refine W.rt ?_ | refine W.tr ?_ | refine W.br ?_ | refine W.rt1 rfl ?_ | refine W.rt2 rfl ?_ ?_ | refine W.rt3 rfl ?_ ?_ ?_ | clear hK K | clear hu | exact True.intro | exact Nat.le_trans (by clear hp;omega) hp | exact Nat.le_trans (by clear hp;omega) hp.1 | exact Nat.le_trans (by clear hp;omega) hp.2 | (clear hp;omega) | apply And.intro | refine GI.i fun _=>?_ | with_reducible rfl | decide | (simp only [List.length_cons,List.length_nil];omega))
  all_goals first | omega | skip
instance {n : Nat} {rg ra rb rc : FR} {τ1 : MT} [j1 : NF τ1 (QUD n rg ra rb rc)] : Con Tryz.prog 23 [τ1] (100 * n + 1000 ≤ BIG) (TWR (n + n) [[ra.val * rg.val],[rb.val * rc.val,0]]):=.o1 fun hok h1 hp=>w23.c1 hok (j1.h h1) hp
theorem w60 {n : Nat} {rg ra rb rc : FR} {k : Int} {y : Rat} [e : LitQ k y] : Con Tryz.prog 60 [QUD n rg ra rb rc,IT k] (100 * n + 2000 ≤ BIG ∧ I64 k ∧ [rg,ra,rb,rc].all posR = true) (NM (6 * n + 100) [0,limA rg ra rb rc,0,y / (ra.val * rg.val)]):=.o2 fun hok h1 h2 hp=>by
  refine St.enter (N:=38) Tryz.func60 rfl rfl rfl hok (enter2 h1 h2) fun a=>?_
  have hn1:=qud_pos h1
  repeat' (first | refine W.run ?_ fun a w G=>?_ | refine W.mv fun a w G=>?_ | refine W.asg fun a w G=>?_ | refine W.bx fun b a w G=>?_ | (refine W.nn hK ?_;clear hK K) | refine W.reg fun K hK=>?_ | refine W.reg1 ?_ | refine W.nl ?_ | refine W.sq fun K hK=>?_ | refine W.ds ?_ (fun β a w G hu=>W.fin ?_ hu) mixedOrders (by kernel_rfl) | refine W.sk ?_ | (refine W.kn hK ?_;clear hK K) | refine W.cd (fun hc=>?_) (fun hc=>?_) | refine W.cb (fun hc=>?_) (fun hc=>?_) | refine W.al fun b a w G=>?_ | refine W.st fun w=>?_ | refine W.stp fun w=>?_ | refine W.ste ?_ fun w=>?_ | refine W.bl ?_ | refine W.bn ?_ | refine W.ex ?_ | refine W.xt ?_ | refine W.xb ?_ | refine W.xo ?_ | refine W.rt ?_ | refine W.tr ?_ | refine W.br ?_ | refine W.rt1 rfl ?_ | refine W.rt2 rfl ?_ ?_ | refine W.rt3 rfl ?_ ?_ ?_ | clear hK K | clear hu | exact True.intro | exact Nat.le_trans (by clear hp;omega) hp | exact Nat.le_trans (by clear hp;omega) hp.1 | exact Nat.le_trans (by clear hp;omega) hp.2 | (clear hp;omega) | apply And.intro | refine GI.i fun _=>?_ | with_reducible rfl | decide | (simp only [List.length_cons,List.length_nil];omega))
  all_goals (have hag:=ag_ne hp.2.2)
  all_goals first
    | omega
    | exact hag.1
    | exact hag.2
    | exact hp.2.1.1
    | exact hp.2.1.2
    | (unfold limA;rfl)
    | skip
instance {n : Nat} {rg ra rb rc : FR} {k : Int} {y : Rat} [e : LitQ k y] {τ1 : MT} [j1 : NF τ1 (QUD n rg ra rb rc)] : Con Tryz.prog 60 [τ1,IT k] (100 * n + 2000 ≤ BIG ∧ I64 k ∧ [rg,ra,rb,rc].all posR = true) (NM (6 * n + 100) [0,limA rg ra rb rc,0,y / (ra.val * rg.val)]):=.o2 fun hok h1 h2 hp=>w60.c2 hok (j1.h h1) h2 hp
theorem w21 {n : Nat} {rg ra rb rc : FR} : Con Tryz.prog 21 [QUD n rg ra rb rc] (2000 * n + 300000 ≤ BIG ∧ [rg,ra,rb,rc].all posR = true) (LS none ((limJ rg ra rb rc 2).map (NM (6 * n + 100)))):=.o1 fun hok h1 hp=>by
  refine St.enter (N:=59) Tryz.func21 rfl rfl rfl hok (enter1 h1) fun a=>?_
  have hn1:=qud_pos h1
  have own34 : OwnAt 34:=⟨⟩
  have own57 : OwnAt 57:=⟨⟩
  repeat' (first | refine W.run ?_ fun a w G=>?_ | refine W.mv fun a w G=>?_ | refine W.asg fun a w G=>?_ | refine W.bx fun b a w G=>?_ | (refine W.nn hK ?_;clear hK K) | refine W.reg fun K hK=>?_ | refine W.reg1 ?_ | refine W.nl ?_ | refine W.sq fun K hK=>?_ | refine W.ds ?_ (fun β a w G hu=>W.fin ?_ hu) mixedOrders (by kernel_rfl) | refine W.sk ?_ | (refine W.kn hK ?_;clear hK K) | refine W.cd (fun hc=>?_) (fun hc=>?_) | refine W.cb (fun hc=>?_) (fun hc=>?_) | refine W.al fun b a w G=>?_ | refine W.st fun w=>?_ | refine W.stp fun w=>?_ | refine W.ste ?_ fun w=>?_ | refine W.bl ?_ | refine W.bn ?_ | refine W.ex ?_ | refine W.xt ?_ | refine W.xb ?_ | refine W.xo ?_ | refine W.rt ?_ | refine W.tr ?_ | refine W.br ?_ | refine W.rt1 rfl ?_ | refine W.rt2 rfl ?_ ?_ | refine W.rt3 rfl ?_ ?_ ?_ | refine W.ds ?_ (fun β a w G hu=>W.fing ?_) mixedOrders (by kernel_rfl) | refine W.ap (mt:=.ex (.slice none 0 0)) (T:=NM (6 * n + 100)) hO ?_ fun V own a w G hO=>?_ | refine W.ap (mt:=.ex (.slice none 0 0)) (T:=NM (6 * n + 100)) (xs:=[]) (OWNS.nil (k:=none) (e:=55)) ?_ fun V own a w G hO=>?_ | refine W.fzo (T:=NM (6 * n + 100)) 2 hO ?_ fun G=>?_ | clear hK K | clear hu | exact True.intro | exact Nat.le_trans (by clear hp;omega) hp | exact Nat.le_trans (by clear hp;omega) hp.1 | exact Nat.le_trans (by clear hp;omega) hp.2 | (clear hp;omega) | apply And.intro | refine GI.i fun _=>?_ | with_reducible rfl | decide | (simp only [List.length_cons,List.length_nil];omega))
  all_goals first
    | omega
    | exact hp.2
    | (simp only [LIM,List.length_append,List.length_cons,List.length_nil];omega)
    | (rw [← limR_eq hp.2,limR,if_pos (by assumption),if_pos (by assumption)] <;> rfl)
    | (rw [← limR_eq hp.2,limR,if_pos (by assumption),if_neg (Bool.eq_false_iff.1 (by assumption))] <;> rfl)
    | (rw [← limR_eq hp.2,limR,if_neg (Bool.eq_false_iff.1 (by assumption)),if_pos (by assumption)] <;> rfl)
    | (rw [← limR_eq hp.2,limR,if_neg (Bool.eq_false_iff.1 (by assumption)),if_neg (Bool.eq_false_iff.1 (by assumption))] <;> rfl)
    | skip
instance {n : Nat} {rg ra rb rc : FR} {τ1 : MT} [j1 : NF τ1 (QUD n rg ra rb rc)] : Con Tryz.prog 21 [τ1] (2000 * n + 300000 ≤ BIG ∧ [rg,ra,rb,rc].all posR = true) (LS none ((limJ rg ra rb rc 2).map (NM (6 * n + 100)))):=.o1 fun hok h1 hp=>w21.c1 hok (j1.h h1) hp
theorem lim_bool {l k : List (List Rat)} (e : l = k) : decide (l = k) = true:=decide_eq_true e
theorem longRotationLimits {rg ra rb rc : FR} : Con Tryz.prog 4 [PTS [(some 3,RX rg),(some 3,RX ra),(some 3,RX rb),(some 3,RX rc)]] (shortF [rg,ra,rb,rc] = false) (BT true):=.o1 fun hok h1 hp=>by
  refine St.enter (N:=76) Tryz.func4 rfl rfl rfl hok (enter1 h1) fun a=>?_
  repeat' (first | refine W.cbt (long1_0 hp) ?_ | refine W.run ?_ fun a w G=>?_ | refine W.mv fun a w G=>?_ | refine W.asg fun a w G=>?_ | refine W.bx fun b a w G=>?_ | (refine W.nn hK ?_;clear hK K) | refine W.reg fun K hK=>?_ | refine W.reg1 ?_ | refine W.nl ?_ | refine W.sq fun K hK=>?_ | refine W.ds ?_ (fun β a w G hu=>W.fin ?_ hu) mixedOrders (by kernel_rfl) | refine W.sk ?_ | (refine W.kn hK ?_;clear hK K) | refine W.cd (fun hc=>?_) (fun hc=>?_) | refine W.cb (fun hc=>?_) (fun hc=>?_) | refine W.al fun b a w G=>?_ | refine W.st fun w=>?_ | refine W.stp fun w=>?_ | refine W.ste ?_ fun w=>?_ | refine W.bl ?_ | refine W.bn ?_ | refine W.ex ?_ | refine W.xt ?_ | refine W.xb ?_ | refine W.xo ?_ | refine W.rt ?_ | refine W.tr ?_ | refine W.br ?_ | refine W.rt1 rfl ?_ | refine W.rt2 rfl ?_ ?_ | refine W.rt3 rfl ?_ ?_ ?_ | clear hK K | clear hu | exact True.intro | exact Nat.le_trans (by clear hp;omega) hp | exact Nat.le_trans (by clear hp;omega) hp.1 | exact Nat.le_trans (by clear hp;omega) hp.2 | (clear hp;omega) | apply And.intro | refine GI.i fun _=>?_ | with_reducible rfl | decide | (simp only [List.length_cons,List.length_nil];omega))
  all_goals skip
theorem shortRotationLimits {rg ra rb rc : FR} : Con Tryz.prog 4 [QUD 64 rg ra rb rc] (shortF [rg,ra,rb,rc] = true) (BT true):=.o1 fun hok h1 hp=>by
  refine St.enter (N:=76) Tryz.func4 rfl rfl rfl hok (enter1 h1) fun a=>?_
  repeat' (first | refine W.cbf (short1 hp) ?_ | refine W.run ?_ fun a w G=>?_ | refine W.mv fun a w G=>?_ | refine W.asg fun a w G=>?_ | refine W.bx fun b a w G=>?_ | (refine W.nn hK ?_;clear hK K) | refine W.reg fun K hK=>?_ | refine W.reg1 ?_ | refine W.nl ?_ | refine W.sq fun K hK=>?_ | refine W.ds ?_ (fun β a w G hu=>W.fin ?_ hu) mixedOrders (by kernel_rfl) | refine W.sk ?_ | (refine W.kn hK ?_;clear hK K) | refine W.cd (fun hc=>?_) (fun hc=>?_) | refine W.cb (fun hc=>?_) (fun hc=>?_) | refine W.al fun b a w G=>?_ | refine W.st fun w=>?_ | refine W.stp fun w=>?_ | refine W.ste ?_ fun w=>?_ | refine W.bl ?_ | refine W.bn ?_ | refine W.ex ?_ | refine W.xt ?_ | refine W.xb ?_ | refine W.xo ?_ | refine W.rt ?_ | refine W.tr ?_ | refine W.br ?_ | refine W.rt1 rfl ?_ | refine W.rt2 rfl ?_ ?_ | refine W.rt3 rfl ?_ ?_ ?_ | refine W.lp 63 (α:=Nat) (fun j=>(limL rg ra rb rc).length - j) (fun j=>j ≤ (limL rg ra rb rc).length) [2,8,62,63,64,65,66,67,68,69,70,71,72,73,74,75] (fun j=>[(62,NT j)]) (fun j=>[]) (0) ?_ ?_ ?_ fun j hj a w G=>?_ | refine W.ag (x:=j) (j+1) ?_ ?_ ?_ ?_ | clear hK K | clear hu | exact True.intro | exact Nat.le_trans (by clear hp;omega) hp | exact Nat.le_trans (by clear hp;omega) hp.1 | exact Nat.le_trans (by clear hp;omega) hp.2 | (clear hp;omega) | apply And.intro | refine GI.i fun _=>?_ | with_reducible rfl | decide | (simp only [List.length_cons,List.length_nil];omega))
  all_goals first
    | omega
    | exact chk_pos (by omega)
    | (rw [ps_bad (by assumption),limL_bad (by assumption)];simp;done)
    | (have hl2 := lim_len rg ra rb rc 2
       rw [limL_ok (by assumption)] at *
       first
       | omega
       | (exfalso;rw [ps_ok (by assumption)] at *;simp_all;done)
       | (exfalso;simp_all;done))
    | skip
theorem lawRotationLimits {rg ra rb rc : FR} {w : World} {G : Gh} {v1 : Value} (hok : Gok w G) (h1 : (PTS [(some 3,RX rg),(some 3,RX ra),(some 3,RX rb),(some 3,RX rc)]).t v1 G) : Calls Tryz.prog 4 #[v1] w (Ret w G (BT true)):=by
  cases hs : shortF [rg,ra,rb,rc] with
  | true =>
    have hq:=hs
    (try simp only [shortF,List.all_cons,List.all_nil,Bool.and_true,Bool.and_eq_true] at hq)
    exact shortRotationLimits.c1 hok (NS.h (τ':=QUD 64 rg ra rb rc) (by (try simp only [and_true,true_and]);grind) h1) hs
  | false=>exact longRotationLimits.c1 hok h1 hs
end Go.Proofs.YtlbdoeliaeennaaGreat
set_option linter.unusedVariables false
set_option linter.unusedSimpArgs false
set_option maxHeartbeats 4000000
set_option maxRecDepth 100000
set_option synthInstance.maxSize 100000
set_option synthInstance.maxHeartbeats 400000
namespace Go.Proofs.YtlbdoeliaeennaaGreat
open Go.RowKit (Below)
attribute [local irreducible] plusF minusF joinF levI lev PW RLN tB sB timesF stepF tmF normF TOK sgL surdsF chkF gapC fullF nearF farF limL limJ limA rotF rotL rotCode clsF excF shortF
def sqL (l : List FR) (j : Nat) : List Rat:=(List.range 4).map fun i=>if i < j then (l.getD i default).val * (l.getD i default).val else 0
theorem sqL_0 {l : List FR} : [0,0,0,0] = sqL l 0:=rfl
theorem sqL_len {l : List FR} {j : Nat} : (sqL l j).length = 4:=by simp [sqL]
theorem sqL_s {l : List FR} {j : Nat} (h : j < 4) : (sqL l j).set j ((l.getD j default).val * (l.getD j default).val) = sqL l (j + 1):=by
  match j,h with
  | 0,_=>rfl
  | 1,_=>rfl
  | 2,_=>rfl
  | 3,_=>rfl
theorem sqL_4 {l : List FR} {j : Nat} (h : ¬ j < 4) (i : Nat) (hi : i < 4) : (sqL l j).getD i default = (l.getD i default).val * (l.getD i default).val:=by
  have e : (sqL l j).getD i default = if i < j then (l.getD i default).val * (l.getD i default).val else 0:=by
    match i,hi with
    | 0,_=>rfl
    | 1,_=>rfl
    | 2,_=>rfl
    | 3,_=>rfl
  rw [e,if_pos (by omega)]
theorem all_pos {l : List FR} (h : l.all posR = true) {i : Nat} (hi : i < l.length) : 0 < (l.getD i default).val:=by
  rw [List.getD_eq_getElem?_getD,List.getElem?_eq_getElem hi]
  exact posR_val (List.all_eq_true.1 h _ (List.getElem_mem hi))
theorem len_goal {l : List FR} {k : Rat} {q : Nat} (hl : l.length = 4) (ha : l.all posR = true) (hq : ¬ q < 4) : nearF (FR.of ((sqL l q).getD 0 default)) (FR.of ((sqL l q).getD 1 default)) (FR.of ((sqL l q).getD 2 default)) (FR.of ((sqL l q).getD 3 default)) k = cmpQ ((sqL l q).getD 0 default + (sqL l q).getD 1 default - 2 * k * ((l.getD 0 default).val * (l.getD 1 default).val)) (((l.getD 2 default).val - (l.getD 3 default).val) * ((l.getD 2 default).val - (l.getD 3 default).val)) ∧
    farF (FR.of ((sqL l q).getD 0 default)) (FR.of ((sqL l q).getD 1 default)) (FR.of ((sqL l q).getD 2 default)) (FR.of ((sqL l q).getD 3 default)) k = cmpQ (((l.getD 2 default).val + (l.getD 3 default).val) * ((l.getD 2 default).val + (l.getD 3 default).val)) ((sqL l q).getD 0 default + (sqL l q).getD 1 default - 2 * k * ((l.getD 0 default).val * (l.getD 1 default).val)):=by
  rw [sqL_4 hq 0 (by decide),sqL_4 hq 1 (by decide),sqL_4 hq 2 (by decide),sqL_4 hq 3 (by decide)]
  exact near_len (all_pos ha (by omega)) (all_pos ha (by omega)) (all_pos ha (by omega)) (all_pos ha (by omega))
theorem longRotationLengths {l : List FR} {rk : FR} : Con Tryz.prog 5 [AR 12 (some 3) (l.map RX),RX rk] ((shortF l && shortF [rk]) = false ∧ l.length = 4) (BT true):=.o2 fun hok h1 h2 hp=>by
  refine St.enter (N:=118) Tryz.func5 rfl rfl rfl hok (enter2 h1 h2) fun a=>?_
  repeat' (first | refine W.cbt (long2_0 hp.1) ?_ | refine W.run ?_ fun a w G=>?_ | refine W.mv fun a w G=>?_ | refine W.asg fun a w G=>?_ | refine W.bx fun b a w G=>?_ | (refine W.nn hK ?_;clear hK K) | refine W.reg fun K hK=>?_ | refine W.reg1 ?_ | refine W.nl ?_ | refine W.sq fun K hK=>?_ | refine W.ds ?_ (fun β a w G hu=>W.fin ?_ hu) mixedOrders (by kernel_rfl) | refine W.sk ?_ | (refine W.kn hK ?_;clear hK K) | refine W.cd (fun hc=>?_) (fun hc=>?_) | refine W.cb (fun hc=>?_) (fun hc=>?_) | refine W.al fun b a w G=>?_ | refine W.st fun w=>?_ | refine W.stp fun w=>?_ | refine W.ste ?_ fun w=>?_ | refine W.bl ?_ | refine W.bn ?_ | refine W.ex ?_ | refine W.xt ?_ | refine W.xb ?_ | refine W.xo ?_ | refine W.rt ?_ | refine W.tr ?_ | refine W.br ?_ | refine W.rt1 rfl ?_ | refine W.rt2 rfl ?_ ?_ | refine W.rt3 rfl ?_ ?_ ?_ | clear hK K | clear hu | exact True.intro | exact Nat.le_trans (by clear hp;omega) hp | exact Nat.le_trans (by clear hp;omega) hp.1 | exact Nat.le_trans (by clear hp;omega) hp.2 | (clear hp;omega) | apply And.intro | refine GI.i fun _=>?_ | with_reducible rfl | decide | (simp only [List.length_cons,List.length_nil];omega))
  all_goals first | exact hp.2.symm | exact hp.2 | skip
theorem shortRotationLengths {l : List FR} {rk : FR} : Con Tryz.prog 5 [AR 12 (some 3) (l.map (FX 64)),FX 64 rk] ((shortF l && shortF [rk]) = true ∧ l.length = 4) (BT true):=.o2 fun hok h1 h2 hp=>by
  refine St.enter (N:=118) Tryz.func5 rfl rfl rfl hok (enter2 h1 h2) fun a=>?_
  repeat' (first | refine W.cbf (short2 hp.1) ?_ | refine W.run ?_ fun a w G=>?_ | refine W.mv fun a w G=>?_ | refine W.asg fun a w G=>?_ | refine W.bx fun b a w G=>?_ | (refine W.nn hK ?_;clear hK K) | refine W.reg fun K hK=>?_ | refine W.reg1 ?_ | refine W.nl ?_ | refine W.sq fun K hK=>?_ | refine W.ds ?_ (fun β a w G hu=>W.fin ?_ hu) mixedOrders (by kernel_rfl) | refine W.sk ?_ | (refine W.kn hK ?_;clear hK K) | refine W.cd (fun hc=>?_) (fun hc=>?_) | refine W.cb (fun hc=>?_) (fun hc=>?_) | refine W.al fun b a w G=>?_ | refine W.st fun w=>?_ | refine W.stp fun w=>?_ | refine W.ste ?_ fun w=>?_ | refine W.bl ?_ | refine W.bn ?_ | refine W.ex ?_ | refine W.xt ?_ | refine W.xb ?_ | refine W.xo ?_ | refine W.rt ?_ | refine W.tr ?_ | refine W.br ?_ | refine W.rt1 rfl ?_ | refine W.rt2 rfl ?_ ?_ | refine W.rt3 rfl ?_ ?_ ?_ | refine W.lp 32 (α:=Nat) (fun j=>4 - j) (fun j=>j ≤ 4 ∧ (l.take j).all posR = true) [4,6,31,32,33,34,35,36,37,38,39,40,41,42] (fun j=>[(31,NT j)]) (fun j=>[]) (0) ?_ ?_ ?_ fun j hj a w G=>?_ | refine W.ag (x:=j) (j+1) ?_ ?_ ?_ ?_ | refine W.lp 45 (α:=Nat) (fun q=>4 - q) (fun q=>q ≤ 4) [8,9,44,45,46,47,48,49,50,51,52,53] (fun q=>[(44,NT q)]) (fun q=>[(7,ROWS (some 3) ((sqL l q).map (QC 128)))]) (0) ?_ ?_ ?_ fun q hq a w G=>?_ | refine W.ag (x:=q) (q+1) ?_ ?_ ?_ ?_ | clear hK K | clear hu | exact True.intro | exact Nat.le_trans (by clear hp;omega) hp | exact Nat.le_trans (by clear hp;omega) hp.1 | exact Nat.le_trans (by clear hp;omega) hp.2 | (clear hp;omega) | apply And.intro | refine GI.i fun _=>?_ | with_reducible rfl | decide | (simp only [List.length_cons,List.length_nil];omega))
  all_goals first
    | omega
    | rfl
    | exact all_snoc (show j < l.length by omega) hj.2 (posR_f hc)
    | exact sqL_0
    | (rw [sqL_len];omega)
    | exact sqL_s (by omega)
    | (rw [if_neg (by assumption),if_neg (by assumption)];rfl)
    | (have hal := all_end (p := posR) (show ¬ j < l.length by omega) hj.2
       have hg:=len_goal (k:=rk.val) hp.2 hal (by omega : ¬ q < 4)
       rw [if_pos (by omega),if_pos (by omega),hg.1,hg.2];simp;done)
    | skip
theorem lawRotationLengths {l : List FR} {rk : FR} {w : World} {G : Gh} {v1 v2 : Value} (hok : Gok w G) (h1 : (AR 12 (some 3) (l.map RX)).t v1 G) (h2 : (RX rk).t v2 G) (he : l.length = 4) : Calls Tryz.prog 5 #[v1,v2] w (Ret w G (BT true)):=by
  cases hs : (shortF l && shortF [rk]) with
  | true =>
    have hq:=hs
    (try simp only [shortF,List.all_cons,List.all_nil,Bool.and_true,Bool.and_eq_true] at hq)
    exact shortRotationLengths.c2 hok (NS.h (τ':=AR 12 (some 3) (l.map (FX 64))) (by (try simp only [and_true,true_and]);grind) h1) (NS.h (τ':=FX 64 rk) (by (try simp only [and_true,true_and]);grind) h2) ⟨hs,he⟩
  | false=>exact longRotationLengths.c2 hok h1 h2 ⟨hs,he⟩
instance {rg ra rb rc : FR} : Con Tryz.prog 37 [PTS [(some 3,RX rg),(some 3,RX ra),(some 3,RX rb),(some 3,RX rc)]] (shortF [rg,ra,rb,rc] = true) (.ex (errV 42 (chkF [rg,ra,rb,rc]))):=.o1 fun hok h1 hp=>by
  have hq:=hp
  (try simp only [shortF,List.all_cons,List.all_nil,Bool.and_true,Bool.and_eq_true] at hq)
  exact (inferInstance : Con Tryz.prog 37 [QUD 64 rg ra rb rc] _ (.ex (errV 42 (chkF [rg,ra,rb,rc])))).c1 hok (NS.h (τ':=QUD 64 rg ra rb rc) (by (try simp only [and_true,true_and]);grind) h1) (by decide)
theorem longRotationGrashof {rg ra rb rc : FR} : Con Tryz.prog 7 [PTS [(some 3,RX rg),(some 3,RX ra),(some 3,RX rb),(some 3,RX rc)]] (shortF [rg,ra,rb,rc] = false) (BT true):=.o1 fun hok h1 hp=>by
  refine St.enter (N:=65) Tryz.func7 rfl rfl rfl hok (enter1 h1) fun a=>?_
  repeat' (first | refine W.cbt (long1_1 hp) ?_ | refine W.run ?_ fun a w G=>?_ | refine W.mv fun a w G=>?_ | refine W.asg fun a w G=>?_ | refine W.bx fun b a w G=>?_ | (refine W.nn hK ?_;clear hK K) | refine W.reg fun K hK=>?_ | refine W.reg1 ?_ | refine W.nl ?_ | refine W.sq fun K hK=>?_ | refine W.ds ?_ (fun β a w G hu=>W.fin ?_ hu) mixedOrders (by kernel_rfl) | refine W.sk ?_ | (refine W.kn hK ?_;clear hK K) | refine W.cd (fun hc=>?_) (fun hc=>?_) | refine W.cb (fun hc=>?_) (fun hc=>?_) | refine W.al fun b a w G=>?_ | refine W.st fun w=>?_ | refine W.stp fun w=>?_ | refine W.ste ?_ fun w=>?_ | refine W.bl ?_ | refine W.bn ?_ | refine W.ex ?_ | refine W.xt ?_ | refine W.xb ?_ | refine W.xo ?_ | refine W.rt ?_ | refine W.tr ?_ | refine W.br ?_ | refine W.rt1 rfl ?_ | refine W.rt2 rfl ?_ ?_ | refine W.rt3 rfl ?_ ?_ ?_ | clear hK K | clear hu | exact True.intro | exact Nat.le_trans (by clear hp;omega) hp | exact Nat.le_trans (by clear hp;omega) hp.1 | exact Nat.le_trans (by clear hp;omega) hp.2 | (clear hp;omega) | apply And.intro | refine GI.i fun _=>?_ | with_reducible rfl | decide | (simp only [List.length_cons,List.length_nil];omega))
  all_goals first | exact (gi1_0 hp (by assumption)).elim | skip
theorem shortRotationGrashof {rg ra rb rc : FR} : Con Tryz.prog 7 [QUD 64 rg ra rb rc] (shortF [rg,ra,rb,rc] = true) (BT true):=.o1 fun hok h1 hp=>by
  refine St.enter (N:=65) Tryz.func7 rfl rfl rfl hok (enter1 h1) fun a=>?_
  repeat' (first | refine W.run ?_ fun a w G=>?_ | refine W.mv fun a w G=>?_ | refine W.asg fun a w G=>?_ | refine W.bx fun b a w G=>?_ | (refine W.nn hK ?_;clear hK K) | refine W.reg fun K hK=>?_ | refine W.reg1 ?_ | refine W.nl ?_ | refine W.sq fun K hK=>?_ | refine W.ds ?_ (fun β a w G hu=>W.fin ?_ hu) mixedOrders (by kernel_rfl) | refine W.sk ?_ | (refine W.kn hK ?_;clear hK K) | refine W.cd (fun hc=>?_) (fun hc=>?_) | refine W.cb (fun hc=>?_) (fun hc=>?_) | refine W.al fun b a w G=>?_ | refine W.st fun w=>?_ | refine W.stp fun w=>?_ | refine W.ste ?_ fun w=>?_ | refine W.bl ?_ | refine W.bn ?_ | refine W.ex ?_ | refine W.xt ?_ | refine W.xb ?_ | refine W.xo ?_ | refine W.rt ?_ | refine W.tr ?_ | refine W.br ?_ | refine W.rt1 rfl ?_ | refine W.rt2 rfl ?_ ?_ | refine W.rt3 rfl ?_ ?_ ?_ | clear hK K | clear hu | exact True.intro | exact Nat.le_trans (by clear hp;omega) hp | exact Nat.le_trans (by clear hp;omega) hp.1 | exact Nat.le_trans (by clear hp;omega) hp.2 | (clear hp;omega) | apply And.intro | refine GI.i fun _=>?_ | with_reducible rfl | decide | (simp only [List.length_cons,List.length_nil];omega))
  all_goals first
    | omega
    | exact hp
    | (have h0 : chkF [rg, ra, rb, rc] = 0 := Classical.not_not.1 (gd1 (by assumption))
       have e1 : rotCode [rg,ra,rb,rc] 1 = 0:=rotC_ok (by omega) (by decide)
       have e2 : rotF [rg,ra,rb,rc] 1 = fullF rg ra rb rc:=by rw [rotF_ok (by omega) (by decide),full_rotL h0];rfl
       first
       | exact (full_cls h0).1 (by simpa using hc)
       | (rcases (full_cls h0).2 (by simpa using hc) with e | e <;> rw [e] <;> simp;done)
       | (exfalso;rw [h0,e1,e2] at hc;simp at hc;done))
    | skip
theorem lawRotationGrashof {rg ra rb rc : FR} {w : World} {G : Gh} {v1 : Value} (hok : Gok w G) (h1 : (PTS [(some 3,RX rg),(some 3,RX ra),(some 3,RX rb),(some 3,RX rc)]).t v1 G) : Calls Tryz.prog 7 #[v1] w (Ret w G (BT true)):=by
  cases hs : shortF [rg,ra,rb,rc] with
  | true =>
    have hq:=hs
    (try simp only [shortF,List.all_cons,List.all_nil,Bool.and_true,Bool.and_eq_true] at hq)
    exact shortRotationGrashof.c1 hok (NS.h (τ':=QUD 64 rg ra rb rc) (by (try simp only [and_true,true_and]);grind) h1) hs
  | false=>exact longRotationGrashof.c1 hok h1 hs
end Go.Proofs.YtlbdoeliaeennaaGreat
namespace Go.Proofs.YtlbdoeliaeennaaGreat
open Go.RowKit (Below)
def G0of (W : World) : Gh:=fun b=>W.heap[b]?
theorem G0of_ok (W : World) : Gok W (G0of W):=fun _ _ h=>h
theorem Gc_G0 {W : World} {b i : Nat} : Gc (G0of W) b i = W.cell? ⟨b,i,none⟩:=by
  unfold Gc G0of World.cell?;cases W.heap[b]? with
  | none=>rfl
  | some o=>cases o <;> rfl
def RdA (P : Program) (W : World) (t : TypeId) (k : Option Nat) (A : MT → Prop) : Prop:=∀ (H : Type) (enc : TypeId × Value → H) (fuel : Nat) (cs : List Value) (x : DataW H × List MemPlace),
  DataW.trod enc P W 0 (fun _=>true) true fuel t cs = some x → (x.1.weights P t).all (· ≤ reachBytes) = true → ∃ (v : Value) (τ : MT),A τ ∧ v.cells.toList = cs ∧ Shaped k v ∧ τ.t v (G0of W)
section
variable {P : Program} {W : World} {t e : TypeId} {k : Option Nat} {A A' : MT → Prop}
theorem RdA.mono (h : RdA P W t k A) (hA : ∀ τ v,A τ → τ.t v (G0of W) → ∃ σ,A' σ ∧ σ.t v (G0of W)) : RdA P W t k A':=fun H enc fuel cs x hx hw=>by
  obtain ⟨v,τ,h1,h2,h3,h4⟩:=h H enc fuel cs x hx hw
  obtain ⟨σ,h5,h6⟩:=hA τ v h1 h4
  exact ⟨v,σ,h5,h2,h3,h6⟩
theorem rd_bool (ht : P.underlying t = some .bool) : RdA P W t none (fun τ=>∃ b,τ = .ex (.bool b)):=fun H enc fuel cs x hx hw=>by
  obtain ⟨b,rfl,rfl⟩:=DataW.trod_bool ht hx
  exact ⟨.bool b,_,⟨b,rfl⟩,rfl,⟨rfl,rfl⟩,rfl⟩
theorem rd_int {kk : IntKind} (ht : P.underlying t = some (.int kk)) : RdA P W t none (fun τ=>∃ z,(Lit.int kk z).wf = true ∧ τ = .ex (.int kk z)):=fun H enc fuel cs x hx hw=>by
  obtain ⟨z,rfl,rfl,h⟩:=DataW.trod_int ht hx
  exact ⟨.int kk z,_,⟨z,h,rfl⟩,rfl,⟨rfl,rfl⟩,rfl⟩
theorem rd_i64 (ht : P.underlying t = some (.int .i64)) : RdA P W t none (fun τ=>∃ z : Int,τ = .ex (.int .i64 z)):=(rd_int ht).mono fun τ v ⟨z,_,e⟩ hv=>⟨τ,⟨z,e⟩,hv⟩
theorem rd_u8 (ht : P.underlying t = some (.int .u8)) : RdA P W t none (fun τ=>∃ z : Fin 256,τ = .ex (.int .u8 ((z.val : Nat) : Int))):=(rd_int ht).mono fun τ v ⟨z,hz,e⟩ hv=>by
  have h0 : (0 : Int) ≤ z:=of_decide_eq_true (Bool.and_eq_true_iff.1 hz).1
  have h1 : z ≤ 255:=of_decide_eq_true (Bool.and_eq_true_iff.1 hz).2
  refine ⟨τ,⟨⟨z.toNat,by omega⟩,?_⟩,hv⟩
  rw [e];show _ = MT.ex (.int .u8 ((z.toNat : Nat) : Int));rw [Int.toNat_of_nonneg h0]
theorem cells_get {a : Addr} {n : Nat} {L : List Value} (h : W.cells? 0 a n = some L) : L.length = n ∧ ∀ j,j < n → W.cell? (a.add j) = L[j]?:=by
  unfold World.cells? at h
  rw [if_pos (Nat.zero_le _)] at h
  exact ⟨by simpa using mapM_some_length h,fun j hj=>mapM_some_get h j j (by simp [hj])⟩
theorem weightsAll_mem {H : Type} {es : List (DataW H)} {d : DataW H} {i : Nat} (hi : es[i]? = some d) : ∀ n ∈ d.weights P e,n ∈ DataW.weightsAll P e es:=by
  induction es generalizing i with
  | nil=>simp at hi
  | cons x r ih =>
    intro n hn
    rw [DataW.weightsAll,List.mem_append]
    cases i with
    | zero=>simp at hi;subst hi;exact .inl hn
    | succ j=>exact .inr (ih (by simpa using hi) n hn)
theorem rd_slice (ht : P.underlying t = some (.slice e)) (hc : P.cellsOf e = k.getD 1) (hc0 : 0 < k.getD 1) (hb : 4 ≤ P.bytesOf e) (h : RdA P W e k A) : RdA P W t none (fun τ=>∃ τs,(∀ σ ∈ τs,A σ) ∧ τ = LS k τs):=fun H enc fuel cs x hx hw=>by
  rcases DataW.trod_slice ht hx with ⟨rfl,rfl⟩ | ⟨a,len,cap,elems,rest,n,rfl,rfl,rfl,hb0,hlc,hcm,hel,hE,_,_⟩
  · exact ⟨.slice none 0 0,LS k [],⟨[],by simp,rfl⟩,rfl,⟨rfl,rfl⟩,LS.nil⟩
  · simp only [DataW.weights,ht,List.all_cons,List.all_append,Bool.and_eq_true,decide_eq_true_eq] at hw
    obtain ⟨hw1,hw2,_⟩:=hw
    have hlim : len ≤ LIM:=by
      have h1 : len * 4 ≤ ((elems.map (·.1)).length + (rest.map (·.1)).length) * P.bytesOf e:=Nat.mul_le_mul (by simp;omega) hb
      have h2 : reachBytes = 140737488351232:=rfl
      simp only [LIM];omega
    have each : ∀ i,∃ (v : Value) (τ : MT),i < len → W.cells? 0 (a.add (i * k.getD 1)) (k.getD 1) = some v.cells.toList ∧ A τ ∧ Shaped k v ∧ τ.t v (G0of W):=fun i=>by
      by_cases hi : i < len
      · have h1:=hE i hi
        rw [List.getElem?_eq_getElem (by omega),Option.bind_eq_some_iff,hc] at h1
        obtain ⟨cs',h2,h3⟩:=h1
        obtain ⟨v,τ,h4,h5,h6,h7⟩:=h H enc n cs' _ h3 (List.all_eq_true.2 fun m hm=>List.all_eq_true.1 hw2 m (weightsAll_mem (i:=i) (by rw [List.getElem?_map,List.getElem?_eq_getElem (by omega)];rfl) m hm))
        exact ⟨v,τ,fun _=>⟨by rw [h5];exact h2,h4,h6,h7⟩⟩
      · exact ⟨undef,.ex undef,fun h=>absurd h hi⟩
    obtain ⟨f,g,hfg⟩ : ∃ (f : Nat → Value) (g : Nat → MT),∀ i,i < len → W.cells? 0 (a.add (i * k.getD 1)) (k.getD 1) = some (f i).cells.toList ∧ A (g i) ∧ Shaped k (f i) ∧ (g i).t (f i) (G0of W):=⟨fun i=>(each i).choose,fun i=>(each i).choose_spec.choose,fun i=>(each i).choose_spec.choose_spec⟩
    refine ⟨.slice (some a) len cap,LS k ((List.range len).map g),⟨_,fun σ hσ=>?_,rfl⟩,rfl,⟨rfl,rfl⟩,LS.of_vals (us:=(List.range len).map f) (A:=some a) (c:=cap) (by simp) (by simpa using hlc) (by simpa using hlim) ⟨by simp,fun i τ u hi hu=>?_⟩ fun i u hu=>?_⟩
    · obtain ⟨i,hi,rfl⟩:=List.mem_map.1 hσ
      exact (hfg i (by simpa using hi)).2.1
    · have hlt : i < len:=by have:=(List.getElem?_eq_some_iff.1 hi).1;simpa using this
      simp [List.getElem?_range hlt] at hi hu
      subst hi;subst hu
      exact (hfg i hlt).2.2
    · have hlt : i < len:=by have:=(List.getElem?_eq_some_iff.1 hu).1;simpa using this
      simp [List.getElem?_range hlt] at hu
      subst hu
      obtain ⟨h1,h2,h3,h4⟩:=hfg i hlt
      obtain ⟨h5,h6⟩:=cells_get h1
      obtain ⟨g5,g6⟩:=cells_get (hfg 0 (by omega)).1
      obtain ⟨b,off,spot⟩:=a
      have h7:=g6 0 hc0
      rw [List.getElem?_eq_getElem (by omega)] at h7
      have hs : spot = none:=by simpa [Addr.add] using World.cell?_spot h7
      subst hs
      refine ⟨b,off,rfl,fun j x hj=>?_⟩
      have hjl : j < k.getD 1:=by have:=(Array.getElem?_eq_some_iff.1 hj).1;rw [← h5,Array.length_toList];exact this
      have h8:=h6 j hjl
      rw [Gc_G0]
      rw [addr_add,addr_add,Array.getElem?_toList,hj] at h8
      exact h8
theorem forall_map {α : Type} {T : α → MT} {τs : List MT} (h : ∀ σ ∈ τs,∃ x,σ = T x) : ∃ xs : List α,τs = xs.map T:=by
  induction τs with
  | nil=>exact ⟨[],rfl⟩
  | cons a r ih =>
    obtain ⟨l,rfl⟩:=ih fun σ h'=>h σ (List.mem_cons_of_mem _ h')
    obtain ⟨x,rfl⟩:=h a (List.mem_cons_self ..)
    exact ⟨x :: l,rfl⟩
theorem forall_map' {α : Type} {T : α → MT} {p : α → Prop} {τs : List MT} (h : ∀ σ ∈ τs,∃ x,p x ∧ σ = T x) : ∃ xs : List α,τs = xs.map T ∧ ∀ x ∈ xs,p x:=by
  induction τs with
  | nil=>exact ⟨[],rfl,by simp⟩
  | cons a r ih =>
    obtain ⟨l,rfl,hl⟩:=ih fun σ h'=>h σ (List.mem_cons_of_mem _ h')
    obtain ⟨x,hx,rfl⟩:=h a (List.mem_cons_self ..)
    exact ⟨x :: l,rfl,by simpa using ⟨hx,hl⟩⟩
theorem rd_words (ht : P.underlying t = some (.slice e)) (hu : P.underlying e = some (.int .u32)) (hc : P.cellsOf e = 1) (hb : 4 ≤ P.bytesOf e) : RdA P W t none (fun τ=>∃ l,τ = SL l):=by
  have h1 : RdA P W e none (fun τ=>∃ x : Nat,x < 4294967296 ∧ τ = .ex (u32 x)):=(rd_int hu).mono fun τ v ⟨z,hz,hτ⟩ hv=>by
    subst hτ
    have hm : IntKind.u32.min = 0:=by decide
    have hM : IntKind.u32.max = 4294967295:=by decide
    simp [Lit.wf,hm,hM] at hz
    exact ⟨_,⟨z.toNat,by omega,rfl⟩,by
      have : (z.toNat : Int) = z:=by omega
      show v = .int .u32 (z.toNat : Int);rw [this];exact hv⟩
  refine (rd_slice (k:=none) ht hc (by decide) hb h1).mono fun τ v ⟨τs,hσ,hτ⟩ hv=>?_
  subst hτ
  obtain ⟨l,hl,hlt⟩:=forall_map' hσ
  subst hl
  obtain ⟨A,c,us,h2,h3,h4,h5,h6⟩:=LS.vals hv
  rw [List.length_map] at h2 h3 h4
  refine ⟨_,⟨l,rfl⟩,A,c,h2,h3,h4,hlt,fun i x hi=>?_⟩
  have hil:=(List.getElem?_eq_some_iff.1 hi).1
  have hul : i < us.length:=by rw [h5.1,List.length_map];exact hil
  have hui : us[i]? = some us[i]:=by rw [List.getElem?_eq_getElem hul]
  have h7:=(h5.2 i (.ex (u32 x)) us[i] (by rw [List.getElem?_map,hi];rfl) hui).2
  obtain ⟨b,off,e1,h8⟩:=h6 i us[i] hui
  refine ⟨b,off,e1,?_⟩
  have h9 : us[i] = u32 x:=h7
  rw [h9] at h8
  simpa using h8 0 (u32 x) rfl
def FldOk (P : Program) (W : World) : Nat → List Field → List (Option Nat × (MT → Prop)) → Prop
  | _,[],[]=>True
  | off,f :: fs,a :: As=>f.offset = off ∧ P.cellsOf f.type = a.1.getD 1 ∧ RdA P W f.type a.1 a.2 ∧ FldOk P W (off + a.1.getD 1) fs As
  | _,_,_=>False
def Mt : List (Option Nat × (MT → Prop)) → List (Option Nat × MT) → Prop
  | [],[]=>True
  | a :: As,f :: F=>f.1 = a.1 ∧ a.2 f.2 ∧ Mt As F
  | _,_=>False
def tot (As : List (Option Nat × (MT → Prop))) : Nat:=(As.map fun a=>a.1.getD 1).sum
theorem Mt.tot : ∀ {As : List (Option Nat × (MT → Prop))} {F : List (Option Nat × MT)},Mt As F → (F.map fun f=>f.1.getD 1).sum = Go.Proofs.YtlbdoeliaeennaaGreat.tot As
  | [],[],_=>rfl
  | a :: As,f :: F,h=>by
    have:=Mt.tot h.2.2
    simp only [Go.Proofs.YtlbdoeliaeennaaGreat.tot,List.map_cons,List.sum_cons,h.1] at this ⊢
    rw [this]
  | [],_ :: _,h=>h.elim
  | _ :: _,[],h=>h.elim
theorem rd_fields {H : Type} {enc : TypeId × Value → H} {n : Nat} {cs : List Value} : ∀ (fs : List Field) (As : List (Option Nat × (MT → Prop))) (xs : List (DataW H × List MemPlace)) (off : Nat), FldOk P W off fs As → xs.length = fs.length →
    (∀ (i : Nat) (f : Field),fs[i]? = some f → DataW.trod enc P W 0 (fun _=>true) true n f.type ((cs.drop f.offset).take (P.cellsOf f.type)) = xs[i]?) → (DataW.weightsEach P (fs.map (·.type)) (xs.map (·.1))).all (· ≤ reachBytes) = true → cs.length = off + tot As →
    ∃ us F,Mt As F ∧ flat us = cs.drop off ∧ us.length = F.length ∧ ∀ (i : Nat) (f : Option Nat × MT) (u : Value),F[i]? = some f → us[i]? = some u → Shaped f.1 u ∧ f.2.t u (G0of W)
  | [],[],xs,off,_,_,_,_,hl=>⟨[],[],trivial,by rw [List.drop_eq_nil_of_le (by rw [hl];simp [tot])];rfl,rfl,fun i f u h=>by simp at h⟩
  | f :: fs,a :: As,[],off,_,hx,_,_,_=>by simp at hx
  | f :: fs,a :: As,x :: xs,off,hF,hx,hT,hw,hl=>by
    obtain ⟨h1,h2,h3,h4⟩:=hF
    simp only [List.map_cons,DataW.weightsEach,List.all_append,Bool.and_eq_true] at hw
    obtain ⟨v,τ,h5,h6,h7,h8⟩:=h3 H enc n _ x (hT 0 f rfl) hw.1
    obtain ⟨us,F,g1,g2,g3,g4⟩:=rd_fields fs As xs (off + a.1.getD 1) h4 (by simpa using hx) (fun i g hg=>by simpa using hT (i + 1) g (by simpa using hg)) hw.2 (by rw [hl];simp [tot];omega)
    refine ⟨v :: us,(a.1,τ) :: F,⟨rfl,h5,g1⟩,?_,by simp [g3],fun i f' u hf hu=>?_⟩
    · rw [flat_cons,h6,g2,h1,h2,← List.drop_drop,List.take_append_drop]
    · cases i with
      | zero=>simp at hf hu;subst hf;subst hu;exact ⟨h7,h8⟩
      | succ i=>exact g4 i f' u (by simpa using hf) (by simpa using hu)
  | [],_ :: _,_,_,h,_,_,_,_=>h.elim
  | _ :: _,[],_,_,h,_,_,_,_=>h.elim
theorem rd_struct {fs : Array Field} {As : List (Option Nat × (MT → Prop))} {n : Nat} (ht : P.underlying t = some (.struct fs)) (hn : P.cellsOf t = n) (hnA : tot As = n) (hF : FldOk P W 0 fs.toList As) : RdA P W t (some n) (fun τ=>∃ F,Mt As F ∧ τ = PTS F):=fun H enc fuel cs x hx hw=>by
  obtain ⟨xs,m,rfl,rfl,hl,hxl,hT⟩:=DataW.trod_struct ht hx
  simp only [DataW.weights,ht] at hw
  obtain ⟨us,F,h1,h2,h3,h4⟩:=rd_fields fs.toList As xs 0 hF (by simpa using hxl) (fun i f hf=>hT i f (by simpa using hf)) hw (by omega)
  have hP : (PTS F).t (.agg (flat us).toArray) (G0of W):=⟨us,rfl,h3,h4⟩
  refine ⟨.agg (flat us).toArray,PTS F,⟨F,h1,rfl⟩,by rw [h2];rfl,PTS.shaped (by unfold offs;rw [List.take_length,h1.tot,hnA]) hP,hP⟩
theorem shaped1 {u : Value} (h : Shaped none u) : u.cells = #[u]:=h.1
theorem PTS.toQR {s : Bool} {p q : List Nat} {v : Value} {G : Gh} (h : (PTS [(none,.ex (.bool s)),(none,SL p),(none,SL q)]).t v G) : (QR s p q).t v G:=by
  obtain ⟨us,rfl,hl,h⟩:=h
  match us,hl,h with
  | [u0,u1,u2],_,h =>
    obtain ⟨a0,b0⟩:=h 0 _ u0 rfl rfl
    obtain ⟨a1,b1⟩:=h 1 _ u1 rfl rfl
    obtain ⟨a2,b2⟩:=h 2 _ u2 rfl rfl
    refine ⟨u1,u2,?_,b1,b2⟩
    have e0 : u0 = .bool s:=b0
    simp only [flat,List.flatMap_cons,List.flatMap_nil,shaped1 a0,shaped1 a1,shaped1 a2]
    rw [e0];rfl
theorem rd_frac {fs : Array Field} {f0 f1 f2 : Field} {tw : TypeId} (ht : P.underlying t = some (.struct fs)) (hf : fs.toList = [f0, f1, f2]) (hn : P.cellsOf t = 3) (h0 : f0.offset = 0 ∧ P.cellsOf f0.type = 1 ∧ P.underlying f0.type = some .bool) (h1 : f1.offset = 1 ∧ f1.type = tw) (h2 : f2.offset = 2 ∧ f2.type = tw)
    (hw : P.underlying tw = some (.slice e) ∧ P.cellsOf tw = 1) (he : P.underlying e = some (.int .u32) ∧ P.cellsOf e = 1 ∧ 4 ≤ P.bytesOf e) : RdA P W t (some 3) (fun τ=>∃ r : FR,τ = QR r.s r.p r.q):=by
  have hW : RdA P W tw none (fun τ=>∃ l,τ = SL l):=rd_words hw.1 he.1 he.2.1 he.2.2
  refine (rd_struct (As:=[(none,fun τ=>∃ b,τ = .ex (.bool b)),(none,fun τ=>∃ l,τ = SL l),(none,fun τ=>∃ l,τ = SL l)]) ht hn rfl (by
    rw [hf];exact ⟨h0.1,h0.2.1,rd_bool h0.2.2,h1.1,by rw [h1.2];exact hw.2,by rw [h1.2];exact hW,h2.1,by rw [h2.2];exact hw.2,by rw [h2.2];exact hW,trivial⟩)).mono fun τ v ⟨F,hM,hτ⟩ hv=>?_
  subst hτ
  match F,hM with
  | [a,b,c],⟨a1,⟨s,a2⟩,b1,⟨p,b2⟩,c1,⟨q,c2⟩,_⟩ =>
    obtain ⟨a0,a'⟩:=a;obtain ⟨b0,b'⟩:=b;obtain ⟨c0,c'⟩:=c
    simp only at a1 a2 b1 b2 c1 c2
    subst a1;subst a2;subst b1;subst b2;subst c1;subst c2
    exact ⟨_,⟨⟨s,p,q⟩,rfl⟩,PTS.toQR hv⟩
theorem rd_list {α : Type} {T : α → MT} (ht : P.underlying t = some (.slice e)) (hc : P.cellsOf e = k.getD 1) (hc0 : 0 < k.getD 1) (hb : 4 ≤ P.bytesOf e) (h : RdA P W e k (fun τ=>∃ x,τ = T x)) : RdA P W t none (fun τ=>∃ xs : List α,τ = LS k (xs.map T)) :=
  (rd_slice ht hc hc0 hb h).mono fun τ v ⟨τs,hσ,hτ⟩ hv=>by
    obtain ⟨xs,rfl⟩:=forall_map hσ
    subst hτ
    exact ⟨_,⟨xs,rfl⟩,hv⟩
theorem rd_arg {H : Type} {enc : TypeId × Value → H} {v : Value} {d : DataW H} {ps : List MemPlace} (h : RdA P W t k A) (hd : DataW.Trod enc P W 0 (fun _ => true) true t v d ps) (hw : (d.weights P t).all (· ≤ reachBytes) = true)
    (hv : match k with | none=>v.cells = #[v] | some _=>∃ cs,v = .agg cs) : ∃ τ,A τ ∧ Shaped k v ∧ τ.t v (G0of W):=by
  obtain ⟨fuel,hf⟩:=hd
  obtain ⟨u,τ,h1,h2,h3,h4⟩:=h H enc fuel _ _ hf hw
  have : u = v:=by
    cases k with
    | none =>
      have h5 : u.cells = #[u]:=h3.1
      rw [h5,hv] at h2
      simpa using h2
    | some n =>
      obtain ⟨cs,rfl⟩:=hv
      obtain ⟨cs',rfl,_⟩:=h3
      have : cs'.toList = cs.toList:=h2
      rw [Array.toList_inj.1 this]
  subst this
  exact ⟨τ,h1,h3,h4⟩
end
end Go.Proofs.YtlbdoeliaeennaaGreat
