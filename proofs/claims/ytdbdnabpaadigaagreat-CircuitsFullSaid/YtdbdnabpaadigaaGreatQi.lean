import Derived.Test.YtdbdnabpaadigaaGreatQh
set_option linter.unusedVariables false
set_option linter.unusedSimpArgs false
set_option linter.unusedVariables false
set_option linter.unusedSimpArgs false
namespace Go.Proofs.YtdbdnabpaadigaaGreat
theorem nf_sumF {x : Rat} {u v : RR} {k : Rat} : nearR x u v k + nearR (-x) u v (-k) = RR.of 4 * v:=by
  unfold nearR
  obtain ⟨f,hf,rfl⟩:=RR.rep u;obtain ⟨g,hg,rfl⟩:=RR.rep v
  exact RR.ext fun n=>by grind
theorem nf_oneF {G A B C : FR} (hp : [G,A,B,C].all posR = true) {k : Rat} : ¬ (nearF G A B C k ≤ 0 ∧ farF G A B C k ≤ 0):=by
  rintro ⟨h1,h2⟩
  rw [near_R hp] at h1
  rw [far_R hp] at h2
  have hs:=nf_sumF (x:=G.val + A.val - (B.val + C.val)) (u:=rt (A.val * G.val)) (v:=rt (B.val * C.val)) (k:=k)
  have hb : 0 < B.val * C.val:=by
    simp only [List.all_cons,List.all_nil,Bool.and_true,Bool.and_eq_true] at hp
    exact Rat.mul_pos (posR_val hp.2.2.1) (posR_val hp.2.2.2)
  have hpos : 0 < RR.of 4 * rt (B.val * C.val):=RR.mul_pos (RR.of_lt (p:=0) |>.2 (by decide)) (rt_pos hb)
  rw [← hs] at hpos
  have n1 : ∀ x : RR,sgR x ≤ 0 → 0 ≤ -x:=fun x hx=>by
    rw [← sgR_nn,sgR_negate];omega
  have e:=RR.add_nn (n1 _ h1) (n1 _ h2)
  generalize nearR (G.val + A.val - (B.val + C.val)) (rt (A.val * G.val)) (rt (B.val * C.val)) k = X at *
  generalize nearR (-(G.val + A.val - (B.val + C.val))) (rt (A.val * G.val)) (rt (B.val * C.val)) (-k) = Y at *
  have e2 : -X + -Y = -(X + Y):=by obtain ⟨f,hf,rfl⟩:=RR.rep X;obtain ⟨f1,hf1,rfl⟩:=RR.rep Y;exact RR.ext fun n=>by grind
  rw [e2] at e
  have h5:=sgR_pos hpos
  have h6:=sgR_nn.2 e
  rw [sgR_negate] at h6
  omega
theorem nf_bd {G A B C : FR} (hp : [G,A,B,C].all posR = true) {k : Rat} : (nearF G A B C k = -1 ∨ nearF G A B C k = 0 ∨ nearF G A B C k = 1) ∧ (farF G A B C k = -1 ∨ farF G A B C k = 0 ∨ farF G A B C k = 1):=by
  rw [near_R hp,far_R hp]
  constructor
  · rcases sgR_cases (nearR (G.val + A.val - (B.val + C.val)) (rt (A.val * G.val)) (rt (B.val * C.val)) k) with ⟨_,e⟩ | ⟨_,e⟩ | ⟨_,e⟩ <;> omega
  · rcases sgR_cases (nearR (-(G.val + A.val - (B.val + C.val))) (rt (A.val * G.val)) (rt (B.val * C.val)) (-k)) with ⟨_,e⟩ | ⟨_,e⟩ | ⟨_,e⟩ <;> omega
section
variable {g a b c : FR}
abbrev qN (g a b c : FR) (k : Rat) : Int:=nearF (FR.of (g.val * g.val)) (FR.of (a.val * a.val)) (FR.of b.val) (FR.of c.val) k
abbrev qF (g a b c : FR) (k : Rat) : Int:=farF (FR.of (g.val * g.val)) (FR.of (a.val * a.val)) (FR.of b.val) (FR.of c.val) k
theorem ci_parts (h : ciF g a b c = 0) : [g,a,b,c].all posR = true ∧ chkF (sqF g a b c) = 0 ∧ ¬ (g.val = a.val ∧ b.val = c.val):=by
  unfold ciF at h
  split at h
  · rename_i hb
    split at h
    · rename_i hk
      split at h
      · omega
      · rename_i hn;exact ⟨bar_pos hb,hk,hn⟩
    · omega
  · omega
theorem dirC_0 : dirC false zFR.val = 1:=by decide +kernel
theorem dirC_1 {t : Rat} : dirC true t = -1:=if_pos rfl
theorem ends_sg (h : ciF g a b c = 0) : (dsc g a b c false zFR.val).num.sign = qN g a b c 1 * qF g a b c 1 ∧ (dsc g a b c true zFR.val).num.sign = qN g a b c (-1) * qF g a b c (-1) ∧ 0 ≤ qF g a b c 1 ∧ 0 ≤ qN g a b c (-1):=by
  obtain ⟨hp,hk,_⟩:=ci_parts h
  have h1:=dsc_sg hp (h:=false) (t:=zFR.val)
  have h2:=dsc_sg hp (h:=true) (t:=zFR.val)
  rw [dirC_0] at h1
  rw [dirC_1] at h2
  have h3:=near_far_ok hk
  exact ⟨h1,h2,h3.2,h3.1⟩
theorem sg4_key {N1 F1 N2 F2 : Int} (h1 : N1 = -1 ∨ N1 = 0 ∨ N1 = 1) (h2 : F1 = -1 ∨ F1 = 0 ∨ F1 = 1) (h3 : N2 = -1 ∨ N2 = 0 ∨ N2 = 1) (h4 : F2 = -1 ∨ F2 = 0 ∨ F2 = 1) (e3 : 0 ≤ F1) (e4 : 0 ≤ N2) (o1 : ¬ (N1 ≤ 0 ∧ F1 ≤ 0)) (o2 : ¬ (N2 ≤ 0 ∧ F2 ≤ 0)) : (N1 * F1 ≥ 0 ∧ N2 * F2 ≥ 0) ↔ (N1 ≥ 0 ∧ F2 ≥ 0):=by
  rcases h1 with rfl | rfl | rfl <;> rcases h2 with rfl | rfl | rfl <;> rcases h3 with rfl | rfl | rfl <;> rcases h4 with rfl | rfl | rfl <;> omega
theorem full_c (h : ciF g a b c = 0) : fullF (FR.of (g.val * g.val)) (FR.of (a.val * a.val)) (FR.of b.val) (FR.of c.val) = decide ((dsc g a b c false zFR.val).num.sign ≥ 0 ∧ (dsc g a b c true zFR.val).num.sign ≥ 0):=by
  obtain ⟨hp,hk,_⟩:=ci_parts h
  obtain ⟨e1,e2,e3,e4⟩:=ends_sg h
  have hs:=sqF_pos hp
  have b1:=nf_bd hs (k:=1);have b2:=nf_bd hs (k:=-1)
  have o1:=nf_oneF hs (k:=1);have o2:=nf_oneF hs (k:=-1)
  rw [full_ok (show ¬ chkF [FR.of (g.val * g.val),FR.of (a.val * a.val),FR.of b.val,FR.of c.val] ≠ 0 from fun e=>e hk),e1,e2]
  have key:=sg4_key b1.1 b1.2 b2.1 b2.2 e3 e4 o1 o2
  rw [decide_eq_decide.2 key,Bool.decide_and]
theorem cir_full (h : ciF g a b c = 0) {j : Nat} (hj : j < (cirs g a b c).length) : ((cirs g a b c).getD j default).1 = fullF (FR.of (g.val * g.val)) (FR.of (a.val * a.val)) (FR.of b.val) (FR.of c.val):=by
  rw [full_c h]
  have e : cirs g a b c = cirF (dsc g a b c false zFR.val).num.sign (dsc g a b c true zFR.val).num.sign:=by rw [cirs_ok h,← enR_ok h,← enL_ok h]
  rw [e] at hj ⊢
  generalize (dsc g a b c false zFR.val).num.sign = r at *
  generalize (dsc g a b c true zFR.val).num.sign = l at *
  unfold cirF at *
  split
  · rename_i h1
    rw [if_pos h1] at hj
    rw [decide_eq_true (show r ≥ 0 ∧ l ≥ 0 by omega)]
    match j,hj with
    | 0,_=>rfl
    | 1,_=>rfl
  · rename_i h1
    rw [if_neg h1] at hj
    split
    · rename_i h2
      rw [if_pos h2] at hj
      rw [decide_eq_true h2]
      match j,hj with
      | 0,_=>rfl
    · rename_i h2
      rw [if_neg h2] at hj
      rw [decide_eq_false h2]
      split
      · rename_i h3
        rw [if_pos h3] at hj
        match j,hj with
        | 0,_=>rfl
      · rename_i h3
        rw [if_neg h3] at hj
        match j,hj with
        | 0,_=>rfl
        | 1,_=>rfl
theorem cirs_ne (h : ciF g a b c = 0) : (cirs g a b c).length ≠ 0:=by
  have e : cirs g a b c = cirF (dsc g a b c false zFR.val).num.sign (dsc g a b c true zFR.val).num.sign:=by rw [cirs_ok h,← enR_ok h,← enL_ok h]
  rw [e]
  unfold cirF
  split
  · decide
  · split
    · decide
    · split <;> decide
def fndF (g a b c : FR) (h : Bool) (t : FR) (j q : Nat) : Bool:=(List.range q).any fun p=>decide (ofC g a b c h t ((p : Int) - 1) = 0) && decide (ofI g a b c h t ((p : Int) - 1) = ((j : Nat) : Int))
theorem fnd_0 {h : Bool} {t : FR} {j : Nat} : false = fndF g a b c h t j 0:=rfl
theorem fnd_s {h : Bool} {t : FR} {j q : Nat} : (fndF g a b c h t j q || (decide (ofC g a b c h t ((q : Int) - 1) = 0) && decide (ofI g a b c h t ((q : Int) - 1) = ((j : Nat) : Int)))) = fndF g a b c h t j (q + 1):=by
  unfold fndF;rw [List.range_succ,List.any_append];simp
theorem dsc_full (h : ciF g a b c = 0) (hf : fullF (FR.of (g.val * g.val)) (FR.of (a.val * a.val)) (FR.of b.val) (FR.of c.val) = true) {hh : Bool} {t : Rat} : 0 ≤ qN g a b c (dirC hh t) ∧ 0 ≤ qF g a b c (dirC hh t) ∧ qN g a b c 1 ≤ qN g a b c (dirC hh t) ∧ qF g a b c (-1) ≤ qF g a b c (dirC hh t):=by
  obtain ⟨hp,hk,_⟩:=ci_parts h
  have hs:=sqF_pos hp
  have hr:=dir_rng (h:=hh) (t:=t)
  rw [full_ok (show ¬ chkF [FR.of (g.val * g.val),FR.of (a.val * a.val),FR.of b.val,FR.of c.val] ≠ 0 from fun e=>e hk),Bool.and_eq_true,decide_eq_true_eq,decide_eq_true_eq] at hf
  have h1 : qN g a b c 1 ≤ qN g a b c (dirC hh t):=near_anti hs hr.2
  have h2 : qF g a b c (-1) ≤ qF g a b c (dirC hh t):=far_mono hs hr.1
  unfold qN qF at *
  omega
theorem exC_full (h : ciF g a b c = 0) (hf : fullF (FR.of (g.val * g.val)) (FR.of (a.val * a.val)) (FR.of b.val) (FR.of c.val) = true) {hh : Bool} {t : FR} {m : Int} (hm : (dsc g a b c hh t.val).num.sign = 0 ↔ m = 0) : exC g a b c hh t m = 0:=by
  obtain ⟨hp,hk,hn⟩:=ci_parts h
  have hd:=dsc_full h hf (hh:=hh) (t:=t.val)
  have hs:=dsc_sg hp (h:=hh) (t:=t.val)
  have h0 : ¬ (dsc g a b c hh t.val).num.sign < 0:=by
    rw [hs];have:=Int.mul_nonneg hd.1 hd.2.1;unfold qN qF at this;omega
  unfold exC exK
  rw [decide_eq_false h0,show decide ((dsc g a b c hh t.val).num.sign = 0) = decide (m = 0) from decide_eq_decide.2 hm]
  by_cases hA : cmpQ (a.val * dirC hh t.val) g.val = 0
  · by_cases hB : (a.val * dirS hh t.val).num.sign = 0
    · exfalso
      have hA':=cmpQ_eq0.1 hA
      have hB' : a.val * dirS hh t.val = 0:=Rat.num_eq_zero.1 (Int.sign_eq_zero_iff_zero.1 hB)
      have hd2 : d2F (wayX g.val a.val hh t.val) (wayY a.val hh t.val) = 0:=by
        unfold d2F wayX wayY;rw [hA',hB'];grind
      simp only [List.all_cons,List.all_nil,Bool.and_true,Bool.and_eq_true] at hp
      have pg:=posR_val hp.1;have pa:=posR_val hp.2.1
      rw [way_cos] at hd2
      have hr:=dir_rng (h:=hh) (t:=t.val)
      have hbc : b.val = c.val:=by
        have e : dsc g a b c hh t.val = -((b.val - c.val) * (b.val - c.val)):=by
          unfold dsc discF;rw [way_cos,hd2];grind
        rw [e] at h0
        apply Classical.byContradiction
        intro hne
        apply h0
        refine (num_sg _).2.2.2 ?_
        have : 0 < (b.val - c.val) * (b.val - c.val):=by
          rcases show b.val - c.val < 0 ∨ b.val - c.val = 0 ∨ 0 < b.val - c.val by grind with k | k | k
          · have:=Rat.mul_pos (show 0 < -(b.val - c.val) by grind) (show 0 < -(b.val - c.val) by grind);grind
          · exact absurd (by grind) hne
          · exact Rat.mul_pos k k
        grind
      have hga : g.val = a.val:=by
        generalize dirC hh t.val = x at *
        have hx : x = 1:=by
          apply Classical.byContradiction
          intro hne
          have h1:=Rat.mul_pos (show 0 < 1 - x by grind) (Rat.mul_pos pg pa)
          have h2 : 0 ≤ (g.val - a.val) * (g.val - a.val):=by
            rcases Rat.le_total (a:=g.val) (b:=a.val) with k | k
            · have:=Rat.mul_nonneg (show 0 ≤ a.val - g.val by grind) (show 0 ≤ a.val - g.val by grind);grind
            · exact Rat.mul_nonneg (show 0 ≤ g.val - a.val by grind) (show 0 ≤ g.val - a.val by grind)
          grind
        rw [hx] at hA';grind
      exact hn ⟨hga,hbc⟩
    · rw [decide_eq_false hB];simp
  · rw [decide_eq_false hA];simp
theorem of_full (h : ciF g a b c = 0) {hh : Bool} {t : FR} (ht : trnF hh t = true) {m : Int} (h1 : -1 ≤ m ∧ m ≤ 1) (he : exC g a b c hh t m = 0) : ofC g a b c hh t m = 0:=by
  unfold ofC;rw [if_pos h,if_pos ht,if_neg (by omega),he]
theorem fnd_at {h : Bool} {t : FR} {j p : Nat} (hp : p < 3) (h1 : ofC g a b c h t ((p : Int) - 1) = 0) (h2 : ofI g a b c h t ((p : Int) - 1) = ((j : Nat) : Int)) : fndF g a b c h t j 3 = true:=by
  unfold fndF
  rw [List.any_eq_true]
  exact ⟨p,List.mem_range.2 hp,by rw [decide_eq_true h1,decide_eq_true h2];rfl⟩
theorem fnd_full (h : ciF g a b c = 0) (hf : fullF (FR.of (g.val * g.val)) (FR.of (a.val * a.val)) (FR.of b.val) (FR.of c.val) = true) {hh : Bool} {t : FR} (ht : trnF hh t = true) {j : Nat} (hj : j < (cirs g a b c).length) : fndF g a b c hh t j 3 = true:=by
  have hd:=dsc_full h hf (hh:=hh) (t:=t.val)
  obtain ⟨hp,_,_⟩:=ci_parts h
  have hs:=dsc_sg hp (h:=hh) (t:=t.val)
  have hq:=full_c h
  rw [hf] at hq
  have hq:=of_decide_eq_true hq.symm
  have e : cirs g a b c = cirF (dsc g a b c false zFR.val).num.sign (dsc g a b c true zFR.val).num.sign:=by rw [cirs_ok h,← enR_ok h,← enL_ok h]
  by_cases hgt : (dsc g a b c false zFR.val).num.sign > 0 ∧ (dsc g a b c true zFR.val).num.sign > 0
  · have ec : cirs g a b c = [(true,false,1),(true,false,-1)]:=by rw [e];unfold cirF;rw [if_pos hgt]
    have hz : (dsc g a b c hh t.val).num.sign ≠ 0:=by
      obtain ⟨e1,e2,e3,e4⟩:=ends_sg h
      have b1:=nf_bd (sqF_pos hp) (k:=1);have b2:=nf_bd (sqF_pos hp) (k:=-1)
      rw [e1,e2] at hgt
      have k1 : 0 < qN g a b c 1:=Classical.byContradiction fun hn=>by
        have : qN g a b c 1 * qF g a b c 1 ≤ 0:=Int.mul_nonpos_of_nonpos_of_nonneg (by omega) e3
        omega
      have k2 : 0 < qF g a b c (-1):=Classical.byContradiction fun hn=>by
        have : qN g a b c (-1) * qF g a b c (-1) ≤ 0:=Int.mul_nonpos_of_nonneg_of_nonpos e4 (by omega)
        omega
      have : 0 < qN g a b c (dirC hh t.val) * qF g a b c (dirC hh t.val):=Int.mul_pos (by omega) (by omega)
      rw [hs];unfold qN qF at this;omega
    rw [ec] at hj
    match j,hj with
    | 0,_ =>
      have ho:=of_full h ht (m:=1) (by omega) (exC_full h hf (by omega))
      refine fnd_at (p:=2) (by decide) ho ?_
      show ofI g a b c hh t 1 = 0
      unfold ofI;rw [ho,if_pos rfl,ec]
      rw [if_neg (by decide),if_neg]
      unfold ofK;simp
    | 1,_ =>
      have ho:=of_full h ht (m:=-1) (by omega) (exC_full h hf (by omega))
      refine fnd_at (p:=0) (by decide) ho ?_
      show ofI g a b c hh t (-1) = 1
      unfold ofI;rw [ho,if_pos rfl,ec]
      rw [if_neg (by decide),if_pos]
      unfold ofK;simp
  · have ec : cirs g a b c = [(true,false,0)]:=by rw [e];unfold cirF;rw [if_neg hgt,if_pos (by omega)]
    rw [ec] at hj
    match j,hj with
    | 0,_ =>
      by_cases hz : (dsc g a b c hh t.val).num.sign = 0
      · have ho:=of_full h ht (m:=0) (by omega) (exC_full h hf (by simp [hz]))
        refine fnd_at (p:=1) (by decide) ho ?_
        show ofI g a b c hh t 0 = 0
        unfold ofI;rw [ho,if_pos rfl,ec];rfl
      · have ho:=of_full h ht (m:=1) (by omega) (exC_full h hf (by simp [hz]))
        refine fnd_at (p:=2) (by decide) ho ?_
        show ofI g a b c hh t 1 = 0
        unfold ofI;rw [ho,if_pos rfl,ec];rfl
end
end Go.Proofs.YtdbdnabpaadigaaGreat
