import Derived.Test.YtnjbcjmkkejfpaaGreatDoorQDf
set_option linter.unusedVariables false
set_option linter.unusedSimpArgs false
set_option linter.unusedVariables false
set_option linter.unusedSimpArgs false
set_option maxHeartbeats 4000000
set_option maxRecDepth 100000
set_option synthInstance.maxSize 100000
set_option synthInstance.maxHeartbeats 400000
namespace Go.Proofs.YtnjbcjmkkejfpaaGreatDoor
open Go.RowKit (Below)
attribute [local irreducible] Go.Code.wp Go.wpList Go.bodyPost
private theorem gS_ {W0 : World} {G0 : Gh} {N : Nat} {L : List (Nat × MT)} {B : List BX} {a : Act} {w : World} {G : Gh} {q : Prop} (h : St W0 G0 N L B a w G → q) : St W0 G0 N L B a w G → q:=h
private theorem gL_ {p : Prop} {P : Program} {arr : Array Oper} {Q : Exit → Act → World → Prop} {l : List Oper} {a : Act} {w : World} (h : p → wpList P arr Q l a w) : p → wpList P arr Q l a w:=h
private theorem gC_ {p : Prop} {P : Program} {c : Code} {Q : Exit → Act → World → Prop} {a : Act} {w : World} (h : p → c.wp P Q a w) : p → c.wp P Q a w:=h
private theorem mixedOrders : Tryz.prog.follows .mixedOrders = true:=by kernel_rfl
attribute [local irreducible] plusF minusF joinF levI lev PW RLN
theorem PW.l32 {k : Nat} {l : List Rat} (h : PW k l) (hk : k ≤ 5) : l.length ≤ 32:=Nat.le_trans h.le (Nat.le_trans (Nat.pow_le_pow_right (by decide) hk) (by decide))
theorem nz_pos {l : List Rat} (h : zeroF l = false) : 0 < l.length:=by
  rcases Nat.eq_zero_or_pos l.length with e | e
  · rw [List.length_eq_zero_iff.1 e] at h;cases h
  · exact e
theorem PW.d0 {k : Nat} {l : List Rat} (h : PW k l) (hz : zeroF l = false) (h1 : ¬ l.length = 1) : ∃ j,j < k ∧ l.length = 2 ^ (j + 1) ∧ l.length / 2 = 2 ^ j ∧ (l.take (2 ^ j)).length = 2 ^ j ∧ (l.drop (2 ^ j)).length = 2 ^ j:=h.half (by rw [hz];decide) h1
theorem lv_facts {rs : List (List Rat)} {K : Nat} {l : List Rat} (hr : RLN rs) (hK : K ≤ rs.length) {j : Nat} (hj : j < K) (hl : l.length = 2 ^ (j + 1)) :
    0 ≤ levI l.length - 1 ∧ levI l.length - 1 < (rs.length : Int) ∧ levI l.length - 1 ≤ 9223372036854775807 - 9223372036854775700 + rs.length ∧ rs.getD (levI l.length - 1).toNat default = rs.getD (lev l.length - 1) [] ∧ rs.getD (lev l.length - 1) [] = rs.getD j []:=by
  rw [hl,levI_pow,lev_pow]
  have e : (((j + 1 : Nat) : Int) - 1).toNat = j:=by omega
  rw [e]
  exact ⟨by omega,by omega,by omega,rfl,rfl⟩
theorem PW.rt {rs : List (List Rat)} (hr : RLN rs) {j k : Nat} (hj : j < rs.length) (hk : j ≤ k) : PW k (rs.getD j []):=(PW.pow (hr.at hj)).mono hk
theorem tm_facts {kk : Nat} {rs : List (List Rat)} {l k : List Rat} (p1 : kk ≤ rs.length) (p2 : rs.length ≤ 5) (p3 : RLN rs) (p4 : PW kk l) (p5 : PW kk k) (hz : (zeroF l || zeroF k) = false) (h1 : ¬ ((l.length : Nat) : Int) = 1) (hle : k.length ≤ l.length) :
    kk ≠ 0 ∧ PW (kk - 1) (l.take (l.length / 2)) ∧ PW (kk - 1) (l.drop (l.length / 2)) ∧ (1 ≤ l.length / 2 ∧ l.length / 2 ≤ 16) ∧ (0 ≤ levI l.length - 1 ∧ levI l.length - 1 < (rs.length : Int)) ∧ (rs.getD (levI l.length - 1).toNat default = rs.getD (lev l.length - 1) [] ∧ PW (kk - 1) (rs.getD (levI l.length - 1).toNat default)) ∧
    (k.length ≤ l.length / 2 → PW (kk - 1) k) ∧ (¬ k.length ≤ l.length / 2 → PW (kk - 1) (k.take (l.length / 2)) ∧ PW (kk - 1) (k.drop (l.length / 2)) ∧ l.length / 2 ≤ k.length):=by
  rw [Bool.or_eq_false_iff] at hz
  obtain ⟨j,hj,hl,hh,hx,hy⟩:=p4.d0 hz.1 (by omega)
  obtain ⟨e1,e2,_,e3,e4⟩:=lv_facts p3 p1 hj hl
  have hp:=Nat.two_pow_pos j
  have h16 : 2 ^ j ≤ 2 ^ 4:=Nat.pow_le_pow_right (by decide) (by omega)
  have e5 : 2 ^ (j + 1) = 2 ^ j + 2 ^ j:=by rw [Nat.pow_succ];omega
  rw [hh,e3,e4]
  refine ⟨by omega,(PW.pow hx).mono (by omega),(PW.pow hy).mono (by omega),⟨by omega,by omega⟩,⟨e1,e2⟩,⟨e4.symm ▸ rfl,PW.rt p3 (by omega) (by omega)⟩,fun hb=>?_,fun hb=>?_⟩
  · obtain ⟨i,rfl⟩ : ∃ i,kk = i + 1:=⟨kk - 1,by omega⟩
    exact p5.low (Nat.le_trans hb (Nat.pow_le_pow_right (by decide) (by omega)))
  · have hk2:=p5.pos hb (by omega)
    exact ⟨(PW.pow (k:=j) (by rw [List.length_take];omega)).mono (by omega),(PW.pow (k:=j) (by rw [List.length_drop];omega)).mono (by omega),by omega⟩
theorem tB_facts {kk N r : Nat} (h : kk ≠ 0) : tB kk N r = tB (kk - 1) N r + tB (kk - 1) (tB (kk - 1) N r + r) r + 1 ∧ N ≤ tB (kk - 1) N r ∧ tB (kk - 1) N r + r ≤ tB (kk - 1) (tB (kk - 1) N r + r) r:=by
  obtain ⟨i,rfl⟩ : ∃ i,kk = i + 1:=⟨kk - 1,by omega⟩
  exact ⟨rfl,tB_le,tB_le⟩
section
variable {rs : List (List Rat)} {q : List Rat → List Rat → List Rat} {l k : List Rat}
theorem tm_ns {kk : Nat} (h : ¬ ((l.length : Nat) : Int) < k.length) : timesF rs (kk + 1) l k = stepF rs (timesF rs kk) l k:=by show (if _ then _ else _) = _;rw [if_neg (by omega)]
theorem tm_sw {kk : Nat} (h : ((l.length : Nat) : Int) < k.length) : timesF rs (kk + 1) l k = stepF rs (timesF rs kk) k l:=by show (if _ then _ else _) = _;rw [if_pos (by omega)]
theorem st_1 (h : (zeroF l || zeroF k) = true) : stepF rs q l k = []:=by unfold stepF;rw [if_pos h]
theorem st_2 (h : (zeroF l || zeroF k) = false) (h1 : ((l.length : Nat) : Int) = 1) : stepF rs q l k = [l.getD 0 default * k.getD 0 default]:=by unfold stepF;rw [if_neg (by rw [h];decide),if_pos (by omega)];rfl
theorem st_3 (h : (zeroF l || zeroF k) = false) (h1 : ¬ ((l.length : Nat) : Int) = 1) (h2 : ((k.length : Nat) : Int) ≤ ((l.length / 2 : Nat) : Int)) : stepF rs q l k = joinF (q (l.take (l.length / 2)) k) (q (l.drop (l.length / 2)) k) (l.length / 2):=by
  unfold stepF;rw [if_neg (by rw [h];decide),if_neg (by omega),if_pos (by omega)]
theorem st_4 (h : (zeroF l || zeroF k) = false) (h1 : ¬ ((l.length : Nat) : Int) = 1) (h2 : ¬ ((k.length : Nat) : Int) ≤ ((l.length / 2 : Nat) : Int)) (h3 : rs.getD (levI l.length - 1).toNat default = rs.getD (lev l.length - 1) []) :
    stepF rs q l k = joinF (plusF (q (l.take (l.length / 2)) (k.take (l.length / 2))) (q (q (l.drop (l.length / 2)) (k.drop (l.length / 2))) (rs.getD (levI l.length - 1).toNat default))) (plusF (q (l.take (l.length / 2)) (k.drop (l.length / 2))) (q (l.drop (l.length / 2)) (k.take (l.length / 2)))) (l.length / 2):=by
  rw [h3];unfold stepF;rw [if_neg (by rw [h];decide),if_neg (by omega),if_neg (by omega)]
end
theorem tmStep {kk : Nat} (ih : ∀ {n m r : Nat} {rs : List (List Rat)} {l k : List Rat},Con Tryz.prog 167 [TWR r rs,NM n l,NM m k] (kk ≠ 0 ∧ (kk - 1) ≤ rs.length ∧ rs.length ≤ 5 ∧ RLN rs ∧ PW (kk - 1) l ∧ PW (kk - 1) k ∧ 1 ≤ n ∧ 1 ≤ m ∧ 1 ≤ r ∧ tB (kk - 1) (n + m) r ≤ BIG) (NM (tB (kk - 1) (n + m) r) (timesF rs kk l k))) {n m r : Nat} {rs : List (List Rat)} {l k : List Rat} : Con Tryz.prog 167 [TWR r rs,NM n l,NM m k] (kk ≤ rs.length ∧ rs.length ≤ 5 ∧ RLN rs ∧ PW kk l ∧ PW kk k ∧ 1 ≤ n ∧ 1 ≤ m ∧ 1 ≤ r ∧ tB kk (n + m) r ≤ BIG) (NM (tB kk (n + m) r) (timesF rs (kk + 1) l k)):=.o3 fun hok h1 h2 h3 hp=>by
  refine St.enter (N:=100) Tryz.func167 rfl rfl rfl hok (enter3 h1 h2 h3) fun a=>?_
  repeat' (first|((with_reducible refine gS_ ?_);first|((with_reducible refine gL_ ?_);first|refine W.run ?_ fun a w G=>?_|refine W.mv fun a w G=>?_|refine W.asg fun a w G=>?_|refine W.bx fun b a w G=>?_|(refine W.nn hK ?_;clear hK K)|refine W.nl ?_|refine W.al fun b a w G=>?_|refine W.st fun w=>?_|refine W.stp fun w=>?_|refine W.ste ?_ fun w=>?_)|((with_reducible refine gC_ ?_);first|refine W.reg fun K hK=>?_|refine W.reg1 ?_|refine W.sq fun K hK=>?_|refine W.ds ?_ (fun β a w G hu=>W.fin ?_ hu) mixedOrders (by kernel_rfl)|refine W.sk ?_|refine W.cd (fun hc=>?_) (fun hc=>?_)|refine W.cb (fun hc=>?_) (fun hc=>?_)|refine W.bl ?_|refine W.ex ?_|refine W.rt ?_)|((with_reducible refine W.kn hK ?_);clear hK K)|(with_reducible first|refine W.bn ?_|refine W.xt ?_|refine W.xb ?_|refine W.xo ?_|refine W.tr ?_|refine W.br ?_)|refine W.rt1 rfl ?_|refine W.rt2 rfl ?_ ?_|refine W.rt3 rfl ?_ ?_ ?_)|clear hK K|clear hu|exact True.intro|exact Nat.le_trans (by clear hp;omega) hp|exact Nat.le_trans (by clear hp;omega) hp.1|exact Nat.le_trans (by clear hp;omega) hp.2|(clear hp;omega)|apply And.intro|refine GI.i fun _=>?_|with_reducible rfl|decide|(simp only [List.length_cons,List.length_nil];omega))
  all_goals obtain ⟨p1,p2,p3,p4,p5,p6,p7,p8,p9⟩:=hp
  all_goals have hN:=tB_le (r:=r) (k:=kk) (n:=n + m)
  all_goals first
    | omega
    | (have hls : ¬ ((l.length : Nat) : Int) < k.length := by assumption
       first
       | (have hz : (zeroF l || zeroF k) = true := by assumption
          rw [tm_ns (by assumption)];exact st_1 hz)
       | (have hz : (zeroF l || zeroF k) = false := by assumption
          have hz2:=hz
          rw [Bool.or_eq_false_iff] at hz2
          have z1:=nz_pos hz2.1
          have z2:=nz_pos hz2.2
          first
          | exact z1
          | exact z2
          | (have h1 : ((l.length : Nat) : Int) = 1 := by assumption
             first
             | omega
             | (rw [tm_ns (by assumption)];exact (st_2 hz h1).symm))
          | (have h1 : ¬ ((l.length : Nat) : Int) = 1 := by assumption
             have hle : k.length ≤ l.length:=by omega
             obtain ⟨f1,f2,f3,f4,f5,f6,f7,f8⟩:=tm_facts p1 p2 p3 p4 p5 hz h1 hle
             obtain ⟨g1,g2,g3⟩:=tB_facts (N:=n + m) (r:=r) f1
             have hkk : kk - 1 < kk:=by omega
             have hk5 : kk - 1 ≤ 5:=by omega
             have hkr : kk - 1 ≤ rs.length:=by omega
             first
             | omega
             | assumption
             | exact f6.2
             | (have hs : ((k.length : Nat) : Int) ≤ ((l.length / 2 : Nat) : Int) := by assumption
                have f7:=f7 (by omega)
                first
                | assumption
                | (rw [tm_ns (by assumption)];exact (st_3 hz h1 hs).symm))
             | (have hs : ¬ ((k.length : Nat) : Int) ≤ ((l.length / 2 : Nat) : Int) := by assumption
                obtain ⟨u1,u2,u3⟩:=f8 (by omega)
                have w1:=PW.tmn (m:=kk) p3 hkr hkk f2 u1
                have w2:=PW.tmn (m:=kk) p3 hkr hkk f3 u2
                have w3:=PW.tmn (m:=kk) p3 hkr hkk w2 f6.2
                have w4:=PW.tmn (m:=kk) p3 hkr hkk f2 u2
                have w5:=PW.tmn (m:=kk) p3 hkr hkk f3 u1
                have v1:=w1.l32 hk5
                have v3:=w3.l32 hk5
                have v4:=w4.l32 hk5
                have v5:=w5.l32 hk5
                first
                | omega
                | assumption
                | (rw [tm_ns (by assumption)];exact (st_4 hz h1 hs f6.1).symm))
             | (have hl32:=PW.l32 p4 (by omega);omega))))
    | (have hls : ((l.length : Nat) : Int) < k.length := by assumption
       (try simp only [Nat.add_comm n m] at *)
       first
       | (have hz : (zeroF k || zeroF l) = true := by assumption
          rw [tm_sw (by assumption)];exact st_1 hz)
       | (have hz : (zeroF k || zeroF l) = false := by assumption
          have hz2:=hz
          rw [Bool.or_eq_false_iff] at hz2
          have z1:=nz_pos hz2.1
          have z2:=nz_pos hz2.2
          first
          | exact z1
          | exact z2
          | (have h1 : ((k.length : Nat) : Int) = 1 := by assumption
             first
             | omega
             | (rw [tm_sw (by assumption)];exact (st_2 hz h1).symm))
          | (have h1 : ¬ ((k.length : Nat) : Int) = 1 := by assumption
             have hle : l.length ≤ k.length:=by omega
             obtain ⟨f1,f2,f3,f4,f5,f6,f7,f8⟩:=tm_facts p1 p2 p3 p5 p4 hz h1 hle
             obtain ⟨g1,g2,g3⟩:=tB_facts (N:=m + n) (r:=r) f1
             have hkk : kk - 1 < kk:=by omega
             have hk5 : kk - 1 ≤ 5:=by omega
             have hkr : kk - 1 ≤ rs.length:=by omega
             first
             | omega
             | assumption
             | exact f6.2
             | (have hs : ((l.length : Nat) : Int) ≤ ((k.length / 2 : Nat) : Int) := by assumption
                have f7:=f7 (by omega)
                first
                | assumption
                | (rw [tm_sw (by assumption)];exact (st_3 hz h1 hs).symm))
             | (have hs : ¬ ((l.length : Nat) : Int) ≤ ((k.length / 2 : Nat) : Int) := by assumption
                obtain ⟨u1,u2,u3⟩:=f8 (by omega)
                have w1:=PW.tmn (m:=kk) p3 hkr hkk f2 u1
                have w2:=PW.tmn (m:=kk) p3 hkr hkk f3 u2
                have w3:=PW.tmn (m:=kk) p3 hkr hkk w2 f6.2
                have w4:=PW.tmn (m:=kk) p3 hkr hkk f2 u2
                have w5:=PW.tmn (m:=kk) p3 hkr hkk f3 u1
                have v1:=w1.l32 hk5
                have v3:=w3.l32 hk5
                have v4:=w4.l32 hk5
                have v5:=w5.l32 hk5
                first
                | omega
                | assumption
                | (rw [tm_sw (by assumption)];exact (st_4 hz h1 hs f6.1).symm))
             | (have hl32:=PW.l32 p5 (by omega);omega))))
    | skip
theorem tmK : ∀ (kk : Nat) {n m r : Nat} {rs : List (List Rat)} {l k : List Rat},Con Tryz.prog 167 [TWR r rs,NM n l,NM m k] (kk ≤ rs.length ∧ rs.length ≤ 5 ∧ RLN rs ∧ PW kk l ∧ PW kk k ∧ 1 ≤ n ∧ 1 ≤ m ∧ 1 ≤ r ∧ tB kk (n + m) r ≤ BIG) (NM (tB kk (n + m) r) (timesF rs (kk + 1) l k)):=fun kk=>by
  induction kk with
  | zero=>exact tmStep (kk:=0) ⟨fun _ _ hp=>absurd rfl hp.1⟩
  | succ kk ih=>exact tmStep (kk:=kk + 1) ⟨fun hok ha hp=>ih.h hok ha hp.2⟩
def lvM (l k : List Rat) : Nat:=lev (max l.length k.length)
instance {n m r : Nat} {rs : List (List Rat)} {l k : List Rat} {τ1 : MT} [j1 : NU τ1 (TWR r rs)] {τ2 : MT} [j2 : NU τ2 (NM n l)] {τ3 : MT} [j3 : NU τ3 (NM m k)] : Con Tryz.prog 167 [τ1,τ2,τ3] (lvM l k ≤ rs.length ∧ rs.length ≤ 5 ∧ RLN rs ∧ PW (lvM l k) l ∧ PW (lvM l k) k ∧ 1 ≤ n ∧ 1 ≤ m ∧ 1 ≤ r ∧ tB (lvM l k) (n + m) r ≤ BIG) (NM (tB (lvM l k) (n + m) r) (tmF rs l k)):=.o3 fun hok h1 h2 h3 hp=>by
  have e : tmF rs l k = timesF rs (lvM l k + 1) l k:=times_fuel hp.2.2.1 (lvM l k) hp.1 _ _ (by have:=hp.1;omega) (by omega) l k hp.2.2.2.1 hp.2.2.2.2.1
  rw [e];exact (tmK (lvM l k)).c3 hok (j1.h h1) (j2.h h2) (j3.h h3) hp
end Go.Proofs.YtnjbcjmkkejfpaaGreatDoor
set_option linter.unusedVariables false
set_option linter.unusedSimpArgs false
set_option maxHeartbeats 4000000
set_option maxRecDepth 100000
set_option synthInstance.maxSize 100000
set_option synthInstance.maxHeartbeats 400000
namespace Go.Proofs.YtnjbcjmkkejfpaaGreatDoor
open Go.RowKit (Below)
attribute [local irreducible] Go.Code.wp Go.wpList Go.bodyPost
attribute [local irreducible] plusF minusF joinF levI lev PW RLN tB sB timesF stepF tmF normF shoF TOK
theorem lvM_eq {l k : List Rat} {j : Nat} (hl : l.length = 2 ^ j) (hk : k.length = 2 ^ j) : lvM l k = j:=by unfold lvM;rw [hl,hk,Nat.max_self,lev_pow]
theorem lvM_r {l k : List Rat} {j : Nat} (hl : l.length ≤ 2 ^ j) (hk : k.length = 2 ^ j) : lvM l k = j:=by unfold lvM;rw [hk,Nat.max_eq_right hl,lev_pow]
theorem nm_facts {rs : List (List Rat)} {l : List Rat} {j : Nat} (p2 : rs.length ≤ 5) (p3 : RLN rs) (hj : j < rs.length) (hl : l.length = 2 ^ (j + 1)) :
    l.length / 2 = 2 ^ j ∧ (2 ^ j ≤ 16 ∧ 1 ≤ 2 ^ j ∧ 2 ^ (j + 1) = 2 ^ j + 2 ^ j) ∧ lvM (l.take (l.length / 2)) (l.take (l.length / 2)) = j ∧ lvM (l.drop (l.length / 2)) (l.drop (l.length / 2)) = j ∧ lvM (tmF rs (l.drop (l.length / 2)) (l.drop (l.length / 2))) (rs.getD (levI l.length - 1).toNat default) = j ∧
    PW j (l.take (l.length / 2)) ∧ PW j (l.drop (l.length / 2)) ∧ PW j (tmF rs (l.drop (l.length / 2)) (l.drop (l.length / 2))) ∧ PW j (rs.getD (levI l.length - 1).toNat default) ∧ (0 ≤ levI l.length - 1 ∧ levI l.length - 1 < (rs.length : Int)) ∧ rs.getD (levI l.length - 1).toNat default = rs.getD (lev l.length - 1) [] ∧ rs.getD (lev l.length - 1) [] = rs.getD j []:=by
  obtain ⟨e1,e2,_,e3,e4⟩:=lv_facts p3 (Nat.le_refl _) hj hl
  have hp:=Nat.two_pow_pos j
  have h16 : 2 ^ j ≤ 2 ^ 4:=Nat.pow_le_pow_right (by decide) (by omega)
  have e5 : 2 ^ (j + 1) = 2 ^ j + 2 ^ j:=by rw [Nat.pow_succ];omega
  have hh : l.length / 2 = 2 ^ j:=by omega
  have hx : (l.take (2 ^ j)).length = 2 ^ j:=by rw [List.length_take];omega
  have hy : (l.drop (2 ^ j)).length = 2 ^ j:=by rw [List.length_drop];omega
  have hd:=PW.rt p3 hj (Nat.le_refl j)
  have hyy:=PW.tm p3 (by omega : j ≤ rs.length) (PW.pow hy) (PW.pow hy)
  rw [hh,e3,e4]
  exact ⟨rfl,⟨h16,hp,e5⟩,lvM_eq hx hx,lvM_eq hy hy,lvM_r hyy.le (p3.at hj),PW.pow hx,PW.pow hy,hyy,hd,⟨e1,e2⟩,e4.symm ▸ rfl,rfl⟩
theorem w134 {n r : Nat} {rs : List (List Rat)} {l : List Rat} : Con Tryz.prog 134 [TWR r rs,NM n l] (l.length = 2 ^ (lev l.length - 1 + 1) ∧ lev l.length - 1 < rs.length ∧ rs.length ≤ 5 ∧ RLN rs ∧ 1 ≤ n ∧ 1 ≤ r ∧ tB (lev l.length - 1 + 1) (n + n) r ≤ BIG) (NM (tB (lev l.length - 1 + 1) (n + n) r) (normF rs l)):=.o2 fun hok h1 h2 hp=>by
  refine St.enter (N:=36) Tryz.func134 rfl rfl rfl hok (enter2 h1 h2) fun a=>?_
  repeat' (first|((with_reducible refine gS_ ?_);first|((with_reducible refine gL_ ?_);first|refine W.run ?_ fun a w G=>?_|refine W.mv fun a w G=>?_|refine W.asg fun a w G=>?_|refine W.bx fun b a w G=>?_|(refine W.nn hK ?_;clear hK K)|refine W.nl ?_|refine W.al fun b a w G=>?_|refine W.st fun w=>?_|refine W.stp fun w=>?_|refine W.ste ?_ fun w=>?_)|((with_reducible refine gC_ ?_);first|refine W.reg fun K hK=>?_|refine W.reg1 ?_|refine W.sq fun K hK=>?_|refine W.ds ?_ (fun β a w G hu=>W.fin ?_ hu) mixedOrders (by kernel_rfl)|refine W.sk ?_|refine W.cd (fun hc=>?_) (fun hc=>?_)|refine W.cb (fun hc=>?_) (fun hc=>?_)|refine W.bl ?_|refine W.ex ?_|refine W.rt ?_)|((with_reducible refine W.kn hK ?_);clear hK K)|(with_reducible first|refine W.bn ?_|refine W.xt ?_|refine W.xb ?_|refine W.xo ?_|refine W.tr ?_|refine W.br ?_)|refine W.rt1 rfl ?_|refine W.rt2 rfl ?_ ?_|refine W.rt3 rfl ?_ ?_ ?_)|clear hK K|clear hu|exact True.intro|exact Nat.le_trans (by clear hp;omega) hp|exact Nat.le_trans (by clear hp;omega) hp.1|exact Nat.le_trans (by clear hp;omega) hp.2|(clear hp;omega)|apply And.intro|refine GI.i fun _=>?_|with_reducible rfl|decide|(simp only [List.length_cons,List.length_nil];omega))
  all_goals obtain ⟨p1,p2,p3,p4,p5,p6,p7⟩:=hp
  all_goals obtain ⟨f1,⟨f2,f3,f3'⟩,f4,f5,f6,f7,f8,f9,f10,f11,f12,f13⟩:=nm_facts p3 p4 p2 p1
  all_goals have hb : tB (lev l.length - 1 + 1) (n + n) r = tB (lev l.length - 1) (n + n) r + tB (lev l.length - 1) (tB (lev l.length - 1) (n + n) r + r) r + 1:=tB_facts (kk:=lev l.length - 1 + 1) (Nat.succ_ne_zero _) |>.1
  all_goals have hb2:=tB_le (r:=r) (k:=lev l.length - 1) (n:=n + n)
  all_goals have hb3:=tB_le (r:=r) (k:=lev l.length - 1) (n:=tB (lev l.length - 1) (n + n) r + r)
  all_goals have q1:=(PW.tm p4 (by omega) f7 f7).l32 (by omega)
  all_goals have q2:=(PW.tm p4 (by omega) f9 f10).l32 (by omega)
  all_goals have q3:=(PW.tm p4 (by omega) f9 f10).minus.l32 (by omega)
  all_goals (try simp only [f4,f5,f6])
  all_goals first
    | omega
    | assumption
    | (show _ = normF rs l;unfold normF;rw [f12])
    | skip
instance {n r : Nat} {rs : List (List Rat)} {l : List Rat} {τ1 : MT} [j1 : NU τ1 (TWR r rs)] {τ2 : MT} [j2 : NU τ2 (NM n l)] : Con Tryz.prog 134 [τ1,τ2] (l.length = 2 ^ (lev l.length - 1 + 1) ∧ lev l.length - 1 < rs.length ∧ rs.length ≤ 5 ∧ RLN rs ∧ 1 ≤ n ∧ 1 ≤ r ∧ tB (lev l.length - 1 + 1) (n + n) r ≤ BIG) (NM (tB (lev l.length - 1 + 1) (n + n) r) (normF rs l)):=.o2 fun hok h1 h2 hp=>w134.c2 hok (j1.h h1) (j2.h h2) hp
end Go.Proofs.YtnjbcjmkkejfpaaGreatDoor
set_option linter.unusedVariables false
set_option linter.unusedSimpArgs false
set_option maxHeartbeats 4000000
set_option maxRecDepth 100000
set_option synthInstance.maxSize 100000
set_option synthInstance.maxHeartbeats 400000
namespace Go.Proofs.YtnjbcjmkkejfpaaGreatDoor
open Go.RowKit (Below)
attribute [local irreducible] Go.Code.wp Go.wpList Go.bodyPost
theorem sB_s {k n r : Nat} : sB (k + 1) n r = sB k (tB (k + 1) (n + n) r) r:=rfl
attribute [local irreducible] plusF minusF joinF levI lev PW RLN tB sB timesF stepF tmF normF shoF TOK
theorem TOK.rl {rs : List (List Rat)} (h : TOK rs) : RLN rs ∧ rs.length ≤ 5:=by unfold TOK at h;exact ⟨h.2.1,h.1⟩
theorem sg_facts {kk n r : Nat} {rs : List (List Rat)} {l : List Rat} (p1 : kk ≤ rs.length) (p2 : TOK rs) (p3 : PW kk l) (p4 : 1 ≤ n) (p5 : 1 ≤ r) (p6 : sB kk (n + r) r ≤ BIG) (h0 : ¬ (((shoF l).length : Nat) : Int) = 0) (h1 : ¬ (((shoF l).length : Nat) : Int) = 1) :
    kk ≠ 0 ∧ ∃ j,j + 1 ≤ kk ∧ (shoF l).length = 2 ^ (j + 1) ∧ lev (shoF l).length - 1 = j ∧ PW (kk - 1) ((shoF l).take ((shoF l).length / 2)) ∧ PW (kk - 1) ((shoF l).drop ((shoF l).length / 2)) ∧ ((shoF l).length / 2 ≤ (shoF l).length ∧ (shoF l).length ≤ 32) ∧ (0 ≤ levI (shoF l).length - 1 ∧ levI (shoF l).length - 1 < (rs.length : Int)) ∧
    rs.getD (levI (shoF l).length - 1).toNat default = rs.getD j [] ∧ PW (kk - 1) (rs.getD j []) ∧ PW (kk - 1) (normF rs (shoF l)) ∧ tB (j + 1) (n + n) r ≤ BIG ∧ sB (kk - 1) (n + r) r ≤ BIG ∧ sB (kk - 1) (r + r) r ≤ BIG ∧ sB (kk - 1) (tB (j + 1) (n + n) r + r) r ≤ BIG ∧ 1 ≤ tB (j + 1) (n + n) r:=by
  obtain ⟨p7,p8⟩:=p2.rl
  obtain ⟨s1,s2,s3,s4⟩:=sho_ok (by omega) p3
  have hj : ∃ j,j < kk ∧ (shoF l).length = 2 ^ (j + 1):=by
    unfold PW at s2
    rcases s2 with h | ⟨i,hi,h⟩
    · omega
    · cases i with
      | zero=>simp at h;omega
      | succ j=>exact ⟨j,by omega,h⟩
  obtain ⟨j,hj,hl⟩:=hj
  obtain ⟨f1,⟨f2,f3,f3'⟩,f4,f5,f6,f7,f8,f9,f10,f11,f12,f13⟩:=nm_facts p8 p7 (by omega : j < rs.length) hl
  have hn:=norm_ok p7 (by omega : j < rs.length) hl
  obtain ⟨i,rfl⟩ : ∃ i,kk = i + 1:=⟨kk - 1,by omega⟩
  have hs : sB (i + 1) (n + r) r = sB i (tB (i + 1) (n + r + (n + r)) r) r:=sB_s
  have hle : tB (j + 1) (n + n) r + r ≤ tB (i + 1) (n + r + (n + r)) r:=by
    have h1:=tB_up (r:=r) (n:=n + n) (show j + 1 ≤ i + 1 by omega)
    have h2:=tB_add (r:=r) (k:=i + 1) (n:=n + n) (m:=r + r)
    rw [show n + n + (r + r) = n + r + (n + r) by omega] at h2
    omega
  have hbig:=tB_le (r:=r) (k:=i + 1) (n:=n + r + (n + r))
  have hS:=sB_le (r:=r) (k:=i) (n:=tB (i + 1) (n + r + (n + r)) r)
  have m1:=sB_mono (r:=r) (k:=i) hle
  have m2:=sB_mono (r:=r) (k:=i) (n:=n + r) (m:=tB (i + 1) (n + r + (n + r)) r) (by omega)
  have m3:=sB_mono (r:=r) (k:=i) (n:=r + r) (m:=tB (i + 1) (n + r + (n + r)) r) (by omega)
  have hb1:=tB_le (r:=r) (k:=j + 1) (n:=n + n)
  rw [Nat.add_sub_cancel]
  exact ⟨Nat.succ_ne_zero _,j,hj,hl,by rw [hl,lev_pow];rfl,f7.mono (by omega),f8.mono (by omega),⟨by omega,by omega⟩,f11,f12.trans f13,PW.rt p7 (by omega) (by omega),hn.2.mono (by omega),by omega,by omega,by omega,by omega,by omega⟩
theorem sg_short {kk : Nat} {rs : List (List Rat)} {l : List Rat} (p1 : kk ≤ rs.length) (p2 : TOK rs) (p3 : PW kk l) : sgL rs l = sgL rs (shoF l):=(sgL_short (by have:=p2.rl.2;omega) p3).symm
theorem sgStep {kk : Nat} (ih : ∀ {n r : Nat} {rs : List (List Rat)} {l : List Rat},Con Tryz.prog 87 [TWR r rs,NM n l] (kk ≠ 0 ∧ (kk - 1) ≤ rs.length ∧ TOK rs ∧ PW (kk - 1) l ∧ 1 ≤ n ∧ 1 ≤ r ∧ sB (kk - 1) (n + r) r ≤ BIG) (IT (sgL rs l))) {n r : Nat} {rs : List (List Rat)} {l : List Rat} : Con Tryz.prog 87 [TWR r rs,NM n l] (kk ≤ rs.length ∧ TOK rs ∧ PW kk l ∧ 1 ≤ n ∧ 1 ≤ r ∧ sB kk (n + r) r ≤ BIG) (IT (sgL rs l)):=.o2 fun hok h1 h2 hp=>by
  refine St.enter (N:=64) Tryz.func87 rfl rfl rfl hok (enter2 h1 h2) fun a=>?_
  repeat' (first|((with_reducible refine gS_ ?_);first|((with_reducible refine gL_ ?_);first|refine W.run ?_ fun a w G=>?_|refine W.mv fun a w G=>?_|refine W.asg fun a w G=>?_|refine W.bx fun b a w G=>?_|(refine W.nn hK ?_;clear hK K)|refine W.nl ?_|refine W.al fun b a w G=>?_|refine W.st fun w=>?_|refine W.stp fun w=>?_|refine W.ste ?_ fun w=>?_)|((with_reducible refine gC_ ?_);first|refine W.reg fun K hK=>?_|refine W.reg1 ?_|refine W.sq fun K hK=>?_|refine W.ds ?_ (fun β a w G hu=>W.fin ?_ hu) mixedOrders (by kernel_rfl)|refine W.sk ?_|refine W.cd (fun hc=>?_) (fun hc=>?_)|refine W.cb (fun hc=>?_) (fun hc=>?_)|refine W.bl ?_|refine W.ex ?_|refine W.rt ?_)|((with_reducible refine W.kn hK ?_);clear hK K)|(with_reducible first|refine W.bn ?_|refine W.xt ?_|refine W.xb ?_|refine W.xo ?_|refine W.tr ?_|refine W.br ?_)|refine W.rt1 rfl ?_|refine W.rt2 rfl ?_ ?_|refine W.rt3 rfl ?_ ?_ ?_)|clear hK K|clear hu|exact True.intro|exact Nat.le_trans (by clear hp;omega) hp|exact Nat.le_trans (by clear hp;omega) hp.1|exact Nat.le_trans (by clear hp;omega) hp.2|(clear hp;omega)|apply And.intro|refine GI.i fun _=>?_|with_reducible rfl|decide|(simp only [List.length_cons,List.length_nil];omega))
  all_goals obtain ⟨p1,p2,p3,p4,p5,p6⟩:=hp
  all_goals have hn:=sB_le (r:=r) (k:=kk) (n:=n + r)
  all_goals have hl32:=p3.l32 (by have:=p2.rl.2;omega)
  all_goals have e0:=sg_short p1 p2 p3
  all_goals have hsl : (shoF l).length ≤ l.length:=(sho_ok (by have:=p2.rl.2;omega) p3).2.2.2
  all_goals first
    | omega
    | (have h0 : (((shoF l).length : Nat) : Int) = 0 := by assumption
       rw [e0,List.length_eq_zero_iff.1 (show (shoF l).length = 0 by omega),sgL_nil])
    | (have h1 : (((shoF l).length : Nat) : Int) = 1 := by assumption
       rw [e0,sgL_one (by omega)];rfl)
    | (obtain ⟨g1, j, g2, g3, g4, g5, g6, ⟨g7, g7'⟩, g8, g9, g10, g11, g12, g13, g14, g15, g16⟩ := sg_facts p1 p2 p3 p4 p5 p6 (by assumption) (by assumption)
       have g17:=p2.rl
       have g18:=sgL_step p2 (by omega : j < rs.length) g3
       have g19:=sgL_mul_bd rs ((shoF l).take ((shoF l).length / 2)) (normF rs (shoF l))
       (try simp only [g9] at *)
       (try rw [g4])
       first
       | omega
       | assumption
       | exact g17.1
       | exact g19.1
       | exact g19.2
       | (rw [e0,g18];simp only [Bool.or_eq_true,Bool.or_eq_false_iff,decide_eq_true_eq,decide_eq_false_iff_not] at *;grind)
       | skip)
    | skip
theorem sgK : ∀ (kk : Nat) {n r : Nat} {rs : List (List Rat)} {l : List Rat},Con Tryz.prog 87 [TWR r rs,NM n l] (kk ≤ rs.length ∧ TOK rs ∧ PW kk l ∧ 1 ≤ n ∧ 1 ≤ r ∧ sB kk (n + r) r ≤ BIG) (IT (sgL rs l)):=fun kk=>by
  induction kk with
  | zero=>exact sgStep (kk:=0) ⟨fun _ _ hp=>absurd rfl hp.1⟩
  | succ kk ih=>exact sgStep (kk:=kk + 1) ⟨fun hok ha hp=>ih.h hok ha hp.2⟩
instance {n r : Nat} {rs : List (List Rat)} {l : List Rat} {τ1 : MT} [j1 : NU τ1 (TWR r rs)] {τ2 : MT} [j2 : NU τ2 (NM n l)] : Con Tryz.prog 87 [τ1,τ2] (TOK rs ∧ PW rs.length l ∧ 1 ≤ n ∧ 1 ≤ r ∧ sB rs.length (n + r) r ≤ BIG) (IT (sgL rs l)):=.o2 fun hok h1 h2 hp=>(sgK rs.length).c2 hok (j1.h h1) (j2.h h2) ⟨Nat.le_refl _,hp.1,hp.2.1,hp.2.2.1,hp.2.2.2.1,hp.2.2.2.2⟩
theorem num_f {K : Nat} {l : List Rat} {z : Int} (h : PW K l) (hz : z = K) (hl : 0 < l.length) (hc : (decide (levI l.length < 0) || decide (levI l.length > z)) = true) : False:=by
  have key : ∃ j : Nat,j ≤ K ∧ levI l.length = j:=by
    unfold PW at h
    rcases h with h | ⟨j,hj,h⟩
    · omega
    · exact ⟨j,hj,by rw [h,levI_pow]⟩
  obtain ⟨j,hj,e⟩:=key
  rw [e] at hc
  simp only [Bool.or_eq_true,decide_eq_true_eq] at hc
  omega
theorem w130 {n r : Nat} {rs : List (List Rat)} {l : List Rat} : Con Tryz.prog 130 [TWR r rs,NM n l] (n ≤ BIG ∧ rs.length ≤ 5 ∧ PW rs.length l) (.ex (errV 67 (0))):=.o2 fun hok h1 h2 hp=>by
  refine St.enter (N:=34) Tryz.func130 rfl rfl rfl hok (enter2 h1 h2) fun a=>?_
  have hl32:=hp.2.2.l32 hp.2.1
  repeat' (first|((with_reducible refine gS_ ?_);first|((with_reducible refine gL_ ?_);first|refine W.run ?_ fun a w G=>?_|refine W.mv fun a w G=>?_|refine W.asg fun a w G=>?_|refine W.bx fun b a w G=>?_|(refine W.nn hK ?_;clear hK K)|refine W.nl ?_|refine W.al fun b a w G=>?_|refine W.st fun w=>?_|refine W.stp fun w=>?_|refine W.ste ?_ fun w=>?_)|((with_reducible refine gC_ ?_);first|refine W.reg fun K hK=>?_|refine W.reg1 ?_|refine W.sq fun K hK=>?_|refine W.ds ?_ (fun β a w G hu=>W.fin ?_ hu) mixedOrders (by kernel_rfl)|refine W.sk ?_|refine W.cd (fun hc=>?_) (fun hc=>?_)|refine W.cb (fun hc=>?_) (fun hc=>?_)|refine W.bl ?_|refine W.ex ?_|refine W.rt ?_)|((with_reducible refine W.kn hK ?_);clear hK K)|(with_reducible first|refine W.bn ?_|refine W.xt ?_|refine W.xb ?_|refine W.xo ?_|refine W.tr ?_|refine W.br ?_)|refine W.rt1 rfl ?_|refine W.rt2 rfl ?_ ?_|refine W.rt3 rfl ?_ ?_ ?_)|refine W.lp 26 (α:=Nat) (fun j=>l.length - j) (fun j=>j ≤ l.length) [4,7,25,26,27,28,29,30,31,32,33] (fun j=>[(25,NT j)]) (fun j=>[]) (0) ?_ ?_ ?_ fun j hj a w G=>?_|refine W.ag (x:=j) (j+1) ?_ ?_ ?_ ?_|clear hK K|clear hu|exact True.intro|exact Nat.le_trans (by clear hp;omega) hp|exact Nat.le_trans (by clear hp;omega) hp.1|exact Nat.le_trans (by clear hp;omega) hp.2|(clear hp;omega)|apply And.intro|refine GI.i fun _=>?_|with_reducible rfl|decide|(simp only [List.length_cons,List.length_nil];omega))
  all_goals first
    | omega
    | (exfalso;exact num_f hp.2.2 rfl (by omega) (by assumption))
    | (exfalso;rw [FR.of_ok] at *;contradiction)
    | (exfalso;simp only [FR.of_ok,Bool.not_true] at *;contradiction)
    | skip
instance {n r : Nat} {rs : List (List Rat)} {l : List Rat} {τ1 : MT} [j1 : NU τ1 (TWR r rs)] {τ2 : MT} [j2 : NU τ2 (NM n l)] : Con Tryz.prog 130 [τ1,τ2] (n ≤ BIG ∧ rs.length ≤ 5 ∧ PW rs.length l) (.ex (errV 67 (0))):=.o2 fun hok h1 h2 hp=>w130.c2 hok (j1.h h1) (j2.h h2) hp
theorem w129 {r : Nat} {rs : List (List Rat)} : Con Tryz.prog 129 [TWR r rs] (TOK rs ∧ 1 ≤ r ∧ sB rs.length (r + r) r ≤ BIG) (.ex (errV 67 (0))):=.o1 fun hok h1 hp=>by
  refine St.enter (N:=43) Tryz.func129 rfl rfl rfl hok (enter1 h1) fun a=>?_
  have h5:=hp.1.rl
  have hbg:=sB_le (r:=r) (k:=rs.length) (n:=r + r)
  repeat' (first|((with_reducible refine gS_ ?_);first|((with_reducible refine gL_ ?_);first|refine W.run ?_ fun a w G=>?_|refine W.mv fun a w G=>?_|refine W.asg fun a w G=>?_|refine W.bx fun b a w G=>?_|(refine W.nn hK ?_;clear hK K)|refine W.nl ?_|refine W.al fun b a w G=>?_|refine W.st fun w=>?_|refine W.stp fun w=>?_|refine W.ste ?_ fun w=>?_)|((with_reducible refine gC_ ?_);first|refine W.reg fun K hK=>?_|refine W.reg1 ?_|refine W.sq fun K hK=>?_|refine W.ds ?_ (fun β a w G hu=>W.fin ?_ hu) mixedOrders (by kernel_rfl)|refine W.sk ?_|refine W.cd (fun hc=>?_) (fun hc=>?_)|refine W.cb (fun hc=>?_) (fun hc=>?_)|refine W.bl ?_|refine W.ex ?_|refine W.rt ?_)|((with_reducible refine W.kn hK ?_);clear hK K)|(with_reducible first|refine W.bn ?_|refine W.xt ?_|refine W.xb ?_|refine W.xo ?_|refine W.tr ?_|refine W.br ?_)|refine W.rt1 rfl ?_|refine W.rt2 rfl ?_ ?_|refine W.rt3 rfl ?_ ?_ ?_)|refine W.lp 16 (α:=Nat) (fun j=>rs.length - j) (fun j=>j ≤ rs.length) [2,3,4,5,6,15,16,17,18,19,20,21,22,23,24,25,26,27,28,29,30,31,32,33,34,35,36,37,38,39,40,41,42] (fun j=>[(15,NT j)]) (fun j=>[]) (0) ?_ ?_ ?_ fun j hj a w G=>?_|refine W.ag (x:=j) (j+1) ?_ ?_ ?_ ?_|clear hK K|clear hu|exact True.intro|exact Nat.le_trans (by clear hp;omega) hp|exact Nat.le_trans (by clear hp;omega) hp.1|exact Nat.le_trans (by clear hp;omega) hp.2|(clear hp;omega)|apply And.intro|refine GI.i fun _=>?_|with_reducible rfl|decide|(simp only [List.length_cons,List.length_nil];omega))
  all_goals first
    | omega
    | (have ht := hp.1.take j
       have hl:=h5.1.at (show j < rs.length by omega)
       have hs:=sB_ups (r:=r) (n:=r + r) (show (rs.take j).length ≤ rs.length by rw [List.length_take];omega)
       have hlt : (rs.take j).length = j:=by rw [List.length_take];omega
       have hpw : PW (rs.take j).length (rs.getD j []):=by rw [hlt];exact PW.pow hl
       have hj5 : 2 ^ j ≤ 2 ^ 5:=Nat.pow_le_pow_right (by decide) (by omega)
       have hnn:=hp.1.nn (show j < rs.length by omega)
       rw [← ht.2 _ hpw] at hnn
       first
       | omega
       | exact ht.1
       | exact hpw
       | (exfalso;have hd : (rs.getD j default).length = 2 ^ j:=hl;omega)
       | (exfalso;have hd : 0 ≤ sgL (List.take j rs) (rs.getD j default):=hnn;omega)
       | skip)
    | skip
instance {r : Nat} {rs : List (List Rat)} {τ1 : MT} [j1 : NU τ1 (TWR r rs)] : Con Tryz.prog 129 [τ1] (TOK rs ∧ 1 ≤ r ∧ sB rs.length (r + r) r ≤ BIG) (.ex (errV 67 (0))):=.o1 fun hok h1 hp=>w129.c1 hok (j1.h h1) hp
theorem getD_mem {l : List (List Rat)} {j : Nat} (h : j < l.length) : l.getD j default ∈ l:=by rw [List.getD_eq_getElem?_getD,List.getElem?_eq_getElem h];exact List.getElem_mem h
theorem w84 {r n : Nat} {rs ls : List (List Rat)} : Con Tryz.prog 84 [TWR r rs,RTS n ls] (TOK rs ∧ 1 ≤ r ∧ n ≤ BIG ∧ sB rs.length (r + r) r ≤ BIG ∧ ls.length ≤ 8 ∧ ∀ x ∈ ls,PW rs.length x) (.ex (errV 67 (0))):=.o2 fun hok h1 h2 hp=>by
  refine St.enter (N:=27) Tryz.func84 rfl rfl rfl hok (enter2 h1 h2) fun a=>?_
  have h5:=hp.1.rl
  repeat' (first|((with_reducible refine gS_ ?_);first|((with_reducible refine gL_ ?_);first|refine W.run ?_ fun a w G=>?_|refine W.mv fun a w G=>?_|refine W.asg fun a w G=>?_|refine W.bx fun b a w G=>?_|(refine W.nn hK ?_;clear hK K)|refine W.nl ?_|refine W.al fun b a w G=>?_|refine W.st fun w=>?_|refine W.stp fun w=>?_|refine W.ste ?_ fun w=>?_)|((with_reducible refine gC_ ?_);first|refine W.reg fun K hK=>?_|refine W.reg1 ?_|refine W.sq fun K hK=>?_|refine W.ds ?_ (fun β a w G hu=>W.fin ?_ hu) mixedOrders (by kernel_rfl)|refine W.sk ?_|refine W.cd (fun hc=>?_) (fun hc=>?_)|refine W.cb (fun hc=>?_) (fun hc=>?_)|refine W.bl ?_|refine W.ex ?_|refine W.rt ?_)|((with_reducible refine W.kn hK ?_);clear hK K)|(with_reducible first|refine W.bn ?_|refine W.xt ?_|refine W.xb ?_|refine W.xo ?_|refine W.tr ?_|refine W.br ?_)|refine W.rt1 rfl ?_|refine W.rt2 rfl ?_ ?_|refine W.rt3 rfl ?_ ?_ ?_)|refine W.lp 17 (α:=Nat) (fun j=>ls.length - j) (fun j=>j ≤ ls.length) [4,7,8,16,17,18,19,20,21,22,23,24,25,26] (fun j=>[(16,NT j)]) (fun j=>[]) (0) ?_ ?_ ?_ fun j hj a w G=>?_|refine W.ag (x:=j) (j+1) ?_ ?_ ?_ ?_|clear hK K|clear hu|exact True.intro|exact Nat.le_trans (by clear hp;omega) hp|exact Nat.le_trans (by clear hp;omega) hp.1|exact Nat.le_trans (by clear hp;omega) hp.2|(clear hp;omega)|apply And.intro|refine GI.i fun _=>?_|with_reducible rfl|decide|(simp only [List.length_cons,List.length_nil];omega))
  all_goals first
    | omega
    | exact hp.1
    | exact hp.2.2.2.2.2 _ (getD_mem (by omega))
    | skip
instance {r n : Nat} {rs ls : List (List Rat)} {τ1 : MT} [j1 : NU τ1 (TWR r rs)] {τ2 : MT} [j2 : NU τ2 (RTS n ls)] : Con Tryz.prog 84 [τ1,τ2] (TOK rs ∧ 1 ≤ r ∧ n ≤ BIG ∧ sB rs.length (r + r) r ≤ BIG ∧ ls.length ≤ 8 ∧ ∀ x ∈ ls,PW rs.length x) (.ex (errV 67 (0))):=.o2 fun hok h1 h2 hp=>w84.c2 hok (j1.h h1) (j2.h h2) hp
theorem w99 {n r : Nat} {rs : List (List Rat)} {l : List Rat} : Con Tryz.prog 99 [TWR r rs,NM n l] (TOK rs ∧ PW rs.length l ∧ 1 ≤ r ∧ 1 ≤ n ∧ sB rs.length (n + r) r ≤ BIG ∧ sB rs.length (r + r) r ≤ BIG) (MT.tup2 (IT (sgL rs l)) (.ex (errV 67 (0)))):=.o2 fun hok h1 h2 hp=>by
  refine St.enter (N:=17) Tryz.func99 rfl rfl rfl hok (enter2 h1 h2) fun a=>?_
  have h5:=hp.1.rl
  have hbg:=sB_le (r:=r) (k:=rs.length) (n:=n + r)
  repeat' (first|((with_reducible refine gS_ ?_);first|((with_reducible refine gL_ ?_);first|refine W.run ?_ fun a w G=>?_|refine W.mv fun a w G=>?_|refine W.asg fun a w G=>?_|refine W.bx fun b a w G=>?_|(refine W.nn hK ?_;clear hK K)|refine W.nl ?_|refine W.al fun b a w G=>?_|refine W.st fun w=>?_|refine W.stp fun w=>?_|refine W.ste ?_ fun w=>?_)|((with_reducible refine gC_ ?_);first|refine W.reg fun K hK=>?_|refine W.reg1 ?_|refine W.sq fun K hK=>?_|refine W.ds ?_ (fun β a w G hu=>W.fin ?_ hu) mixedOrders (by kernel_rfl)|refine W.sk ?_|refine W.cd (fun hc=>?_) (fun hc=>?_)|refine W.cb (fun hc=>?_) (fun hc=>?_)|refine W.bl ?_|refine W.ex ?_|refine W.rt ?_)|((with_reducible refine W.kn hK ?_);clear hK K)|(with_reducible first|refine W.bn ?_|refine W.xt ?_|refine W.xb ?_|refine W.xo ?_|refine W.tr ?_|refine W.br ?_)|refine W.rt1 rfl ?_|refine W.rt2 rfl ?_ ?_|refine W.rt3 rfl ?_ ?_ ?_)|clear hK K|clear hu|exact True.intro|exact Nat.le_trans (by clear hp;omega) hp|exact Nat.le_trans (by clear hp;omega) hp.1|exact Nat.le_trans (by clear hp;omega) hp.2|(clear hp;omega)|apply And.intro|refine GI.i fun _=>?_|with_reducible rfl|decide|(simp only [List.length_cons,List.length_nil];omega))
  all_goals first
    | omega
    | exact hp.1
    | exact hp.2.1
    | (intro x hx;simp only [List.mem_cons,List.not_mem_nil,or_false] at hx;subst hx;exact hp.2.1)
    | (simp;done)
    | skip
instance {n r : Nat} {rs : List (List Rat)} {l : List Rat} {τ1 : MT} [j1 : NU τ1 (TWR r rs)] {τ2 : MT} [j2 : NU τ2 (NM n l)] : Con Tryz.prog 99 [τ1,τ2] (TOK rs ∧ PW rs.length l ∧ 1 ≤ r ∧ 1 ≤ n ∧ sB rs.length (n + r) r ≤ BIG ∧ sB rs.length (r + r) r ≤ BIG) (MT.tup2 (IT (sgL rs l)) (.ex (errV 67 (0)))):=.o2 fun hok h1 h2 hp=>w99.c2 hok (j1.h h1) (j2.h h2) hp
theorem w41 {n m r : Nat} {rs : List (List Rat)} {l k : List Rat} : Con Tryz.prog 41 [TWR r rs,NM n l,NM m k] (TOK rs ∧ PW rs.length l ∧ PW rs.length k ∧ 1 ≤ r ∧ 1 ≤ n ∧ 1 ≤ m ∧ sB rs.length (n + m + 1 + r) r ≤ BIG ∧ sB rs.length (r + r) r ≤ BIG) (MT.tup2 (IT (sgL rs (plusF l (minusF k)))) (.ex (errV 67 (0)))):=.o3 fun hok h1 h2 h3 hp=>by
  refine St.enter (N:=23) Tryz.func41 rfl rfl rfl hok (enter3 h1 h2 h3) fun a=>?_
  have h5:=hp.1.rl
  have hbg:=sB_le (r:=r) (k:=rs.length) (n:=n + m + 1 + r)
  have l1:=hp.2.1.l32 h5.2
  have l2:=hp.2.2.1.l32 h5.2
  have l3:=hp.2.2.1.minus.l32 h5.2
  repeat' (first|((with_reducible refine gS_ ?_);first|((with_reducible refine gL_ ?_);first|refine W.run ?_ fun a w G=>?_|refine W.mv fun a w G=>?_|refine W.asg fun a w G=>?_|refine W.bx fun b a w G=>?_|(refine W.nn hK ?_;clear hK K)|refine W.nl ?_|refine W.al fun b a w G=>?_|refine W.st fun w=>?_|refine W.stp fun w=>?_|refine W.ste ?_ fun w=>?_)|((with_reducible refine gC_ ?_);first|refine W.reg fun K hK=>?_|refine W.reg1 ?_|refine W.sq fun K hK=>?_|refine W.ds ?_ (fun β a w G hu=>W.fin ?_ hu) mixedOrders (by kernel_rfl)|refine W.sk ?_|refine W.cd (fun hc=>?_) (fun hc=>?_)|refine W.cb (fun hc=>?_) (fun hc=>?_)|refine W.bl ?_|refine W.ex ?_|refine W.rt ?_)|((with_reducible refine W.kn hK ?_);clear hK K)|(with_reducible first|refine W.bn ?_|refine W.xt ?_|refine W.xb ?_|refine W.xo ?_|refine W.tr ?_|refine W.br ?_)|refine W.rt1 rfl ?_|refine W.rt2 rfl ?_ ?_|refine W.rt3 rfl ?_ ?_ ?_)|clear hK K|clear hu|exact True.intro|exact Nat.le_trans (by clear hp;omega) hp|exact Nat.le_trans (by clear hp;omega) hp.1|exact Nat.le_trans (by clear hp;omega) hp.2|(clear hp;omega)|apply And.intro|refine GI.i fun _=>?_|with_reducible rfl|decide|(simp only [List.length_cons,List.length_nil];omega))
  all_goals first
    | omega
    | exact hp.1
    | exact hp.2.1.plus hp.2.2.1.minus
    | (intro x hx;simp only [List.mem_cons,List.not_mem_nil,or_false] at hx;rcases hx with hx | hx <;> subst hx <;> first | exact hp.2.1 | exact hp.2.2.1)
    | (simp;done)
    | skip
instance {n m r : Nat} {rs : List (List Rat)} {l k : List Rat} {τ1 : MT} [j1 : NU τ1 (TWR r rs)] {τ2 : MT} [j2 : NU τ2 (NM n l)] {τ3 : MT} [j3 : NU τ3 (NM m k)] : Con Tryz.prog 41 [τ1,τ2,τ3] (TOK rs ∧ PW rs.length l ∧ PW rs.length k ∧ 1 ≤ r ∧ 1 ≤ n ∧ 1 ≤ m ∧ sB rs.length (n + m + 1 + r) r ≤ BIG ∧ sB rs.length (r + r) r ≤ BIG) (MT.tup2 (IT (sgL rs (plusF l (minusF k)))) (.ex (errV 67 (0)))):=.o3 fun hok h1 h2 h3 hp=>w41.c3 hok (j1.h h1) (j2.h h2) (j3.h h3) hp
theorem zv0' : (default : FR).val = 0:=rfl
theorem w93 {n : Nat} {x : Rat} : Con Tryz.prog 93 [QV n x] (n + 2 ≤ BIG) (NM (n + 2) (shoF [x])):=.o1 fun hok h1 hp=>by
  refine St.enter (N:=8) Tryz.func93 rfl rfl rfl hok (enter1 h1) fun a=>?_
  repeat' (first|((with_reducible refine gS_ ?_);first|((with_reducible refine gL_ ?_);first|refine W.run ?_ fun a w G=>?_|refine W.mv fun a w G=>?_|refine W.asg fun a w G=>?_|refine W.bx fun b a w G=>?_|(refine W.nn hK ?_;clear hK K)|refine W.nl ?_|refine W.al fun b a w G=>?_|refine W.st fun w=>?_|refine W.stp fun w=>?_|refine W.ste ?_ fun w=>?_)|((with_reducible refine gC_ ?_);first|refine W.reg fun K hK=>?_|refine W.reg1 ?_|refine W.sq fun K hK=>?_|refine W.ds ?_ (fun β a w G hu=>W.fin ?_ hu) mixedOrders (by kernel_rfl)|refine W.sk ?_|refine W.cd (fun hc=>?_) (fun hc=>?_)|refine W.cb (fun hc=>?_) (fun hc=>?_)|refine W.bl ?_|refine W.ex ?_|refine W.rt ?_)|((with_reducible refine W.kn hK ?_);clear hK K)|(with_reducible first|refine W.bn ?_|refine W.xt ?_|refine W.xb ?_|refine W.xo ?_|refine W.tr ?_|refine W.br ?_)|refine W.rt1 rfl ?_|refine W.rt2 rfl ?_ ?_|refine W.rt3 rfl ?_ ?_ ?_)|clear hK K|clear hu|exact True.intro|exact Nat.le_trans (by clear hp;omega) hp|exact Nat.le_trans (by clear hp;omega) hp.1|exact Nat.le_trans (by clear hp;omega) hp.2|(clear hp;omega)|apply And.intro|refine GI.i fun _=>?_|with_reducible rfl|decide|(simp only [List.length_cons,List.length_nil];omega))
  all_goals first
    | omega
    | (simp;done)
    | (congr 1;grind [zv0'])
    | skip
instance {n : Nat} {x : Rat} {τ1 : MT} [j1 : NQ τ1 (QV n x)] : Con Tryz.prog 93 [τ1] (n + 2 ≤ BIG) (NM (n + 2) (shoF [x])):=.o1 fun hok h1 hp=>w93.c1 hok (j1.h h1) hp
end Go.Proofs.YtnjbcjmkkejfpaaGreatDoor
set_option linter.unusedVariables false
set_option linter.unusedSimpArgs false
set_option maxHeartbeats 4000000
set_option maxRecDepth 100000
set_option synthInstance.maxSize 100000
set_option synthInstance.maxHeartbeats 400000
namespace Go.Proofs.YtnjbcjmkkejfpaaGreatDoor
open Go.RowKit (Below)
attribute [local irreducible] Go.Code.wp Go.wpList Go.bodyPost
instance : DecidableEq FR:=fun r s=>decidable_of_iff (r.s = s.s ∧ r.p = s.p ∧ r.q = s.q) ⟨fun h=>by obtain ⟨a,b,c⟩:=r;obtain ⟨d,e,f⟩:=s;simp only at h;obtain ⟨rfl,rfl,rfl⟩:=h;rfl,fun h=>by subst h;exact ⟨rfl,rfl,rfl⟩⟩
theorem FR.of_inj {x y : Rat} (h : FR.of x = FR.of y) : x = y:=by rw [← FR.of_val (x:=x),h,FR.of_val]
section
variable {α : Type} {l k : List α} {j : Nat}
end
abbrev LFR (l : List FR) : MT:=LS (some 3) (l.map RX)
instance {l : List FR} : AsT (LS (some 3) (l.map RX)) LFR l:=⟨fun h=>h⟩
theorem NM.lfr {n : Nat} {l : List Rat} {v : Value} {G : Gh} (h : (NM n l).t v G) : (LFR (l.map FR.of)).t v G:=LS.convM (T:=QC n) (U:=RX) (f:=FR.of) h (by simp) fun x hx v G hv=>FX.toRX (QC.toFX hv (QC.one hv))
instance NR.nm {n : Nat} {l : List Rat} : NR (LS (some 3) (l.map (QC n))) (LS (some 3) ((l.map FR.of).map RX)):=⟨NM.lfr⟩
instance NR.rts {n : Nat} {rs : List (List Rat)} : NR (LS none (rs.map (NM n))) (LS none ((rs.map (List.map FR.of)).map LFR)):=⟨fun h=>LS.convM (T:=NM n) (U:=LFR) (f:=List.map FR.of) h (by simp) fun x hx v G hv=>NM.lfr hv⟩
theorem PTS.lenL {α : Type} {T : α → MT} {xs : List α} {v : Value} {G : Gh} (h : (PTS [(none,LS none (xs.map T))]).t v G) : xs.length ≤ LIM:=by
  obtain ⟨us,_,hl,hE⟩:=h
  match us,hl with
  | u :: us,_=>exact LS.lenM (hE 0 _ u rfl rfl).2
end Go.Proofs.YtnjbcjmkkejfpaaGreatDoor
set_option linter.unusedVariables false
set_option linter.unusedSimpArgs false
set_option maxHeartbeats 4000000
set_option maxRecDepth 100000
set_option synthInstance.maxSize 100000
set_option synthInstance.maxHeartbeats 400000
namespace Go.Proofs.YtnjbcjmkkejfpaaGreatDoor
open Go.RowKit (Below)
attribute [local irreducible] Go.Code.wp Go.wpList Go.bodyPost
def nearF (g a b c : FR) (k : Rat) : Int:=surdsF (g.val + a.val - (b.val + c.val)) (-(2 * k)) (a.val * g.val) 2 (b.val * c.val)
def farF (g a b c : FR) (k : Rat) : Int:=surdsF (b.val + c.val - (g.val + a.val)) (2 * k) (a.val * g.val) 2 (b.val * c.val)
def gapC (g a b c k : FR) : Int:=if chkF [g,a,b,c] = 0 then (if k.ok then (if 1 < k.val ∨ k.val < -1 then 3 else 0) else 2) else chkF [g,a,b,c]
def fullF (g a b c : FR) : Bool:=decide (chkF [g,a,b,c] = 0) && decide (0 ≤ nearF g a b c 1) && decide (0 ≤ farF g a b c (-1))
instance NU.qc {τ : MT} {n : Nat} {x : Rat} [h : Rdn τ QC n x] : NU τ (QC n x):=⟨fun hv=>h.h hv⟩
attribute [local irreducible] plusF minusF joinF levI lev PW RLN tB sB timesF stepF tmF normF shoF TOK sgL surdsF chkF
end Go.Proofs.YtnjbcjmkkejfpaaGreatDoor
set_option linter.unusedVariables false
set_option linter.unusedSimpArgs false
namespace Go.Proofs.YtnjbcjmkkejfpaaGreatDoor
open Go.RowKit (Below)
def MT.tup4 (a b c d : MT) : MT:=⟨fun v G=>∃ x y z u,v = .tuple #[x,y,z,u] ∧ a.t x G ∧ b.t y G ∧ c.t z G ∧ d.t u G,fun hle ⟨x,y,z,u,h,h1,h2,h3,h4⟩=>⟨x,y,z,u,h,a.mono hle h1,b.mono hle h2,c.mono hle h3,d.mono hle h4⟩⟩
def MT.tup5 (a b c d e : MT) : MT:=⟨fun v G=>∃ x y z u s,v = .tuple #[x,y,z,u,s] ∧ a.t x G ∧ b.t y G ∧ c.t z G ∧ d.t u G ∧ e.t s G,fun hle ⟨x,y,z,u,s,h,h1,h2,h3,h4,h5⟩=>⟨x,y,z,u,s,h,a.mono hle h1,b.mono hle h2,c.mono hle h3,d.mono hle h4,e.mono hle h5⟩⟩
section
variable {P : Program} {L : List (Nat × MT)} {B : List BX} {x : Operand} {τ1 τ2 τ3 τ4 τ5 : MT} {u : List Nat}
instance Op1.ex40 [h : Opd L x (.tup4 τ1 τ2 τ3 τ4) u] : Op1 P L B (.extract x 0) True τ1 u:=⟨fun ho hok e _ _=>by
  obtain ⟨a,b,c,d,h,h1,h2,h3,h4⟩:=h.h e
  exact .run hok (by simp [execOp,ho,h,Instr.extract]) h1⟩
instance Op1.ex41 [h : Opd L x (.tup4 τ1 τ2 τ3 τ4) u] : Op1 P L B (.extract x 1) True τ2 u:=⟨fun ho hok e _ _=>by
  obtain ⟨a,b,c,d,h,h1,h2,h3,h4⟩:=h.h e
  exact .run hok (by simp [execOp,ho,h,Instr.extract]) h2⟩
instance Op1.ex42 [h : Opd L x (.tup4 τ1 τ2 τ3 τ4) u] : Op1 P L B (.extract x 2) True τ3 u:=⟨fun ho hok e _ _=>by
  obtain ⟨a,b,c,d,h,h1,h2,h3,h4⟩:=h.h e
  exact .run hok (by simp [execOp,ho,h,Instr.extract]) h3⟩
instance Op1.ex43 [h : Opd L x (.tup4 τ1 τ2 τ3 τ4) u] : Op1 P L B (.extract x 3) True τ4 u:=⟨fun ho hok e _ _=>by
  obtain ⟨a,b,c,d,h,h1,h2,h3,h4⟩:=h.h e
  exact .run hok (by simp [execOp,ho,h,Instr.extract]) h4⟩
instance Op1.ex50 [h : Opd L x (.tup5 τ1 τ2 τ3 τ4 τ5) u] : Op1 P L B (.extract x 0) True τ1 u:=⟨fun ho hok e _ _=>by
  obtain ⟨a,b,c,d,f,h,h1,h2,h3,h4,h5⟩:=h.h e
  exact .run hok (by simp [execOp,ho,h,Instr.extract]) h1⟩
instance Op1.ex51 [h : Opd L x (.tup5 τ1 τ2 τ3 τ4 τ5) u] : Op1 P L B (.extract x 1) True τ2 u:=⟨fun ho hok e _ _=>by
  obtain ⟨a,b,c,d,f,h,h1,h2,h3,h4,h5⟩:=h.h e
  exact .run hok (by simp [execOp,ho,h,Instr.extract]) h2⟩
instance Op1.ex52 [h : Opd L x (.tup5 τ1 τ2 τ3 τ4 τ5) u] : Op1 P L B (.extract x 2) True τ3 u:=⟨fun ho hok e _ _=>by
  obtain ⟨a,b,c,d,f,h,h1,h2,h3,h4,h5⟩:=h.h e
  exact .run hok (by simp [execOp,ho,h,Instr.extract]) h3⟩
instance Op1.ex53 [h : Opd L x (.tup5 τ1 τ2 τ3 τ4 τ5) u] : Op1 P L B (.extract x 3) True τ4 u:=⟨fun ho hok e _ _=>by
  obtain ⟨a,b,c,d,f,h,h1,h2,h3,h4,h5⟩:=h.h e
  exact .run hok (by simp [execOp,ho,h,Instr.extract]) h4⟩
instance Op1.ex54 [h : Opd L x (.tup5 τ1 τ2 τ3 τ4 τ5) u] : Op1 P L B (.extract x 4) True τ5 u:=⟨fun ho hok e _ _=>by
  obtain ⟨a,b,c,d,f,h,h1,h2,h3,h4,h5⟩:=h.h e
  exact .run hok (by simp [execOp,ho,h,Instr.extract]) h5⟩
end
section
variable {P : Program} {B : List BX} {L : List (Nat × MT)} {W0 : World} {G0 : Gh} {N : Nat} {a : Act} {w : World} {G : Gh} {fn : Func} {τ1 τ2 τ3 τ4 τ5 ρ1 ρ2 ρ3 ρ4 ρ5 : MT} {p1 p2 p3 p4 p5 : Prop}
end
end Go.Proofs.YtnjbcjmkkejfpaaGreatDoor
set_option linter.unusedVariables false
set_option linter.unusedSimpArgs false
namespace Go.Proofs.YtnjbcjmkkejfpaaGreatDoor
open Go.RowKit (Below)
class Drp (L : List (Nat × MT)) (ws : List Nat) (L' : outParam (List (Nat × MT))) : Prop where
  h : ∀ p ∈ L',p ∈ L
instance Drp.nil {ws : List Nat} : Drp [] ws []:=⟨fun _ h=>h⟩
instance Drp.hd {L L' : List (Nat × MT)} {ws : List Nat} {t : Nat} {τ : MT} [In ws t] [h : Drp L ws L'] : Drp ((t,τ) :: L) ws L':=⟨fun p hp=>.tail _ (h.h p hp)⟩
instance (priority:=500) Drp.tl {L L' : List (Nat × MT)} {ws : List Nat} {x : Nat × MT} [h : Drp L ws L'] : Drp (x :: L) ws (x :: L'):=⟨fun p hp=>by
  rcases List.mem_cons.1 hp with e | e
  · subst e;exact .head _
  · exact .tail _ (h.h p e)⟩
class GcT (f id : Nat) (k : Bool) (t : outParam Nat) (ws : outParam (List Nat)) : Prop
section
variable {P : Program} {B : List BX} {L L' : List (Nat × MT)} {W0 : World} {G0 : Gh} {N : Nat} {a : Act} {w : World} {G : Gh} {Q : Exit → Act → World → Prop} {c c1 : Code} {τ0 : MT} {bd : Bool} {l : Array Oper}
theorem W.gcc (f : Nat) {id t : Nat} {ws : List Nat} [g : GcT f id false t ws] [Lk L t τ0] [d : Drp L (t :: ws) L'] (h : St W0 G0 N L' B a w G → (Code.seq (.region id l bd) c).wp P Q a w) : St W0 G0 N L B a w G → (Code.seq (.region id l bd) c).wp P Q a w:=fun S=>h (S.only d.h)
theorem W.gcd (f : Nat) {id t : Nat} {ws : List Nat} [g : GcT f id true t ws] [Lk L t τ0] [d : Drp L (t :: ws) L'] (h : St W0 G0 N L' B a w G → (Code.seq (.block id c1) c).wp P Q a w) : St W0 G0 N L B a w G → (Code.seq (.block id c1) c).wp P Q a w:=fun S=>h (S.only d.h)
end
end Go.Proofs.YtnjbcjmkkejfpaaGreatDoor
set_option linter.unusedVariables false
set_option linter.unusedSimpArgs false
set_option maxHeartbeats 4000000
set_option maxRecDepth 100000
set_option synthInstance.maxSize 100000
set_option synthInstance.maxHeartbeats 400000
namespace Go.Proofs.YtnjbcjmkkejfpaaGreatDoor
open Go.RowKit (Below)
attribute [local irreducible] Go.Code.wp Go.wpList Go.bodyPost
theorem vl1 {p x y : Rat} : vlL [[p]] [x,y] = RR.of x + RR.of y * rt p:=by
  rw [El.vl_at (k:=1) (l:=[x,y]) (by decide) (Nat.le_refl 2)]
  rfl
theorem tok1 {p : Rat} (hp : 0 ≤ p) : TOK [[p]]:=by
  refine ⟨show 1 ≤ 5 by decide,fun j hj=>?_,fun j hj=>?_⟩
  · match j,hj with
    | 0,_=>rfl
  · match j,hj with
    | 0,_ =>
      show 0 ≤ vlL [[p]] [p]
      rw [El.vl_at (k:=0) (l:=[p]) (by decide) (Nat.le_refl 1)]
      exact RR.of_le (p:=0) |>.2 hp
theorem pw1k {k : Nat} {x : Rat} : PW k [x]:=.inr ⟨0,Nat.zero_le _,rfl⟩
theorem sB1 {x r : Nat} : sB 1 x r = 4 * x + r + 1:=by simp only [sB,tB];omega
def sinA (g a b c : FR) (k : Rat) : Rat:=((b.val + c.val - (g.val + a.val)) * (b.val + c.val - (g.val + a.val)) + k * k * (4 * (a.val * g.val))) / (4 * (b.val * c.val))
def sinB (g a b c : FR) (k : Rat) : Rat:=(b.val + c.val - (g.val + a.val)) * k / (b.val * c.val)
def sinL (g a b c : FR) (k : Rat) : List Rat:=[1 - sinA g a b c k,-sinB g a b c k]
def sinC (g a b c k : FR) : Int:=if gapC g a b c k = 0 then (if nearF g a b c k.val < 0 ∨ farF g a b c k.val < 0 then 16 else 0) else gapC g a b c k
def midF (g a b c : FR) : Rat:=b.val + c.val - (g.val + a.val)
def atF (g a b c : FR) : Int:=if (midF g a b c).num.sign < 0 then -1 else 1
def rgtF (g a b c : FR) : Bool:=decide (cmpQ (midF g a b c * midF g a b c) (4 * (a.val * g.val)) ≤ 0)
def fulC (g a b c : FR) : Int:=if chkF [g,a,b,c] = 0 then (if fullF g a b c then 0 else 16) else chkF [g,a,b,c]
def leaL (g a b c : FR) : List Rat:=if fulC g a b c = 0 then sinL g a b c ((atF g a b c : Int) : Rat) else []
def mosL (g a b c : FR) : List Rat:=if fulC g a b c = 0 then (if rgtF g a b c then [1,0] else sinL g a b c ((-atF g a b c : Int) : Rat)) else []
def twoA (g a b c : FR) : List (List Rat):=if fulC g a b c = 0 then [[a.val * g.val]] else []
def alsC (g a b c m : FR) : Int:=if chkF [g,a,b,c] = 0 then (if m.ok then fulC g a b c else 2) else chkF [g,a,b,c]
noncomputable def alsF (g a b c m : FR) : Bool:=decide (alsC g a b c m = 0) && decide (sgL [[a.val * g.val]] (plusF (leaL g a b c) (minusF (shoF [m.val]))) ≥ 0)
def rigF (g a b c : FR) : Int:=if fulC g a b c = 0 then (if rgtF g a b c then 0 else (midF g a b c).num.sign) else 0
attribute [local irreducible] plusF minusF joinF levI lev PW RLN tB sB timesF stepF tmF normF shoF TOK sgL surdsF surdF chkF gapC fullF nearF farF
attribute [local irreducible] sinC fulC leaL mosL alsC alsF rigF rgtF atF twoA sinA sinB sinL
end Go.Proofs.YtnjbcjmkkejfpaaGreatDoor
set_option linter.unusedVariables false
set_option linter.unusedSimpArgs false
namespace Go.Proofs.YtnjbcjmkkejfpaaGreatDoor
theorem vlL_plus {rs : List (List Rat)} {a b : List Rat} : vlL rs (plusF a b) = vlL rs a + vlL rs b:=by unfold vlL;rw [El.toE_plus,El.vl_add]
theorem vlL_minus {rs : List (List Rat)} {a : List Rat} : vlL rs (minusF a) = -vlL rs a:=by unfold vlL;rw [El.toE_minus,El.vl_neg]
theorem vlL_cf {rs : List (List Rat)} {a b : List Rat} (h : ∀ x,cf a x = cf b x) : vlL rs a = vlL rs b:=by unfold vlL;rw [El.toE_cf h]
theorem vlL_sho {rs : List (List Rat)} {k : Nat} {a : List Rat} (hk : k ≤ 5) (h : PW k a) : vlL rs (shoF a) = vlL rs a:=vlL_cf (sho_ok hk h).2.2.1
theorem vlL_tm {rs : List (List Rat)} (ht : TOK rs) {a b : List Rat} (ha : PW rs.length a) (hb : PW rs.length b) : vlL rs (tmF rs a b) = vlL rs a * vlL rs b:=by
  have h5:=ht.1
  have hp:=PW.tm ht.2.1 (Nat.le_refl _) ha hb
  rw [El.vl_at (k:=rs.length) h5 ha.le,El.vl_at (k:=rs.length) h5 hb.le,El.vl_at (k:=rs.length) h5 hp.le,(tm_ok ht.2.1 (Nat.le_refl _) ha hb).1,El.vl_mul ht.ok]
theorem pw_lvM {K : Nat} {l k : List Rat} (hl : PW K l) (hk : PW K k) : lev (max l.length k.length) ≤ K ∧ PW (lev (max l.length k.length)) l ∧ PW (lev (max l.length k.length)) k:=by
  have key : ∀ {a b : List Rat},PW K a → PW K b → b.length ≤ a.length → lev a.length ≤ K ∧ PW (lev a.length) a ∧ PW (lev a.length) b:=fun {a b} ha hb hab=>by
    rcases ha with h | ⟨j,hj,h⟩
    · have h0 : b.length = 0:=by omega
      rw [h]
      exact ⟨by rw [show lev 0 = 0 from rfl];exact Nat.zero_le _,.inl h,.inl h0⟩
    · rw [h,lev_pow]
      refine ⟨hj,.inr ⟨j,Nat.le_refl _,h⟩,?_⟩
      rcases hb with h2 | ⟨i,hi,h2⟩
      · exact .inl h2
      · refine .inr ⟨i,?_,h2⟩
        rcases Nat.lt_or_ge j i with h3 | h3
        · have:=Nat.pow_lt_pow_right (a:=2) (by decide) h3;omega
        · exact h3
  rcases Nat.le_total l.length k.length with h | h
  · rw [Nat.max_eq_right h];have:=key hk hl h;exact ⟨this.1,this.2.2,this.2.1⟩
  · rw [Nat.max_eq_left h];exact key hl hk h
theorem sho_pw {k : Nat} {a : List Rat} (hk : k ≤ 5) (h : PW k a) : PW k (shoF a):=(sho_ok hk h).2.1
end Go.Proofs.YtnjbcjmkkejfpaaGreatDoor
set_option linter.unusedVariables false
set_option linter.unusedSimpArgs false
set_option maxHeartbeats 4000000
set_option maxRecDepth 100000
set_option synthInstance.maxSize 100000
set_option synthInstance.maxHeartbeats 400000
namespace Go.Proofs.YtnjbcjmkkejfpaaGreatDoor
open Go.RowKit (Below)
attribute [local irreducible] Go.Code.wp Go.wpList Go.bodyPost
attribute [local irreducible] plusF minusF joinF levI lev PW RLN tB sB timesF stepF tmF normF shoF TOK sgL
theorem w40 {r n : Nat} {rs : List (List Rat)} {l : List Rat} : Con Tryz.prog 40 [TWR r rs,NM n l] (TOK rs ∧ PW rs.length l ∧ 1 ≤ r ∧ 1 ≤ n ∧ n ≤ BIG ∧ sB rs.length (r + r) r ≤ BIG) (MT.tup2 (NM n (shoF (minusF l))) (.ex (errV 67 (0)))):=.o2 fun hok h1 h2 hp=>by
  refine St.enter (N:=17) Tryz.func40 rfl rfl rfl hok (enter2 h1 h2) fun a=>?_
  have h5:=hp.1.rl
  have hbg:=sB_le (r:=r) (k:=rs.length) (n:=r + r)
  have l1:=hp.2.1.l32 h5.2
  have l3:=hp.2.1.minus.l32 h5.2
  repeat' (first|((with_reducible refine gS_ ?_);first|((with_reducible refine gL_ ?_);first|refine W.run ?_ fun a w G=>?_|refine W.mv fun a w G=>?_|refine W.asg fun a w G=>?_|refine W.bx fun b a w G=>?_|(refine W.nn hK ?_;clear hK K)|refine W.nl ?_|refine W.al fun b a w G=>?_|refine W.st fun w=>?_|refine W.stp fun w=>?_|refine W.ste ?_ fun w=>?_)|((with_reducible refine gC_ ?_);first|refine W.reg fun K hK=>?_|refine W.reg1 ?_|refine W.sq fun K hK=>?_|refine W.ds ?_ (fun β a w G hu=>W.fin ?_ hu) mixedOrders (by kernel_rfl)|refine W.sk ?_|refine W.cd (fun hc=>?_) (fun hc=>?_)|refine W.cb (fun hc=>?_) (fun hc=>?_)|refine W.bl ?_|refine W.ex ?_|refine W.rt ?_)|((with_reducible refine W.kn hK ?_);clear hK K)|(with_reducible first|refine W.bn ?_|refine W.xt ?_|refine W.xb ?_|refine W.xo ?_|refine W.tr ?_|refine W.br ?_)|refine W.rt1 rfl ?_|refine W.rt2 rfl ?_ ?_|refine W.rt3 rfl ?_ ?_ ?_)|clear hK K|clear hu|exact True.intro|exact Nat.le_trans (by clear hp;omega) hp|exact Nat.le_trans (by clear hp;omega) hp.1|exact Nat.le_trans (by clear hp;omega) hp.2|(clear hp;omega)|apply And.intro|refine GI.i fun _=>?_|with_reducible rfl|decide|(simp only [List.length_cons,List.length_nil];omega))
  all_goals first
    | omega
    | exact hp.1
    | exact h5.1
    | (intro x hx;simp only [List.mem_cons,List.not_mem_nil,or_false] at hx;first | (subst hx;exact hp.2.1) | (rcases hx with hx | hx <;> subst hx <;> first | exact hp.2.1 | exact hp.2.2.1))
    | (simp;done)
    | skip
instance {r n : Nat} {rs : List (List Rat)} {l : List Rat} {τ1 : MT} [j1 : NU τ1 (TWR r rs)] {τ2 : MT} [j2 : NU τ2 (NM n l)] : Con Tryz.prog 40 [τ1,τ2] (TOK rs ∧ PW rs.length l ∧ 1 ≤ r ∧ 1 ≤ n ∧ n ≤ BIG ∧ sB rs.length (r + r) r ≤ BIG) (MT.tup2 (NM n (shoF (minusF l))) (.ex (errV 67 (0)))):=.o2 fun hok h1 h2 hp=>w40.c2 hok (j1.h h1) (j2.h h2) hp
theorem w171 {r n m : Nat} {rs : List (List Rat)} {l k : List Rat} : Con Tryz.prog 171 [TWR r rs,NM n l,NM m k] (TOK rs ∧ PW rs.length l ∧ PW rs.length k ∧ 1 ≤ r ∧ 1 ≤ n ∧ 1 ≤ m ∧ sB rs.length (r + r) r ≤ BIG ∧ n + m + 1 ≤ BIG) (MT.tup2 (NM (n + m + 1) (shoF (plusF l k))) (.ex (errV 67 (0)))):=.o3 fun hok h1 h2 h3 hp=>by
  refine St.enter (N:=21) Tryz.func171 rfl rfl rfl hok (enter3 h1 h2 h3) fun a=>?_
  have h5:=hp.1.rl
  have hbg:=sB_le (r:=r) (k:=rs.length) (n:=r + r)
  have l1:=hp.2.1.l32 h5.2
  have l2:=hp.2.2.1.l32 h5.2
  have l3:=(hp.2.1.plus hp.2.2.1).l32 h5.2
  repeat' (first|((with_reducible refine gS_ ?_);first|((with_reducible refine gL_ ?_);first|refine W.run ?_ fun a w G=>?_|refine W.mv fun a w G=>?_|refine W.asg fun a w G=>?_|refine W.bx fun b a w G=>?_|(refine W.nn hK ?_;clear hK K)|refine W.nl ?_|refine W.al fun b a w G=>?_|refine W.st fun w=>?_|refine W.stp fun w=>?_|refine W.ste ?_ fun w=>?_)|((with_reducible refine gC_ ?_);first|refine W.reg fun K hK=>?_|refine W.reg1 ?_|refine W.sq fun K hK=>?_|refine W.ds ?_ (fun β a w G hu=>W.fin ?_ hu) mixedOrders (by kernel_rfl)|refine W.sk ?_|refine W.cd (fun hc=>?_) (fun hc=>?_)|refine W.cb (fun hc=>?_) (fun hc=>?_)|refine W.bl ?_|refine W.ex ?_|refine W.rt ?_)|((with_reducible refine W.kn hK ?_);clear hK K)|(with_reducible first|refine W.bn ?_|refine W.xt ?_|refine W.xb ?_|refine W.xo ?_|refine W.tr ?_|refine W.br ?_)|refine W.rt1 rfl ?_|refine W.rt2 rfl ?_ ?_|refine W.rt3 rfl ?_ ?_ ?_)|clear hK K|clear hu|exact True.intro|exact Nat.le_trans (by clear hp;omega) hp|exact Nat.le_trans (by clear hp;omega) hp.1|exact Nat.le_trans (by clear hp;omega) hp.2|(clear hp;omega)|apply And.intro|refine GI.i fun _=>?_|with_reducible rfl|decide|(simp only [List.length_cons,List.length_nil];omega))
  all_goals first
    | omega
    | exact hp.1
    | exact h5.1
    | (intro x hx;simp only [List.mem_cons,List.not_mem_nil,or_false] at hx;first | (subst hx;exact hp.2.1) | (rcases hx with hx | hx <;> subst hx <;> first | exact hp.2.1 | exact hp.2.2.1))
    | (simp;done)
    | skip
instance {r n m : Nat} {rs : List (List Rat)} {l k : List Rat} {τ1 : MT} [j1 : NU τ1 (TWR r rs)] {τ2 : MT} [j2 : NU τ2 (NM n l)] {τ3 : MT} [j3 : NU τ3 (NM m k)] : Con Tryz.prog 171 [τ1,τ2,τ3] (TOK rs ∧ PW rs.length l ∧ PW rs.length k ∧ 1 ≤ r ∧ 1 ≤ n ∧ 1 ≤ m ∧ sB rs.length (r + r) r ≤ BIG ∧ n + m + 1 ≤ BIG) (MT.tup2 (NM (n + m + 1) (shoF (plusF l k))) (.ex (errV 67 (0)))):=.o3 fun hok h1 h2 h3 hp=>w171.c3 hok (j1.h h1) (j2.h h2) (j3.h h3) hp
theorem w170 {r n m : Nat} {rs : List (List Rat)} {l k : List Rat} : Con Tryz.prog 170 [TWR r rs,NM n l,NM m k] (TOK rs ∧ PW rs.length l ∧ PW rs.length k ∧ 1 ≤ r ∧ 1 ≤ n ∧ 1 ≤ m ∧ sB rs.length (r + r) r ≤ BIG ∧ n + m + 1 ≤ BIG) (MT.tup2 (NM (n + m + 1) (shoF (plusF l (minusF k)))) (.ex (errV 67 (0)))):=.o3 fun hok h1 h2 h3 hp=>by
  refine St.enter (N:=22) Tryz.func170 rfl rfl rfl hok (enter3 h1 h2 h3) fun a=>?_
  have h5:=hp.1.rl
  have hbg:=sB_le (r:=r) (k:=rs.length) (n:=r + r)
  have l1:=hp.2.1.l32 h5.2
  have l2:=hp.2.2.1.l32 h5.2
  have l4:=hp.2.2.1.minus.l32 h5.2
  have l3:=(hp.2.1.plus hp.2.2.1.minus).l32 h5.2
  repeat' (first|((with_reducible refine gS_ ?_);first|((with_reducible refine gL_ ?_);first|refine W.run ?_ fun a w G=>?_|refine W.mv fun a w G=>?_|refine W.asg fun a w G=>?_|refine W.bx fun b a w G=>?_|(refine W.nn hK ?_;clear hK K)|refine W.nl ?_|refine W.al fun b a w G=>?_|refine W.st fun w=>?_|refine W.stp fun w=>?_|refine W.ste ?_ fun w=>?_)|((with_reducible refine gC_ ?_);first|refine W.reg fun K hK=>?_|refine W.reg1 ?_|refine W.sq fun K hK=>?_|refine W.ds ?_ (fun β a w G hu=>W.fin ?_ hu) mixedOrders (by kernel_rfl)|refine W.sk ?_|refine W.cd (fun hc=>?_) (fun hc=>?_)|refine W.cb (fun hc=>?_) (fun hc=>?_)|refine W.bl ?_|refine W.ex ?_|refine W.rt ?_)|((with_reducible refine W.kn hK ?_);clear hK K)|(with_reducible first|refine W.bn ?_|refine W.xt ?_|refine W.xb ?_|refine W.xo ?_|refine W.tr ?_|refine W.br ?_)|refine W.rt1 rfl ?_|refine W.rt2 rfl ?_ ?_|refine W.rt3 rfl ?_ ?_ ?_)|clear hK K|clear hu|exact True.intro|exact Nat.le_trans (by clear hp;omega) hp|exact Nat.le_trans (by clear hp;omega) hp.1|exact Nat.le_trans (by clear hp;omega) hp.2|(clear hp;omega)|apply And.intro|refine GI.i fun _=>?_|with_reducible rfl|decide|(simp only [List.length_cons,List.length_nil];omega))
  all_goals first
    | omega
    | exact hp.1
    | exact h5.1
    | (intro x hx;simp only [List.mem_cons,List.not_mem_nil,or_false] at hx;first | (subst hx;exact hp.2.1) | (rcases hx with hx | hx <;> subst hx <;> first | exact hp.2.1 | exact hp.2.2.1))
    | (simp;done)
    | skip
instance {r n m : Nat} {rs : List (List Rat)} {l k : List Rat} {τ1 : MT} [j1 : NU τ1 (TWR r rs)] {τ2 : MT} [j2 : NU τ2 (NM n l)] {τ3 : MT} [j3 : NU τ3 (NM m k)] : Con Tryz.prog 170 [τ1,τ2,τ3] (TOK rs ∧ PW rs.length l ∧ PW rs.length k ∧ 1 ≤ r ∧ 1 ≤ n ∧ 1 ≤ m ∧ sB rs.length (r + r) r ≤ BIG ∧ n + m + 1 ≤ BIG) (MT.tup2 (NM (n + m + 1) (shoF (plusF l (minusF k)))) (.ex (errV 67 (0)))):=.o3 fun hok h1 h2 h3 hp=>w170.c3 hok (j1.h h1) (j2.h h2) (j3.h h3) hp
theorem w172 {r n m : Nat} {rs : List (List Rat)} {l k : List Rat} : Con Tryz.prog 172 [TWR r rs,NM n l,NM m k] (TOK rs ∧ PW rs.length l ∧ PW rs.length k ∧ 1 ≤ r ∧ 1 ≤ n ∧ 1 ≤ m ∧ sB rs.length (r + r) r ≤ BIG ∧ tB rs.length (n + m) r ≤ BIG) (MT.tup2 (NM (tB rs.length (n + m) r) (shoF (tmF rs l k))) (.ex (errV 67 (0)))):=.o3 fun hok h1 h2 h3 hp=>by
  refine St.enter (N:=22) Tryz.func172 rfl rfl rfl hok (enter3 h1 h2 h3) fun a=>?_
  have h5:=hp.1.rl
  have hbg:=sB_le (r:=r) (k:=rs.length) (n:=r + r)
  have l1:=hp.2.1.l32 h5.2
  have l2:=hp.2.2.1.l32 h5.2
  have l3:=(PW.tm h5.1 (Nat.le_refl _) hp.2.1 hp.2.2.1).l32 h5.2
  have lv:=pw_lvM hp.2.1 hp.2.2.1
  have lv2 : tB (lvM l k) (n + m) r ≤ tB rs.length (n + m) r:=tB_up lv.1
  have lv3:=tB_le (r:=r) (k:=rs.length) (n:=n + m)
  repeat' (first|((with_reducible refine gS_ ?_);first|((with_reducible refine gL_ ?_);first|refine W.run ?_ fun a w G=>?_|refine W.mv fun a w G=>?_|refine W.asg fun a w G=>?_|refine W.bx fun b a w G=>?_|(refine W.nn hK ?_;clear hK K)|refine W.nl ?_|refine W.al fun b a w G=>?_|refine W.st fun w=>?_|refine W.stp fun w=>?_|refine W.ste ?_ fun w=>?_)|((with_reducible refine gC_ ?_);first|refine W.reg fun K hK=>?_|refine W.reg1 ?_|refine W.sq fun K hK=>?_|refine W.ds ?_ (fun β a w G hu=>W.fin ?_ hu) mixedOrders (by kernel_rfl)|refine W.sk ?_|refine W.cd (fun hc=>?_) (fun hc=>?_)|refine W.cb (fun hc=>?_) (fun hc=>?_)|refine W.bl ?_|refine W.ex ?_|refine W.rt ?_)|((with_reducible refine W.kn hK ?_);clear hK K)|(with_reducible first|refine W.bn ?_|refine W.xt ?_|refine W.xb ?_|refine W.xo ?_|refine W.tr ?_|refine W.br ?_)|refine W.rt1 rfl ?_|refine W.rt2 rfl ?_ ?_|refine W.rt3 rfl ?_ ?_ ?_)|clear hK K|clear hu|exact True.intro|exact Nat.le_trans (by clear hp;omega) hp|exact Nat.le_trans (by clear hp;omega) hp.1|exact Nat.le_trans (by clear hp;omega) hp.2|(clear hp;omega)|apply And.intro|refine GI.i fun _=>?_|with_reducible rfl|decide|(simp only [List.length_cons,List.length_nil];omega))
  all_goals first
    | omega
    | exact hp.1
    | exact h5.1
    | (intro x hx;simp only [List.mem_cons,List.not_mem_nil,or_false] at hx;first | (subst hx;exact hp.2.1) | (rcases hx with hx | hx <;> subst hx <;> first | exact hp.2.1 | exact hp.2.2.1))
    | (simp;done)
    | exact lv.1
    | exact lv.2.1
    | exact lv.2.2
    | exact Nat.le_trans lv2 (by omega)
    | skip
instance {r n m : Nat} {rs : List (List Rat)} {l k : List Rat} {τ1 : MT} [j1 : NU τ1 (TWR r rs)] {τ2 : MT} [j2 : NU τ2 (NM n l)] {τ3 : MT} [j3 : NU τ3 (NM m k)] : Con Tryz.prog 172 [τ1,τ2,τ3] (TOK rs ∧ PW rs.length l ∧ PW rs.length k ∧ 1 ≤ r ∧ 1 ≤ n ∧ 1 ≤ m ∧ sB rs.length (r + r) r ≤ BIG ∧ tB rs.length (n + m) r ≤ BIG) (MT.tup2 (NM (tB rs.length (n + m) r) (shoF (tmF rs l k))) (.ex (errV 67 (0)))):=.o3 fun hok h1 h2 h3 hp=>w172.c3 hok (j1.h h1) (j2.h h2) (j3.h h3) hp
end Go.Proofs.YtnjbcjmkkejfpaaGreatDoor
