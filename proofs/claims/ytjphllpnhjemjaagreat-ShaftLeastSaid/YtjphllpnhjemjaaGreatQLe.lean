import Derived.Test.YtjphllpnhjemjaaGreatQLd
set_option linter.unusedVariables false
set_option linter.unusedSimpArgs false
set_option linter.unusedVariables false
set_option linter.unusedSimpArgs false
namespace Go.Proofs.YtjphllpnhjemjaaGreat
abbrev WT:=Int × Int × FR × Int
def wFr (w : WT) : Nat:=w.1.toNat
def wTo (w : WT) : Nat:=w.2.1.toNat
def wgW (p : Rat) (w : WT) : Rat:=w.2.2.1.val - (w.2.2.2 : Rat) * p
def okW (n : Nat) (w : WT) : Prop:=0 ≤ w.1 ∧ w.1 < n ∧ 0 ≤ w.2.1 ∧ w.2.1 < n
abbrev SRB:=List Rat × List Int × Int
def stp (p : Rat) (w : WT) (i : Nat) (r : SRB) : SRB :=
  if r.1.getD (wTo w) default < r.1.getD (wFr w) default + wgW p w then (r.1.set (wTo w) (r.1.getD (wFr w) default + wgW p w),r.2.1.set (wTo w) (i : Int),w.2.1) else r
def rdF (l : List WT) (p : Rat) (s : List Rat) (b : List Int) : Nat → SRB
  | 0=>(s,b,-1)
  | i + 1=>stp p (l.getD i default) i (rdF l p s b i)
def roF (n : Nat) (l : List WT) (p : Rat) : Nat → List Rat × List Int
  | 0=>(List.replicate n 0,List.replicate n (-1))
  | k + 1=>((rdF l p (roF n l p k).1 (roF n l p k).2 l.length).1,(rdF l p (roF n l p k).1 (roF n l p k).2 l.length).2.1)
def laF (n : Nat) (l : List WT) (p : Rat) (k : Nat) : Int:=(rdF l p (roF n l p k).1 (roF n l p k).2 l.length).2.2
theorem stp_len {p : Rat} {w : WT} {i : Nat} {r : SRB} : (stp p w i r).1.length = r.1.length ∧ (stp p w i r).2.1.length = r.2.1.length:=by
  unfold stp;split
  · exact ⟨List.length_set,List.length_set⟩
  · exact ⟨rfl,rfl⟩
theorem rdF_len {l : List WT} {p : Rat} {s : List Rat} {b : List Int} {i : Nat} : (rdF l p s b i).1.length = s.length ∧ (rdF l p s b i).2.1.length = b.length:=by
  induction i with
  | zero=>exact ⟨rfl,rfl⟩
  | succ i ih=>exact ⟨stp_len.1.trans ih.1,stp_len.2.trans ih.2⟩
theorem roF_len {n : Nat} {l : List WT} {p : Rat} {k : Nat} : (roF n l p k).1.length = n ∧ (roF n l p k).2.length = n:=by
  induction k with
  | zero=>exact ⟨List.length_replicate,List.length_replicate⟩
  | succ k ih=>exact ⟨rdF_len.1.trans ih.1,rdF_len.2.trans ih.2⟩
theorem gset {α : Type} [Inhabited α] {l : List α} {i j : Nat} {x : α} (h : i < l.length) : (l.set i x).getD j default = if j = i then x else l.getD j default:=by
  rw [List.getD_eq_getElem?_getD,List.getD_eq_getElem?_getD,List.getElem?_set]
  by_cases e : i = j
  · subst e;simp [h]
  · rw [if_neg e,if_neg (Ne.symm e)]
def OKL (n : Nat) (l : List WT) : Prop:=∀ i,i < l.length → okW n (l.getD i default)
theorem okW.fr {n : Nat} {w : WT} (h : okW n w) : wFr w < n:=by unfold okW at h;unfold wFr;omega
theorem okW.to {n : Nat} {w : WT} (h : okW n w) : wTo w < n:=by unfold okW at h;unfold wTo;omega
structure Inv (n : Nat) (l : List WT) (p : Rat) (s : List Rat) (b : List Int) (tm : Nat → Nat) (T : Nat) : Prop where
  ls : s.length = n
  lb : b.length = n
  le : ∀ v,tm v ≤ T
  nn : ∀ v,v < n → 0 ≤ s.getD v default
  ca : ∀ v,v < n → (b.getD v default = -1 ∧ s.getD v default = 0) ∨ ∃ i : Nat,b.getD v default = (i : Int) ∧ i < l.length ∧ wTo (l.getD i default) = v ∧
    s.getD v default ≤ s.getD (wFr (l.getD i default)) default + wgW p (l.getD i default) ∧ (s.getD v default = s.getD (wFr (l.getD i default)) default + wgW p (l.getD i default) → tm (wFr (l.getD i default)) < tm v)
theorem Inv.stp {n : Nat} {l : List WT} {p : Rat} {r : SRB} {tm : Nat → Nat} {T i : Nat} (hl : OKL n l) (hi : i < l.length) (h : Inv n l p r.1 r.2.1 tm T) :
    ∃ tm' T',Inv n l p (stp p (l.getD i default) i r).1 (stp p (l.getD i default) i r).2.1 tm' T':=by
  unfold Go.Proofs.YtjphllpnhjemjaaGreat.stp
  split
  · rename_i hx
    have hw:=hl i hi
    generalize hW : l.getD i default = w at *
    have hf:=hw.fr;have ht:=hw.to
    refine ⟨fun v=>if v = wTo w then T + 1 else tm v,T + 1,by rw [List.length_set,h.ls],by rw [List.length_set,h.lb],fun v=>?_,fun v hv=>?_,fun v hv=>?_⟩
    · split
      · exact Nat.le_refl _
      · exact Nat.le_succ_of_le (h.le v)
    · rw [gset (by rw [h.ls];exact ht)]
      split
      · have:=h.nn (wTo w) ht;grind
      · exact h.nn v hv
    · simp only [gset (show wTo w < r.1.length by rw [h.ls];exact ht),gset (show wTo w < r.2.1.length by rw [h.lb];exact ht)]
      by_cases hv1 : v = wTo w
      · right
        refine ⟨i,by rw [if_pos hv1],hi,by rw [hW];exact hv1.symm,?_⟩
        rw [hW]
        simp only [if_pos hv1]
        by_cases hu : wFr w = wTo w
        · have hx2 : 0 < wgW p w := by
            rw [hu] at hx
            generalize r.1.getD (wTo w) default = X at *
            grind
          rw [if_pos hu,if_pos hu]
          generalize r.1.getD (wFr w) default = X at *
          generalize wgW p w = y at *
          constructor
          · grind
          · intro e;exfalso;grind
        · rw [if_neg hu,if_neg hu]
          refine ⟨Rat.le_refl,fun _=>?_⟩
          have:=h.le (wFr w);omega
      · simp only [if_neg hv1]
        rcases h.ca v hv with hc | ⟨j,hj1,hj2,hj3,hj4,hj5⟩
        · exact .inl hc
        · right
          refine ⟨j,hj1,hj2,hj3,?_⟩
          by_cases hz : wFr (l.getD j default) = wTo w
          · rw [if_pos hz,if_pos hz]
            rw [hz] at hj4
            constructor
            · grind
            · intro e;exfalso;grind
          · rw [if_neg hz,if_neg hz]
            exact ⟨hj4,hj5⟩
  · exact ⟨tm,T,h⟩
theorem Inv.rd {n : Nat} {l : List WT} {p : Rat} {s : List Rat} {b : List Int} {tm : Nat → Nat} {T : Nat} (hl : OKL n l) (h : Inv n l p s b tm T) {i : Nat} (hi : i ≤ l.length) : ∃ tm' T',Inv n l p (rdF l p s b i).1 (rdF l p s b i).2.1 tm' T':=by
  induction i with
  | zero=>exact ⟨tm,T,h⟩
  | succ i ih =>
    obtain ⟨tm',T',h'⟩:=ih (by omega)
    exact h'.stp hl (by omega)
theorem getD_rep {α : Type} [Inhabited α] {n v : Nat} {x : α} (h : v < n) : (List.replicate n x).getD v default = x:=by
  rw [List.getD_eq_getElem?_getD,List.getElem?_replicate,if_pos h];rfl
theorem Inv.ro {n : Nat} {l : List WT} {p : Rat} (hl : OKL n l) (k : Nat) : ∃ tm T,Inv n l p (roF n l p k).1 (roF n l p k).2 tm T:=by
  induction k with
  | zero => exact ⟨fun _ => 0, 0, List.length_replicate, List.length_replicate, fun _ => Nat.le_refl _, fun v hv => by
      show 0 ≤ (List.replicate n (0 : Rat)).getD v default
      rw [getD_rep hv];exact Rat.le_refl,fun v hv=>.inl ⟨getD_rep hv,getD_rep hv⟩⟩
  | succ k ih =>
    obtain ⟨tm,T,h⟩:=ih
    exact h.rd hl (Nat.le_refl _)
def bkF (l : List WT) (b : List Int) (v : Nat) : Nat:=wFr (l.getD (b.getD v default).toNat default)
def bknF (l : List WT) (b : List Int) (v : Nat) : Nat → Nat
  | 0=>v
  | m + 1=>bkF l b (bknF l b v m)
def smF (l : List WT) (p : Rat) (b : List Int) (v : Nat) : Nat → Rat
  | 0=>0
  | m + 1=>smF l p b v m + wgW p (l.getD (b.getD (bknF l b v m) default).toNat default)
theorem bkn_lt {n : Nat} {l : List WT} {p : Rat} {s : List Rat} {b : List Int} {tm : Nat → Nat} {T : Nat} (hl : OKL n l) (h : Inv n l p s b tm T) {v : Nat} (hv : v < n) : ∀ m,(∀ k,k < m → 0 ≤ b.getD (bknF l b v k) default) → bknF l b v m < n:=by
  intro m
  induction m with
  | zero=>intro _;exact hv
  | succ m ih =>
    intro hm
    have h1:=ih fun k hk=>hm k (by omega)
    rcases h.ca _ h1 with hc | ⟨i,hi1,hi2,_⟩
    · have:=hm m (Nat.lt_succ_self m);rw [hc.1] at this;exact absurd this (by decide)
    · show wFr (l.getD (b.getD (bknF l b v m) default).toNat default) < n
      rw [hi1];exact (hl i hi2).fr
theorem bkn_le {n : Nat} {l : List WT} {p : Rat} {s : List Rat} {b : List Int} {tm : Nat → Nat} {T : Nat} (hl : OKL n l) (h : Inv n l p s b tm T) {v : Nat} (hv : v < n) : ∀ m,(∀ k,k < m → 0 ≤ b.getD (bknF l b v k) default) → s.getD v default ≤ s.getD (bknF l b v m) default + smF l p b v m ∧ (0 < m → s.getD v default = s.getD (bknF l b v m) default + smF l p b v m → tm (bknF l b v m) < tm v):=by
  intro m
  induction m with
  | zero=>intro _;exact ⟨by show _ ≤ s.getD v default + 0;grind,fun h=>absurd h (Nat.lt_irrefl 0)⟩
  | succ m ih =>
    intro hm
    have hm' : ∀ k,k < m → 0 ≤ b.getD (bknF l b v k) default:=fun k hk=>hm k (by omega)
    obtain ⟨h1,h2⟩:=ih hm'
    have hlt:=bkn_lt hl h hv m hm'
    show s.getD v default ≤ s.getD (bkF l b (bknF l b v m)) default + (smF l p b v m + wgW p (l.getD (b.getD (bknF l b v m) default).toNat default)) ∧ (0 < m + 1 → s.getD v default = s.getD (bkF l b (bknF l b v m)) default + (smF l p b v m + wgW p (l.getD (b.getD (bknF l b v m) default).toNat default)) → tm (bkF l b (bknF l b v m)) < tm v)
    rcases h.ca _ hlt with hc | ⟨i,hi1,hi2,hi3,hi4,hi5⟩
    · have:=hm m (Nat.lt_succ_self m);rw [hc.1] at this;exact absurd this (by decide)
    · unfold bkF
      rw [hi1]
      simp only [Int.toNat_natCast]
      generalize s.getD (wFr (l.getD i default)) default = X at *
      generalize wgW p (l.getD i default) = w at *
      refine ⟨by grind,fun _ e=>?_⟩
      have e1 : s.getD (bknF l b v m) default = X + w:=by grind
      have t1:=hi5 e1
      by_cases h0 : m = 0
      · subst h0;exact t1
      · have t2:=h2 (by omega) (by grind)
        omega
theorem loop_pos {n : Nat} {l : List WT} {p : Rat} {s : List Rat} {b : List Int} {tm : Nat → Nat} {T : Nat} (hl : OKL n l) (h : Inv n l p s b tm T) {v m : Nat} (hv : v < n) (hm : 0 < m) (hb : ∀ k,k < m → 0 ≤ b.getD (bknF l b v k) default) (he : bknF l b v m = v) : 0 < smF l p b v m:=by
  obtain ⟨h1,h2⟩:=bkn_le hl h hv m hb
  rw [he] at h1 h2
  have h3 : smF l p b v m ≠ 0:=fun e=>by
    have:=h2 hm (by rw [e];grind)
    omega
  have h4 : 0 ≤ smF l p b v m:=by grind
  grind
def FEA (l : List WT) (p : Rat) (P : Nat → Rat) : Prop:=∀ i,i < l.length → P (wFr (l.getD i default)) + wgW p (l.getD i default) ≤ P (wTo (l.getD i default))
theorem fea_le {n : Nat} {l : List WT} {p : Rat} {s : List Rat} {b : List Int} {tm : Nat → Nat} {T : Nat} (hl : OKL n l) (h : Inv n l p s b tm T) {P : Nat → Rat} (hP : FEA l p P) {v : Nat} (hv : v < n) : ∀ m,(∀ k,k < m → 0 ≤ b.getD (bknF l b v k) default) → P (bknF l b v m) + smF l p b v m ≤ P v:=by
  intro m
  induction m with
  | zero=>intro _;show P v + 0 ≤ P v;grind
  | succ m ih =>
    intro hm
    have hm' : ∀ k,k < m → 0 ≤ b.getD (bknF l b v k) default:=fun k hk=>hm k (by omega)
    have h1:=ih hm'
    have hlt:=bkn_lt hl h hv m hm'
    show P (bkF l b (bknF l b v m)) + (smF l p b v m + wgW p (l.getD (b.getD (bknF l b v m) default).toNat default)) ≤ P v
    rcases h.ca _ hlt with hc | ⟨i,hi1,hi2,hi3,_⟩
    · have:=hm m (Nat.lt_succ_self m);rw [hc.1] at this;exact absurd this (by decide)
    · have h3:=hP i hi2
      unfold bkF
      rw [hi1]
      simp only [Int.toNat_natCast]
      rw [hi3] at h3
      grind
theorem no_fea {n : Nat} {l : List WT} {p : Rat} {s : List Rat} {b : List Int} {tm : Nat → Nat} {T : Nat} (hl : OKL n l) (h : Inv n l p s b tm T) {v m : Nat} (hv : v < n) (hm : 0 < m) (hb : ∀ k,k < m → 0 ≤ b.getD (bknF l b v k) default) (he : bknF l b v m = v) {P : Nat → Rat} (hP : FEA l p P) : False:=by
  have h1:=loop_pos hl h hv hm hb he
  have h2:=fea_le hl h hP hv m hb
  rw [he] at h2
  grind
theorem rd_still {l : List WT} {p : Rat} {s : List Rat} {b : List Int} {n : Nat} (hl : OKL n l) {i : Nat} (hi : i ≤ l.length) : ((rdF l p s b i).2.2 < 0 → rdF l p s b i = (s,b,-1) ∧ ∀ j,j < i → s.getD (wFr (l.getD j default)) default + wgW p (l.getD j default) ≤ s.getD (wTo (l.getD j default)) default):=by
  induction i with
  | zero=>intro _;exact ⟨rfl,fun j hj=>absurd hj (Nat.not_lt_zero j)⟩
  | succ i ih =>
    show (stp p (l.getD i default) i (rdF l p s b i)).2.2 < 0 → stp p (l.getD i default) i (rdF l p s b i) = _ ∧ _
    unfold stp
    split
    · intro h
      have:=hl i (by omega)
      unfold okW at this
      exfalso
      have h' : (l.getD i default).2.1 < 0:=h
      omega
    · rename_i hx
      intro h
      obtain ⟨h1,h2⟩:=ih (by omega) h
      refine ⟨h1,fun j hj=>?_⟩
      by_cases e : j = i
      · subst e;rw [h1] at hx;grind
      · exact h2 j (by omega)
theorem la_still {n : Nat} {l : List WT} {p : Rat} {k : Nat} (hl : OKL n l) (h : laF n l p k < 0) : roF n l p (k + 1) = roF n l p k ∧ FEA l p (fun v=>(roF n l p k).1.getD v default):=by
  obtain ⟨h1,h2⟩:=rd_still (s:=(roF n l p k).1) (b:=(roF n l p k).2) hl (Nat.le_refl l.length) h
  refine ⟨?_,h2⟩
  show ((rdF l p (roF n l p k).1 (roF n l p k).2 l.length).1,(rdF l p (roF n l p k).1 (roF n l p k).2 l.length).2.1) = _
  rw [h1]
theorem pigeon : ∀ (n : Nat) (g : Nat → Nat),(∀ k,k ≤ n → g k < n) → ∃ i j,i < j ∧ j ≤ n ∧ g i = g j:=by
  intro n
  induction n with
  | zero=>intro g h;exact absurd (h 0 (Nat.le_refl 0)) (Nat.not_lt_zero _)
  | succ n ih =>
    intro g h
    by_cases hl : g (n + 1) = n
    · by_cases hx : ∃ i,i ≤ n ∧ g i = n
      · obtain ⟨i,h1,h2⟩:=hx
        exact ⟨i,n + 1,by omega,Nat.le_refl _,by rw [h2,hl]⟩
      · obtain ⟨i, j, h1, h2, h3⟩ := ih g fun k hk => by
          have:=h k (by omega)
          have : g k ≠ n:=fun e=>hx ⟨k,hk,e⟩
          omega
        exact ⟨i,j,h1,by omega,h3⟩
    · have hl2:=h (n + 1) (Nat.le_refl _)
      obtain ⟨i,j,h1,h2,h3⟩:=ih (fun k=>if g k = n then g (n + 1) else g k) fun k hk=>by
        have:=h k (by omega)
        show (if g k = n then g (n + 1) else g k) < n
        split <;> omega
      by_cases e1 : g i = n <;> by_cases e2 : g j = n
      · exact ⟨i,j,h1,by omega,by rw [e1,e2]⟩
      · simp only [if_pos e1,if_neg e2] at h3;exact ⟨j,n + 1,by omega,Nat.le_refl _,h3.symm⟩
      · simp only [if_neg e1,if_pos e2] at h3;exact ⟨i,n + 1,by omega,Nat.le_refl _,h3⟩
      · simp only [if_neg e1,if_neg e2] at h3;exact ⟨i,j,h1,by omega,h3⟩
theorem bkn_add {l : List WT} {b : List Int} {v a : Nat} : ∀ m,bknF l b (bknF l b v a) m = bknF l b v (a + m):=by
  intro m
  induction m with
  | zero=>rfl
  | succ m ih=>show bkF l b (bknF l b (bknF l b v a) m) = bkF l b (bknF l b v (a + m));rw [ih]
def cokF (l : List WT) (b : List Int) (n ev : Nat) : Bool:=(List.range (n + 1)).all fun k=>decide (0 ≤ b.getD (bknF l b ev k) default)
theorem cok_iff {l : List WT} {b : List Int} {n ev : Nat} : cokF l b n ev = true ↔ ∀ k,k ≤ n → 0 ≤ b.getD (bknF l b ev k) default:=by
  unfold cokF
  rw [List.all_eq_true]
  constructor
  · intro h k hk;exact of_decide_eq_true (h k (List.mem_range.2 (by omega)))
  · intro h k hk;exact decide_eq_true (h k (by have:=List.mem_range.1 hk;omega))
def e0F (l : List WT) (b : List Int) (n ev : Nat) : Nat:=bknF l b ev n
def prF (l : List WT) (b : List Int) (n ev : Nat) : Nat:=((List.range n).find? fun m=>decide (bknF l b (e0F l b n ev) (m + 1) = e0F l b n ev)).getD 0 + 1
def cyF (l : List WT) (b : List Int) (n ev : Nat) : List Int:=if cokF l b n ev = true then ((List.range (prF l b n ev)).map fun k=>b.getD (bknF l b (e0F l b n ev) k) default).reverse else []
theorem cy_loop {n : Nat} {l : List WT} {p : Rat} {s : List Rat} {b : List Int} {tm : Nat → Nat} {T ev : Nat} (hl : OKL n l) (h : Inv n l p s b tm T) (hv : ev < n) (hc : cokF l b n ev = true) :
    e0F l b n ev < n ∧ 1 ≤ prF l b n ev ∧ prF l b n ev ≤ n ∧ bknF l b (e0F l b n ev) (prF l b n ev) = e0F l b n ev ∧ (∀ m,0 < m → m < prF l b n ev → bknF l b (e0F l b n ev) m ≠ e0F l b n ev) ∧ (∀ m,m ≤ prF l b n ev → 0 ≤ b.getD (bknF l b (e0F l b n ev) m) default ∧ bknF l b (e0F l b n ev) m < n):=by
  have hc':=cok_iff.1 hc
  have hlt : ∀ k,k ≤ n → bknF l b ev k < n:=fun k hk=>bkn_lt hl h hv k fun j hj=>hc' j (by omega)
  obtain ⟨i,j,h1,h2,h3⟩:=pigeon n (bknF l b ev) hlt
  have hper : ∀ t,bknF l b ev (i + t) = bknF l b ev (j + t):=fun t=>by rw [← bkn_add,← bkn_add,h3]
  have hback : bknF l b (e0F l b n ev) (j - i) = e0F l b n ev:=by
    unfold e0F
    rw [bkn_add,show n + (j - i) = j + (n - i) by omega,← hper,show i + (n - i) = n by omega]
  have hin : ∀ m,m ≤ j - i → 0 ≤ b.getD (bknF l b (e0F l b n ev) m) default ∧ bknF l b (e0F l b n ev) m < n:=by
    intro m hm
    by_cases e : m = 0
    · subst e;exact ⟨hc' n (Nat.le_refl n),hlt n (Nat.le_refl n)⟩
    · unfold e0F
      rw [bkn_add,show n + m = j + (n + m - j) by omega,← hper]
      exact ⟨hc' _ (by omega),hlt _ (by omega)⟩
  have hf : ∃ m,(List.range n).find? (fun m=>decide (bknF l b (e0F l b n ev) (m + 1) = e0F l b n ev)) = some m:=by
    rw [← Option.isSome_iff_exists,List.find?_isSome]
    exact ⟨j - i - 1,List.mem_range.2 (by omega),decide_eq_true (by rw [show j - i - 1 + 1 = j - i by omega];exact hback)⟩
  obtain ⟨m,hm⟩:=hf
  have hpr : prF l b n ev = m + 1:=by unfold prF;rw [hm];rfl
  have hm':=hm
  rw [List.find?_range_eq_some] at hm'
  obtain ⟨q1,q2,q3⟩:=hm'
  have q1' : bknF l b (e0F l b n ev) (m + 1) = e0F l b n ev:=of_decide_eq_true q1
  have q2':=List.mem_range.1 q2
  have hle : m ≤ j - i - 1:=by
    apply Classical.byContradiction
    intro hgt
    have:=q3 (j - i - 1) (by omega)
    rw [show j - i - 1 + 1 = j - i by omega,hback] at this
    simp at this
  rw [hpr]
  refine ⟨hlt n (Nat.le_refl n),by omega,by omega,q1',fun t ht1 ht2 e=>?_,fun t ht=>hin t (by omega)⟩
  have:=q3 (t - 1) (by omega)
  rw [show t - 1 + 1 = t by omega,e] at this
  simp at this
theorem cy_fea {n : Nat} {l : List WT} {p : Rat} {s : List Rat} {b : List Int} {tm : Nat → Nat} {T ev : Nat} (hl : OKL n l) (h : Inv n l p s b tm T) (hv : ev < n) (hc : cokF l b n ev = true) {P : Nat → Rat} (hP : FEA l p P) : False:=by
  obtain ⟨h1,h2,h3,h4,_,h6⟩:=cy_loop hl h hv hc
  exact no_fea hl h h1 h2 (fun k hk=>(h6 k (by omega)).1) h4 hP
def rxF (n : Nat) (l : List WT) (p : Rat) : Nat → Nat → List Rat × List Int
  | 0,_=>([],[])
  | m + 1,k=>if laF n l p k < 0 then ((roF n l p (k + 1)).1,[]) else if cokF l (roF n l p (k + 1)).2 n (laF n l p k).toNat = true then ([],cyF l (roF n l p (k + 1)).2 n (laF n l p k).toNat) else rxF n l p m (k + 1)
def rsF (n : Nat) (l : List WT) (p : Rat) : Nat → Nat → List Rat
  | 0,_=>[]
  | m + 1,k=>if laF n l p k < 0 then (roF n l p (k + 1)).1 else rsF n l p m (k + 1)
theorem rd_last {l : List WT} {p : Rat} {s : List Rat} {b : List Int} {n : Nat} (hl : OKL n l) {i : Nat} (hi : i ≤ l.length) : (rdF l p s b i).2.2 = -1 ∨ (0 ≤ (rdF l p s b i).2.2 ∧ (rdF l p s b i).2.2 < n):=by
  induction i with
  | zero=>exact .inl rfl
  | succ i ih =>
    show (stp p (l.getD i default) i (rdF l p s b i)).2.2 = -1 ∨ (0 ≤ (stp p (l.getD i default) i (rdF l p s b i)).2.2 ∧ (stp p (l.getD i default) i (rdF l p s b i)).2.2 < n)
    unfold stp
    split
    · have:=hl i (by omega)
      unfold okW at this
      exact .inr ⟨this.2.2.1,this.2.2.2⟩
    · exact ih (by omega)
theorem la_lt {n : Nat} {l : List WT} {p : Rat} {k : Nat} (hl : OKL n l) (h : ¬ laF n l p k < 0) : (laF n l p k).toNat < n ∧ 0 ≤ laF n l p k ∧ laF n l p k < n:=by
  have:=rd_last (p:=p) (s:=(roF n l p k).1) (b:=(roF n l p k).2) hl (Nat.le_refl l.length)
  unfold laF at h ⊢
  omega
theorem rs_fea {n : Nat} {l : List WT} {p : Rat} (hl : OKL n l) : ∀ m k,rsF n l p m k ≠ [] → ∃ j,rsF n l p m k = (roF n l p j).1 ∧ laF n l p j < 0 ∧ FEA l p (fun v=>(roF n l p j).1.getD v default):=by
  intro m
  induction m with
  | zero=>intro k h;exact absurd rfl h
  | succ m ih =>
    intro k h
    unfold rsF at h ⊢
    split
    · rename_i hk
      obtain ⟨h1,h2⟩:=la_still hl hk
      exact ⟨k,by rw [h1],hk,h2⟩
    · rename_i hk
      rw [if_neg hk] at h
      exact ih (k + 1) h
theorem rx_rs {n : Nat} {l : List WT} {p : Rat} (hl : OKL n l) : ∀ m k,(rxF n l p m k).1 = rsF n l p m k:=by
  intro m
  induction m with
  | zero=>intro k;rfl
  | succ m ih =>
    intro k
    unfold rxF rsF
    split
    · rfl
    · rename_i hk
      split
      · rename_i hc
        apply Classical.byContradiction
        intro hne
        have hne' : rsF n l p m (k + 1) ≠ []:=fun e=>hne (by rw [e])
        obtain ⟨j,_,_,hf⟩:=rs_fea hl m (k + 1) hne'
        obtain ⟨tm,T,hI⟩:=Inv.ro (p:=p) hl (k + 1)
        exact cy_fea hl hI (la_lt hl hk).1 hc hf
      · exact ih (k + 1)
structure Jnv (n : Nat) (l : List WT) (p : Rat) (s : List Rat) (b : List Int) (rn : Nat → Nat) (r i : Nat) : Prop where
  le : ∀ v,rn v ≤ r
  j0 : ∀ v,v < n → 1 ≤ rn v → 0 ≤ b.getD v default
  j1 : ∀ v,v < n → ∀ c : Nat,b.getD v default = (c : Int) → c < l.length → rn v ≤ rn (wFr (l.getD c default)) + 1
  jk : ∀ j,j < l.length → s.getD (wFr (l.getD j default)) default + wgW p (l.getD j default) ≤ s.getD (wTo (l.getD j default)) default ∨ (if j < i then r ≤ rn (wFr (l.getD j default)) else r ≤ rn (wFr (l.getD j default)) + 1)
theorem Jnv.stp {n : Nat} {l : List WT} {p : Rat} {q : SRB} {rn : Nat → Nat} {r i : Nat} (hl : OKL n l) (hi : i < l.length) (hs : q.1.length = n) (hb : q.2.1.length = n) (h : Jnv n l p q.1 q.2.1 rn r i) (hlast : q.2.2 = -1 ∨ (0 ≤ q.2.2 ∧ rn q.2.2.toNat = r)) :
    ∃ rn',Jnv n l p (stp p (l.getD i default) i q).1 (stp p (l.getD i default) i q).2.1 rn' r (i + 1) ∧ ((stp p (l.getD i default) i q).2.2 = -1 ∨ (0 ≤ (stp p (l.getD i default) i q).2.2 ∧ rn' (stp p (l.getD i default) i q).2.2.toNat = r)):=by
  have hw:=hl i hi
  have hk:=h.jk i hi
  rw [if_neg (Nat.lt_irrefl i)] at hk
  unfold Go.Proofs.YtjphllpnhjemjaaGreat.stp
  split
  · rename_i hx
    have hf:=hw.fr;have ht:=hw.to
    have hk2 : r ≤ rn (wFr (l.getD i default)) + 1:=by
      rcases hk with hk | hk
      · exfalso;grind
      · exact hk
    generalize hW : l.getD i default = w at *
    refine ⟨fun v=>if v = wTo w then r else rn v,⟨fun v=>?_,fun v hv h1=>?_,fun v hv c hc hcl=>?_,fun j hj=>?_⟩,.inr ⟨by unfold okW at hw;exact hw.2.2.1,if_pos rfl⟩⟩
    · split
      · exact Nat.le_refl _
      · exact h.le v
    · rw [gset (by omega)]
      split
      · exact Int.natCast_nonneg i
      · rename_i hv1
        rw [if_neg hv1] at h1
        exact h.j0 v hv h1
    · rw [gset (by omega)] at hc
      by_cases hv1 : v = wTo w
      · rw [if_pos hv1] at hc
        have : c = i:=by omega
        subst this
        rw [if_pos hv1,hW]
        split <;> omega
      · rw [if_neg hv1] at hc
        have h2:=h.j1 v hv c hc hcl
        have h3:=h.le v
        rw [if_neg hv1]
        split <;> omega
    · have h2:=h.jk j hj
      generalize hU : l.getD j default = u at *
      by_cases hu : wFr u = wTo w
      · right
        simp only [if_pos hu]
        split <;> omega
      · rw [gset (by omega),gset (by omega),if_neg hu]
        by_cases hji : j = i
        · subst hji
          have e : w = u:=hW.symm.trans hU
          subst e
          left
          rw [if_pos rfl];exact Rat.le_refl
        · rw [if_neg hu]
          have hlt : (if j < i + 1 then r ≤ rn (wFr u) else r ≤ rn (wFr u) + 1) ↔ (if j < i then r ≤ rn (wFr u) else r ≤ rn (wFr u) + 1):=by
            by_cases h5 : j < i
            · rw [if_pos h5,if_pos (by omega)]
            · rw [if_neg h5,if_neg (by omega)]
          rw [hlt]
          by_cases ht2 : wTo u = wTo w
          · rw [if_pos ht2]
            rcases h2 with h2 | h2
            · left;rw [ht2] at h2;grind
            · exact .inr h2
          · rw [if_neg ht2];exact h2
  · rename_i hx
    refine ⟨rn,⟨h.le,h.j0,h.j1,fun j hj=>?_⟩,hlast⟩
    have h2:=h.jk j hj
    by_cases hji : j = i
    · subst hji
      left;grind
    · have hlt : (if j < i + 1 then r ≤ rn (wFr (l.getD j default)) else r ≤ rn (wFr (l.getD j default)) + 1) ↔ (if j < i then r ≤ rn (wFr (l.getD j default)) else r ≤ rn (wFr (l.getD j default)) + 1) := by
        by_cases h5 : j < i
        · rw [if_pos h5,if_pos (by omega)]
        · rw [if_neg h5,if_neg (by omega)]
      rw [hlt];exact h2
theorem Jnv.rd {n : Nat} {l : List WT} {p : Rat} {s : List Rat} {b : List Int} {rn : Nat → Nat} {r : Nat} (hl : OKL n l) (hs : s.length = n) (hb : b.length = n) (h : Jnv n l p s b rn r 0) {i : Nat} (hi : i ≤ l.length) : ∃ rn',Jnv n l p (rdF l p s b i).1 (rdF l p s b i).2.1 rn' r i ∧ ((rdF l p s b i).2.2 = -1 ∨ (0 ≤ (rdF l p s b i).2.2 ∧ rn' (rdF l p s b i).2.2.toNat = r)):=by
  induction i with
  | zero=>exact ⟨rn,h,.inl rfl⟩
  | succ i ih =>
    obtain ⟨rn',h',hla⟩:=ih (by omega)
    exact h'.stp hl (by omega) (rdF_len.1.trans hs) (rdF_len.2.trans hb) hla
theorem Jnv.ro {n : Nat} {l : List WT} {p : Rat} (hl : OKL n l) (k : Nat) : ∃ rn,Jnv n l p (roF n l p k).1 (roF n l p k).2 rn (k + 1) 0:=by
  induction k with
  | zero => exact ⟨fun _ => 0, fun _ => Nat.zero_le _, fun v hv h => absurd h (by omega), fun v hv c hc => by
      have : (List.replicate n (-1 : Int)).getD v default = (c : Int):=hc
      rw [getD_rep hv] at this;omega,fun j hj=>.inr (by rw [if_neg (Nat.not_lt_zero j)];exact Nat.le_refl _)⟩
  | succ k ih =>
    obtain ⟨rn,h⟩:=ih
    obtain ⟨rn',h',_⟩:=h.rd hl roF_len.1 roF_len.2 (Nat.le_refl l.length)
    refine ⟨rn',fun v=>Nat.le_succ_of_le (h'.le v),h'.j0,h'.j1,fun j hj=>?_⟩
    rcases h'.jk j hj with h2 | h2
    · exact .inl h2
    · rw [if_pos hj] at h2
      exact .inr (by rw [if_neg (Nat.not_lt_zero j)];omega)
theorem conv {n : Nat} {l : List WT} {p : Rat} (hl : OKL n l) {P : Nat → Rat} (hP : FEA l p P) : laF n l p n < 0:=by
  apply Classical.byContradiction
  intro hk
  obtain ⟨rn,h⟩:=Jnv.ro (p:=p) hl n
  obtain ⟨rn',h',hla⟩:=h.rd hl roF_len.1 roF_len.2 (Nat.le_refl l.length)
  obtain ⟨tm,T,hI⟩:=Inv.ro (p:=p) hl (n + 1)
  have hlt:=la_lt hl hk
  have e1 : rn' (laF n l p n).toNat = n + 1:=by
    rcases hla with e | e
    · exact absurd (show laF n l p n < 0 by unfold laF;omega) hk
    · exact e.2
  have key : ∀ k,k ≤ n → n + 1 - k ≤ rn' (bknF l (roF n l p (n + 1)).2 (laF n l p n).toNat k) ∧ ∀ j,j ≤ k → 0 ≤ (roF n l p (n + 1)).2.getD (bknF l (roF n l p (n + 1)).2 (laF n l p n).toNat j) default:=by
    intro k
    induction k with
    | zero => intro _; refine ⟨by rw [show bknF l (roF n l p (n + 1)).2 (laF n l p n).toNat 0 = (laF n l p n).toNat from rfl, e1]; omega, fun j hj => ?_⟩
              obtain rfl : j = 0:=by omega
              exact h'.j0 _ hlt.1 (by rw [show bknF l (roF n l p (n + 1)).2 (laF n l p n).toNat 0 = (laF n l p n).toNat from rfl,e1];omega)
    | succ k ih =>
      intro hkn
      obtain ⟨a1,a2⟩:=ih (by omega)
      have hb:=bkn_lt hl hI hlt.1 k fun j hj=>a2 j (by omega)
      have hb0:=a2 k (Nat.le_refl k)
      have hb1:=bkn_lt hl hI hlt.1 (k + 1) fun j hj=>a2 j (by omega)
      have a3 : n + 1 - (k + 1) ≤ rn' (bknF l (roF n l p (n + 1)).2 (laF n l p n).toNat (k + 1)):=by
        rcases hI.ca _ hb with hc | ⟨c,hc1,hc2,_⟩
        · rw [hc.1] at hb0;exact absurd hb0 (by decide)
        · have:=h'.j1 _ hb c hc1 hc2
          show n + 1 - (k + 1) ≤ rn' (wFr (l.getD ((roF n l p (n + 1)).2.getD (bknF l (roF n l p (n + 1)).2 (laF n l p n).toNat k) default).toNat default))
          rw [hc1]
          simp only [Int.toNat_natCast]
          omega
      refine ⟨a3,fun j hj=>?_⟩
      by_cases e : j = k + 1
      · subst e;exact h'.j0 _ hb1 (by omega)
      · exact a2 j (by omega)
  exact cy_fea hl hI hlt.1 (cok_iff.2 fun k hk=>(key k hk).2 k (Nat.le_refl k)) hP
theorem rs_some {n : Nat} {l : List WT} {p : Rat} (hn : 0 < n) {j : Nat} (hj : laF n l p j < 0) : ∀ m k,k ≤ j → j < k + m → rsF n l p m k ≠ []:=by
  intro m
  induction m with
  | zero=>intro k h1 h2;omega
  | succ m ih =>
    intro k h1 h2
    unfold rsF
    split
    · intro e
      have:=roF_len (n:=n) (l:=l) (p:=p) (k:=k + 1)
      rw [e] at this
      have h0 : 0 = n:=this.1
      omega
    · rename_i hk
      refine ih (k + 1) ?_ (by omega)
      rcases Nat.lt_or_eq_of_le h1 with h | h
      · exact h
      · subst h;exact absurd hj hk
theorem rs_iff {n : Nat} {l : List WT} {p : Rat} (hl : OKL n l) (hn : 0 < n) : rsF n l p (n + 1) 0 ≠ [] ↔ ∃ P,FEA l p P:=by
  constructor
  · intro h;obtain ⟨j,_,_,h⟩:=rs_fea hl _ _ h;exact ⟨_,h⟩
  · rintro ⟨P,hP⟩;exact rs_some hn (conv hl hP) _ _ (Nat.zero_le _) (by omega)
end Go.Proofs.YtjphllpnhjemjaaGreat
set_option linter.unusedVariables false
set_option linter.unusedSimpArgs false
namespace Go.Proofs.YtjphllpnhjemjaaGreat
theorem Rat.num_den_le (a : Int) (b : Nat) (hb : b ≠ 0) : (mkRat a b).num.natAbs ≤ a.natAbs ∧ (mkRat a b).den ≤ b:=by
  unfold mkRat
  rw [dif_neg hb,Rat.normalize_eq]
  constructor
  · show (a / ((a.natAbs.gcd b : Nat) : Int)).natAbs ≤ a.natAbs
    rw [Int.natAbs_ediv_of_dvd (Int.ofNat_dvd_left.2 (Nat.gcd_dvd_left _ _))]
    exact Nat.div_le_self _ _
  · exact Nat.div_le_self _ _
theorem qb.add {n m : Nat} {x y : Rat} (hx : qb n x) (hy : qb m y) : qb (n + m + 1) (x + y):=by
  have e : x + y = mkRat (x.num * (y.den : Int) + y.num * (x.den : Int)) (x.den * y.den):=by rw [Rat.add_def,Rat.normalize_eq_mkRat]
  have h:=Rat.num_den_le (x.num * (y.den : Int) + y.num * (x.den : Int)) (x.den * y.den) (Nat.mul_ne_zero x.den_nz y.den_nz)
  rw [← e] at h
  have p1 : x.num.natAbs * y.den < 2 ^ n * 2 ^ m:=Nat.mul_lt_mul_of_lt_of_lt hx.1 hy.2
  have p2 : y.num.natAbs * x.den < 2 ^ m * 2 ^ n:=Nat.mul_lt_mul_of_lt_of_lt hy.1 hx.2
  have p3 : x.den * y.den < 2 ^ n * 2 ^ m:=Nat.mul_lt_mul_of_lt_of_lt hx.2 hy.2
  have e1 : 2 ^ (n + m + 1) = 2 ^ n * 2 ^ m + 2 ^ m * 2 ^ n:=by rw [Nat.pow_succ,Nat.pow_add,Nat.mul_comm (2 ^ m) (2 ^ n)];omega
  constructor
  · refine Nat.lt_of_le_of_lt h.1 ?_
    have h3:=Int.natAbs_add_le (x.num * (y.den : Int)) (y.num * (x.den : Int))
    rw [Int.natAbs_mul,Int.natAbs_mul,Int.natAbs_natCast,Int.natAbs_natCast] at h3
    omega
  · have:=h.2;omega
theorem qb_0 : qb 1 (0 : Rat):=⟨by decide,by decide⟩
theorem rd_qb {n c : Nat} {l : List WT} {p : Rat} {s : List Rat} {b : List Int} {t : Nat} (hl : OKL n l) (hs : s.length = n) (hb : b.length = n) (hw : ∀ j, j < l.length → qb c (wgW p (l.getD j default))) (h : ∀ v, v < n → qb (t * (c + 1) + 1) (s.getD v default)) {i : Nat} (hi : i ≤ l.length) :
    ∀ v,v < n → qb ((t + i) * (c + 1) + 1) ((rdF l p s b i).1.getD v default):=by
  induction i with
  | zero=>exact h
  | succ i ih =>
    have ih':=ih (by omega)
    have hok:=hl i (by omega)
    have hlen : (rdF l p s b i).1.length = n:=rdF_len.1.trans hs
    intro v hv
    have hup : (t + i) * (c + 1) + 1 + c + 1 = (t + (i + 1)) * (c + 1) + 1:=by rw [show t + (i + 1) = t + i + 1 by omega,Nat.succ_mul];omega
    show qb _ ((stp p (l.getD i default) i (rdF l p s b i)).1.getD v default)
    unfold stp
    split
    · rw [gset (by rw [hlen];exact hok.to)]
      split
      · rw [← hup];exact qb.add (ih' _ hok.fr) (hw i (by omega))
      · exact qb.up (ih' v hv) (by omega)
    · exact qb.up (ih' v hv) (by omega)
theorem ro_qb {n c : Nat} {l : List WT} {p : Rat} (hl : OKL n l) (hw : ∀ j,j < l.length → qb c (wgW p (l.getD j default))) (k : Nat) : ∀ v,v < n → qb (k * l.length * (c + 1) + 1) ((roF n l p k).1.getD v default):=by
  induction k with
  | zero =>
    intro v hv
    show qb _ ((List.replicate n (0 : Rat)).getD v default)
    rw [getD_rep hv];exact qb.up qb_0 (by omega)
  | succ k ih =>
    intro v hv
    have:=rd_qb (b:=(roF n l p k).2) hl roF_len.1 roF_len.2 hw ih (Nat.le_refl l.length) v hv
    rw [Nat.succ_mul k];exact this
def slF (l : List WT) (p : Rat) (s : List Rat) (i : Nat) : Rat:=s.getD (wTo (l.getD i default)) default - s.getD (wFr (l.getD i default)) default - wgW p (l.getD i default)
theorem sl_nn {l : List WT} {p : Rat} {s : List Rat} (h : FEA l p fun v=>s.getD v default) {i : Nat} (hi : i < l.length) : 0 ≤ slF l p s i:=by
  have:=h i hi;unfold slF;grind
theorem sl_tight {n : Nat} {l : List WT} {p : Rat} (hl : OKL n l) {k : Nat} (hk : laF n l p k < 0) {v : Nat} (hv : v < n) : 0 ≤ (roF n l p k).1.getD v default ∧ ((roF n l p k).1.getD v default = 0 ∨ ∃ i,i < l.length ∧ wTo (l.getD i default) = v ∧ slF l p (roF n l p k).1 i = 0):=by
  obtain ⟨tm,T,h⟩:=Inv.ro (p:=p) hl k
  obtain ⟨_,hf⟩:=la_still hl hk
  refine ⟨h.nn v hv,?_⟩
  rcases h.ca v hv with hc | ⟨i,h1,h2,h3,h4,_⟩
  · exact .inl hc.2
  · refine .inr ⟨i,h2,h3,?_⟩
    have:=hf i h2
    unfold slF
    rw [h3] at this ⊢
    grind
def TNN (l : List WT) : Prop:=∀ i,i < l.length → 0 ≤ (l.getD i default).2.2.2
def tiF (l : List WT) (lo : List Int) : Nat → Rat
  | 0=>0
  | k + 1=>tiF l lo k + (l.getD (lo.getD k default).toNat default).2.2.1.val
def tuF (l : List WT) (lo : List Int) : Nat → Int
  | 0=>0
  | k + 1=>tuF l lo k + (l.getD (lo.getD k default).toNat default).2.2.2
def LPD (l : List WT) (lo : List Int) : Prop:=∀ k,k < lo.length → (l.getD (lo.getD k default).toNat default).2.1 = (l.getD (lo.getD ((k + 1) % lo.length) default).toNat default).1
def INL (l : List WT) (lo : List Int) : Prop:=∀ k,k < lo.length → 0 ≤ lo.getD k default ∧ lo.getD k default < l.length
end Go.Proofs.YtjphllpnhjemjaaGreat
set_option linter.unusedVariables false
set_option linter.unusedSimpArgs false
namespace Go.Proofs.YtjphllpnhjemjaaGreat
def smt (l : List WT) : List Int → Rat
  | []=>0
  | x :: xs=>(l.getD x.toNat default).2.2.1.val + smt l xs
def sut (l : List WT) : List Int → Int
  | []=>0
  | x :: xs=>(l.getD x.toNat default).2.2.2 + sut l xs
theorem smt_app {l : List WT} {a b : List Int} : smt l (a ++ b) = smt l a + smt l b ∧ sut l (a ++ b) = sut l a + sut l b:=by
  induction a with
  | nil=>exact ⟨by show smt l b = 0 + smt l b;grind,by show sut l b = 0 + sut l b;omega⟩
  | cons x a ih=>exact ⟨by show _ + smt l (a ++ b) = _ + smt l a + _;rw [ih.1];grind,by show _ + sut l (a ++ b) = _ + sut l a + _;rw [ih.2];omega⟩
theorem smt_rev {l : List WT} {a : List Int} : smt l a.reverse = smt l a ∧ sut l a.reverse = sut l a:=by
  induction a with
  | nil=>exact ⟨rfl,rfl⟩
  | cons x a ih =>
    rw [List.reverse_cons,smt_app.1,smt_app.2,ih.1,ih.2]
    exact ⟨by show smt l a + (_ + 0) = _ + smt l a;grind,by show sut l a + (_ + 0) = _ + sut l a;omega⟩
theorem ti_take {l : List WT} {lo : List Int} : ∀ k,k ≤ lo.length → tiF l lo k = smt l (lo.take k) ∧ tuF l lo k = sut l (lo.take k):=by
  intro k
  induction k with
  | zero=>intro _;exact ⟨rfl,rfl⟩
  | succ k ih =>
    intro h
    have h1:=ih (by omega)
    rw [List.take_add_one,List.getElem?_eq_getElem (by omega : k < lo.length),smt_app.1,smt_app.2,← h1.1,← h1.2]
    have e : lo.getD k default = lo[k]:=by rw [List.getD_eq_getElem?_getD,List.getElem?_eq_getElem (by omega : k < lo.length)];rfl
    exact ⟨by show tiF l lo k + _ = tiF l lo k + (_ + 0);rw [e];grind,by show tuF l lo k + _ = tuF l lo k + (_ + 0);rw [e];omega⟩
theorem ti_all {l : List WT} {lo : List Int} : tiF l lo lo.length = smt l lo ∧ tuF l lo lo.length = sut l lo:=by
  have:=ti_take (l:=l) (lo:=lo) lo.length (Nat.le_refl _)
  rwa [List.take_length] at this
theorem sm_list {l : List WT} {p : Rat} {b : List Int} {v : Nat} : ∀ m,smF l p b v m = smt l ((List.range m).map fun k=>b.getD (bknF l b v k) default) - (sut l ((List.range m).map fun k=>b.getD (bknF l b v k) default) : Rat) * p:=by
  intro m
  induction m with
  | zero=>show (0 : Rat) = 0 - ((0 : Int) : Rat) * p;grind
  | succ m ih =>
    rw [List.range_succ,List.map_append,smt_app.1,smt_app.2,Rat.intCast_add]
    show smF l p b v m + wgW p _ = smt l _ + (_ + 0) - (_ + ((_ + 0 : Int) : Rat)) * p
    rw [ih,Int.add_zero]
    unfold wgW
    grind
theorem cy_list {n : Nat} {l : List WT} {p : Rat} {s : List Rat} {b : List Int} {tm : Nat → Nat} {T ev : Nat} (hl : OKL n l) (h : Inv n l p s b tm T) (hv : ev < n) (hc : cokF l b n ev = true) :
    INL l (cyF l b n ev) ∧ 1 ≤ (cyF l b n ev).length ∧ (cyF l b n ev).length ≤ n ∧ (sut l (cyF l b n ev) : Rat) * p < smt l (cyF l b n ev):=by
  obtain ⟨h1,h2,h3,h4,_,h6⟩:=cy_loop hl h hv hc
  have hcy : cyF l b n ev = ((List.range (prF l b n ev)).map fun k=>b.getD (bknF l b (e0F l b n ev) k) default).reverse:=if_pos hc
  have hlen : (cyF l b n ev).length = prF l b n ev:=by rw [hcy,List.length_reverse,List.length_map,List.length_range]
  refine ⟨fun k hk=>?_,by omega,by omega,?_⟩
  · have hm : (cyF l b n ev).getD k default ∈ cyF l b n ev:=by rw [List.getD_eq_getElem?_getD,List.getElem?_eq_getElem hk];exact List.getElem_mem hk
    rw [hcy,List.mem_reverse,List.mem_map] at hm
    obtain ⟨j,hj,e⟩:=hm
    have hj':=List.mem_range.1 hj
    have a1:=h6 j (by omega)
    rw [← hcy] at e
    rw [← e]
    rcases h.ca _ a1.2 with hx | ⟨i,hi1,hi2,_⟩
    · rw [hx.1] at a1;exact absurd a1.1 (by decide)
    · rw [hi1];omega
  · have hp:=loop_pos hl h h1 h2 (fun k hk=>(h6 k (by omega)).1) h4
    rw [sm_list] at hp
    rw [hcy,smt_rev.1,smt_rev.2]
    grind
theorem rx_dich {n : Nat} {l : List WT} {p : Rat} (hl : OKL n l) (hn : 0 < n) : ((rxF n l p (n + 1) 0).1 ≠ [] ∧ (rxF n l p (n + 1) 0).2 = []) ∨ ((rxF n l p (n + 1) 0).1 = [] ∧ INL l (rxF n l p (n + 1) 0).2 ∧ 1 ≤ (rxF n l p (n + 1) 0).2.length ∧ (rxF n l p (n + 1) 0).2.length ≤ n ∧ (sut l (rxF n l p (n + 1) 0).2 : Rat) * p < smt l (rxF n l p (n + 1) 0).2) ∨ ((rxF n l p (n + 1) 0) = ([],[])):=by
  have key : ∀ m k,((rxF n l p m k).1 ≠ [] ∧ (rxF n l p m k).2 = []) ∨ ((rxF n l p m k).1 = [] ∧ INL l (rxF n l p m k).2 ∧ 1 ≤ (rxF n l p m k).2.length ∧ (rxF n l p m k).2.length ≤ n ∧ (sut l (rxF n l p m k).2 : Rat) * p < smt l (rxF n l p m k).2) ∨ ((rxF n l p m k) = ([],[])):=by
    intro m
    induction m with
    | zero=>intro k;exact .inr (.inr rfl)
    | succ m ih =>
      intro k
      unfold rxF
      split
      · refine .inl ⟨fun e=>?_,rfl⟩
        have:=roF_len (n:=n) (l:=l) (p:=p) (k:=k + 1)
        rw [show (roF n l p (k + 1)).1 = [] from e] at this
        have h0 : 0 = n:=this.1
        omega
      · rename_i hk
        split
        · rename_i hc
          obtain ⟨tm,T,hI⟩:=Inv.ro (p:=p) hl (k + 1)
          exact .inr (.inl ⟨rfl,cy_list hl hI (la_lt hl hk).1 hc⟩)
        · exact ih (k + 1)
  exact key _ _
def qtF (l : List WT) (lo : List Int) : Rat:=smt l lo / (sut l lo : Rat)
def itF (n : Nat) (l : List WT) : Nat → Rat × List Int
  | 0=>(0,[])
  | j + 1=>(qtF l (rxF n l (itF n l j).1 (n + 1) 0).2,(rxF n l (itF n l j).1 (n + 1) 0).2)
def goF (n : Nat) (l : List WT) (j : Nat) : Bool:=decide ((rxF n l (itF n l j).1 (n + 1) 0).1 = []) && decide (sut l (rxF n l (itF n l j).1 (n + 1) 0).2 ≠ 0)
def allF (len : Nat) : Nat → List (List Int)
  | 0=>[[]]
  | m + 1=>(allF len m).flatMap fun lo=>(List.range len).map fun (i : Nat)=>lo ++ [(i : Int)]
def qsF (n : Nat) (l : List WT) : List Rat:=(List.range (n + 1)).flatMap fun m=>(allF l.length m).map (qtF l)
theorem all_mem {l : List WT} {lo : List Int} (h : INL l lo) : ∀ k,k ≤ lo.length → lo.take k ∈ allF l.length k:=by
  intro k
  induction k with
  | zero=>intro _;exact List.mem_singleton.2 rfl
  | succ k ih =>
    intro hk
    have h1:=ih (by omega)
    have h2:=h k (by omega)
    have e : lo.getD k default = lo[k]:=by rw [List.getD_eq_getElem?_getD,List.getElem?_eq_getElem (by omega : k < lo.length)];rfl
    rw [e] at h2
    rw [List.take_add_one,List.getElem?_eq_getElem (by omega : k < lo.length)]
    show lo.take k ++ [lo[k]] ∈ (allF l.length k).flatMap _
    refine List.mem_flatMap.2 ⟨lo.take k,h1,List.mem_map.2 ⟨lo[k].toNat,List.mem_range.2 (by omega),?_⟩⟩
    rw [show ((lo[k].toNat : Nat) : Int) = lo[k] by omega]
theorem qs_mem {n : Nat} {l : List WT} {lo : List Int} (h : INL l lo) (hn : lo.length ≤ n) : qtF l lo ∈ qsF n l:=by
  unfold qsF
  refine List.mem_flatMap.2 ⟨lo.length,List.mem_range.2 (by omega),List.mem_map.2 ⟨lo,?_,rfl⟩⟩
  have:=all_mem h lo.length (Nat.le_refl _)
  rwa [List.take_length] at this
def meF (n : Nat) (l : List WT) (p : Rat) : Nat:=(qsF n l).countP fun q=>decide (p < q)
theorem count_lt {α : Type} {a b : α → Bool} {L : List α} (h : ∀ x ∈ L,a x = true → b x = true) (hx : ∃ x ∈ L,b x = true ∧ a x = false) : L.countP a < L.countP b:=by
  induction L with
  | nil=>obtain ⟨x,h1,_⟩:=hx;simp at h1
  | cons y L ih =>
    have h0:=List.countP_mono_left (l:=L) fun x hx=>h x (List.mem_cons_of_mem _ hx)
    rw [List.countP_cons,List.countP_cons]
    obtain ⟨x,h1,h2,h3⟩:=hx
    rcases List.mem_cons.1 h1 with rfl | h1
    · rw [h2,h3];simp;omega
    · have:=ih (fun x hx=>h x (List.mem_cons_of_mem _ hx)) ⟨x,h1,h2,h3⟩
      have h4:=h y (List.mem_cons_self ..)
      cases ha : a y with
      | false=>simp;split <;> omega
      | true=>rw [h4 ha];simp;omega
theorem me_lt {n : Nat} {l : List WT} {p q : Rat} (h : p < q) (hq : q ∈ qsF n l) : meF n l q < meF n l p :=
  count_lt (fun x _ hx=>decide_eq_true (by have:=of_decide_eq_true hx;grind)) ⟨q,hq,decide_eq_true h,decide_eq_false (by grind)⟩
theorem sut_nn {l : List WT} {lo : List Int} (ht : TNN l) (h : INL l lo) : 0 ≤ sut l lo:=by
  have key : ∀ k,k ≤ lo.length → 0 ≤ tuF l lo k:=by
    intro k
    induction k with
    | zero=>intro _;exact Int.le_refl 0
    | succ k ih =>
      intro hk
      have h1:=ih (by omega)
      have h2:=h k (by omega)
      have h3:=ht (lo.getD k default).toNat (by omega)
      show 0 ≤ tuF l lo k + _
      omega
  rw [← ti_all.2];exact key _ (Nat.le_refl _)
theorem it_up {n : Nat} {l : List WT} (hl : OKL n l) (ht : TNN l) (hn : 0 < n) {j : Nat} (h : goF n l j = true) : (itF n l j).1 < (itF n l (j + 1)).1 ∧ (itF n l (j + 1)).1 ∈ qsF n l ∧ INL l (itF n l (j + 1)).2 ∧ 1 ≤ (itF n l (j + 1)).2.length ∧ (itF n l (j + 1)).2.length ≤ n ∧ 0 < sut l (itF n l (j + 1)).2 ∧ smt l (itF n l (j + 1)).2 = (itF n l (j + 1)).1 * (sut l (itF n l (j + 1)).2 : Rat):=by
  unfold goF at h
  rw [Bool.and_eq_true,decide_eq_true_eq,decide_eq_true_eq] at h
  rcases rx_dich (p:=(itF n l j).1) hl hn with d | d | d
  · exact absurd h.1 d.1
  · obtain ⟨_,d1,d2,d3,d4⟩:=d
    have h0:=sut_nn ht d1
    have h1 : 0 < sut l (rxF n l (itF n l j).1 (n + 1) 0).2:=by have:=h.2;omega
    have h2 : (0 : Rat) < ((sut l (rxF n l (itF n l j).1 (n + 1) 0).2 : Int) : Rat):=by exact_mod_cast h1
    refine ⟨?_,qs_mem d1 d3,d1,d2,d3,h1,?_⟩
    · show (itF n l j).1 < qtF l _
      unfold qtF
      rw [Rat.lt_div_iff h2,Rat.mul_comm];exact d4
    · show smt l _ = qtF l _ * _
      unfold qtF
      exact (Rat.div_mul_cancel (by grind)).symm
  · exfalso
    apply h.2
    rw [d];rfl
theorem it_me {n : Nat} {l : List WT} (hl : OKL n l) (ht : TNN l) (hn : 0 < n) {j : Nat} (h : goF n l j = true) : meF n l (itF n l (j + 1)).1 < meF n l (itF n l j).1 :=
  me_lt (it_up hl ht hn h).1 (it_up hl ht hn h).2.1
theorem it_end {n : Nat} {l : List WT} (hl : OKL n l) (ht : TNN l) (hn : 0 < n) : ∃ j,goF n l j = false ∧ ∀ i,i < j → goF n l i = true:=by
  have key : ∀ m j,meF n l (itF n l j).1 ≤ m → (∀ i,i < j → goF n l i = true) → ∃ j,goF n l j = false ∧ ∀ i,i < j → goF n l i = true:=by
    intro m
    induction m with
    | zero =>
      intro j hm hi
      cases hg : goF n l j with
      | false=>exact ⟨j,hg,hi⟩
      | true=>have:=it_me hl ht hn hg;omega
    | succ m ih =>
      intro j hm hi
      cases hg : goF n l j with
      | false=>exact ⟨j,hg,hi⟩
      | true =>
        refine ih (j + 1) (by have:=it_me hl ht hn hg;omega) fun i hij=>?_
        by_cases e : i = j
        · subst e;exact hg
        · exact hi i (by omega)
  exact key _ 0 (Nat.le_refl _) fun i hi=>absurd hi (Nat.not_lt_zero i)
open Classical in
noncomputable def jsF (n : Nat) (l : List WT) : Nat:=if h : ∃ j,goF n l j = false ∧ ∀ i,i < j → goF n l i = true then h.choose else 0
theorem js_ok {n : Nat} {l : List WT} (hl : OKL n l) (ht : TNN l) (hn : 0 < n) : goF n l (jsF n l) = false ∧ ∀ i,i < jsF n l → goF n l i = true:=by
  have h:=it_end hl ht hn
  unfold jsF
  rw [dif_pos h]
  exact h.choose_spec
theorem js_eq {n : Nat} {l : List WT} (hl : OKL n l) (ht : TNN l) (hn : 0 < n) {j : Nat} (h1 : goF n l j = false) (h2 : ∀ i,i < j → goF n l i = true) : jsF n l = j:=by
  have h:=js_ok hl ht hn
  rcases Nat.lt_trichotomy (jsF n l) j with k | k | k
  · have:=h2 _ k;rw [h.1] at this;cases this
  · exact k
  · have:=h.2 _ k;rw [h1] at this;cases this
end Go.Proofs.YtjphllpnhjemjaaGreat
set_option linter.unusedVariables false
set_option linter.unusedSimpArgs false
namespace Go.Proofs.YtjphllpnhjemjaaGreat
theorem map_nil {α β : Type} {f : α → β} {l : List α} : l.map f = [] ↔ l = []:=List.map_eq_nil_iff
noncomputable def lsE (n : Nat) (l : List WT) : Int:=if (rxF n l (itF n l (jsF n l)).1 (n + 1) 0).1 = [] then 16 else 0
noncomputable def lsP (n : Nat) (l : List WT) : Rat:=if lsE n l = 0 then (itF n l (jsF n l)).1 else 0
noncomputable def lsS (n : Nat) (l : List WT) : List Rat:=if lsE n l = 0 then (rxF n l (itF n l (jsF n l)).1 (n + 1) 0).1 else []
noncomputable def lsL (n : Nat) (l : List WT) : List Int:=if lsE n l = 0 then (itF n l (jsF n l)).2 else []
def gdW (n : Int) (w : WT) : Int:=if w.1 < 0 ∨ w.2.1 < 0 ∨ n ≤ w.1 ∨ n ≤ w.2.1 then 9 else if w.2.2.1.ok = true ∧ 0 ≤ w.2.2.2 ∧ w.2.2.2 ≤ 8 then 0 else 3
def fsW (n : Int) : List WT → Int
  | []=>0
  | w :: l=>if gdW n w = 0 then fsW n l else gdW n w
def chW (n : Int) (l : List WT) : Int:=if n < 1 ∨ 16 < n then 3 else if 64 < l.length then 4 else fsW n l
theorem fs_drop {n : Int} {l : List WT} {j : Nat} (h : j < l.length) (h0 : gdW n (l.getD j default) = 0) : fsW n (l.drop j) = fsW n (l.drop (j + 1)):=by
  rw [List.drop_eq_getElem_cons h]
  have e : l.getD j default = l[j]:=by rw [List.getD_eq_getElem?_getD,List.getElem?_eq_getElem h];rfl
  rw [e] at h0
  show (if gdW n l[j] = 0 then _ else _) = _
  rw [if_pos h0]
theorem fs_stop {n : Int} {l : List WT} {j : Nat} (h : j < l.length) (h0 : gdW n (l.getD j default) ≠ 0) : fsW n (l.drop j) = gdW n (l.getD j default):=by
  rw [List.drop_eq_getElem_cons h]
  have e : l.getD j default = l[j]:=by rw [List.getD_eq_getElem?_getD,List.getElem?_eq_getElem h];rfl
  rw [e] at h0 ⊢
  show (if gdW n l[j] = 0 then _ else _) = _
  rw [if_neg h0]
theorem fs_end {n : Int} {l : List WT} {j : Nat} (h : ¬ j < l.length) : fsW n (l.drop j) = 0:=by
  rw [List.drop_eq_nil_of_le (by omega)];rfl
theorem fs_all {n : Int} {l : List WT} (h : fsW n l = 0) : ∀ i,i < l.length → gdW n (l.getD i default) = 0:=by
  induction l with
  | nil=>intro i hi;exact absurd hi (Nat.not_lt_zero i)
  | cons w l ih =>
    have h0 : gdW n w = 0:=by
      apply Classical.byContradiction
      intro e
      have : fsW n (w :: l) = gdW n w:=if_neg e
      rw [this] at h;exact e h
    have h1 : fsW n l = 0:=by
      have : fsW n (w :: l) = fsW n l:=if_pos h0
      rwa [this] at h
    intro i hi
    cases i with
    | zero=>exact h0
    | succ i=>exact ih h1 i (by simpa using hi)
theorem ch_ok {n : Int} {l : List WT} (h : chW n l = 0) : 1 ≤ n ∧ n ≤ 16 ∧ l.length ≤ 64 ∧ OKL n.toNat l ∧ TNN l ∧ (∀ i,i < l.length → (l.getD i default).2.2.1.ok = true ∧ (l.getD i default).2.2.2 ≤ 8):=by
  unfold chW at h
  split at h
  · cases h
  · split at h
    · cases h
    · rename_i h1 h2
      have h3:=fs_all h
      have h4 : ∀ i,i < l.length → (0 ≤ (l.getD i default).1 ∧ (l.getD i default).1 < n ∧ 0 ≤ (l.getD i default).2.1 ∧ (l.getD i default).2.1 < n) ∧ (l.getD i default).2.2.1.ok = true ∧ 0 ≤ (l.getD i default).2.2.2 ∧ (l.getD i default).2.2.2 ≤ 8:=fun i hi=>by
        have h5:=h3 i hi
        unfold gdW at h5
        split at h5
        · cases h5
        · split at h5
          · rename_i h6 h7
            exact ⟨by omega,h7⟩
          · cases h5
      refine ⟨by omega,by omega,by omega,fun i hi=>?_,fun i hi=>(h4 i hi).2.2.1,fun i hi=>⟨(h4 i hi).2.1,(h4 i hi).2.2.2⟩⟩
      have:=(h4 i hi).1
      unfold okW
      omega
end Go.Proofs.YtjphllpnhjemjaaGreat
set_option linter.unusedVariables false
set_option linter.unusedSimpArgs false
namespace Go.Proofs.YtjphllpnhjemjaaGreat
def nnR (r : FR) : Bool:=r.ok && decide (0 ≤ r.val)
def inB (m : Nat) (i : Int) : Bool:=decide (0 ≤ i) && decide (i < (m : Int))
def vlC (n : Int) (l : List WT) (per : FR) (st : List FR) (lo : List Int) : Int :=
  if chW n l = 0 then (if (st.length : Int) ≠ n then 10 else if (per :: st).all nnR = false then 3 else if lo.all (inB l.length) = false then 9 else 0) else chW n l
def slB (l : List WT) (p : Rat) (s : List Rat) : Bool:=(List.range l.length).all fun i=>decide (0 ≤ slF l p s i)
def lpB (l : List WT) (lo : List Int) : Bool:=((List.range lo.length).all fun k=>decide ((l.getD (lo.getD k default).toNat default).2.1 = (l.getD (lo.getD ((k + 1) % lo.length) default).toNat default).1)) && decide (0 < lo.length)
def vfB (l : List WT) (p : Rat) (s : List Rat) (lo : List Int) : Bool:=slB l p s && (if p = 0 then decide (lo.length = 0) else lpB l lo && decide (0 < tuF l lo lo.length) && decide (tiF l lo lo.length = p * (tuF l lo lo.length : Rat)))
theorem lpB_d {l : List WT} {lo : List Int} (h : lpB l lo = true) : LPD l lo ∧ 0 < lo.length:=by
  unfold lpB at h
  rw [Bool.and_eq_true,decide_eq_true_eq] at h
  exact ⟨fun k hk=>of_decide_eq_true (List.all_eq_true.1 h.1 k (List.mem_range.2 hk)),h.2⟩
theorem inB_l {l : List WT} {lo : List Int} (h : lo.all (inB l.length) = true) : INL l lo:=fun k hk=>by
  have hm : lo.getD k default ∈ lo:=by rw [List.getD_eq_getElem?_getD,List.getElem?_eq_getElem hk];exact List.getElem_mem hk
  have:=List.all_eq_true.1 h _ hm
  unfold inB at this
  rw [Bool.and_eq_true,decide_eq_true_eq,decide_eq_true_eq] at this
  exact this
theorem vl_ok {n : Int} {l : List WT} {per : FR} {st : List FR} {lo : List Int} (h : vlC n l per st lo = 0) : chW n l = 0 ∧ (st.length : Int) = n ∧ nnR per = true ∧ st.all nnR = true ∧ INL l lo:=by
  unfold vlC at h
  split at h
  · rename_i h0
    split at h
    · cases h
    · split at h
      · cases h
      · split at h
        · cases h
        · rename_i h1 h2 h3
          have h2' : (per :: st).all nnR = true:=by simpa using h2
          rw [List.all_cons,Bool.and_eq_true] at h2'
          exact ⟨h0,by omega,h2'.1,h2'.2,inB_l (by simpa using h3)⟩
  · rename_i h0;exact absurd h h0
def exA : List WT:=[(0,1,⟨false,[3],[1]⟩,0),(1,0,⟨false,[2],[1]⟩,1)]
theorem exA_ok : OKL 2 exA ∧ TNN exA:=by
  constructor
  · intro i hi
    match i,hi with
    | 0,_=>exact ⟨by decide,by decide,by decide,by decide⟩
    | 1,_=>exact ⟨by decide,by decide,by decide,by decide⟩
  · intro i hi
    match i,hi with
    | 0,_=>show (0 : Int) ≤ 0;decide
    | 1,_=>show (0 : Int) ≤ 1;decide
theorem exA_j : jsF 2 exA = 1:=js_eq exA_ok.1 exA_ok.2 (by decide) (by decide +kernel) fun i hi=>by
  obtain rfl : i = 0:=by omega
  decide +kernel
theorem exA_p : (itF 2 exA 1).1 = 5 ∧ (rxF 2 exA (itF 2 exA 1).1 3 0).1 = [0,3]:=by decide +kernel
theorem exA_l : lsE 2 exA = 0 ∧ lsP 2 exA = 5 ∧ lsS 2 exA = [0,3]:=by
  have e : lsE 2 exA = 0:=by unfold lsE;rw [exA_j,exA_p.2];exact if_neg (by simp)
  refine ⟨e,?_,?_⟩
  · unfold lsP;rw [if_pos e,exA_j];exact exA_p.1
  · unfold lsS;rw [if_pos e,exA_j];exact exA_p.2
theorem exA_4 : rsF 2 exA 4 3 0 = []:=by decide +kernel
end Go.Proofs.YtjphllpnhjemjaaGreat
set_option linter.unusedVariables false
set_option linter.unusedSimpArgs false
namespace Go.Proofs.YtjphllpnhjemjaaGreat
open Go.RowKit (Below)
class Gnd (ρ : MT) : Prop where
  h : ∀ {v : Value} {G G' : Gh},ρ.t v G → ρ.t v G'
instance Gnd.e {x : Value} : Gnd (.ex x):=⟨fun h=>h⟩
instance Gnd.t2 {τ σ : MT} [h : Gnd τ] [k : Gnd σ] : Gnd (.tup2 τ σ):=⟨fun ⟨x,y,e,h1,h2⟩=>⟨x,y,e,h.h h1,k.h h2⟩⟩
instance Gnd.t3 {τ σ ρ : MT} [h : Gnd τ] [k : Gnd σ] [l : Gnd ρ] : Gnd (.tup3 τ σ ρ):=⟨fun ⟨x,y,z,e,h1,h2,h3⟩=>⟨x,y,z,e,h.h h1,k.h h2,l.h h3⟩⟩
section
variable {P : Program} {W0 : World} {a : Act} {w : World} {G : Gh} {o : Oper} {ρ : MT}
theorem OpR.lendG {f b : Nat} {ty : TypeId} {k : Option Nat} {τ : MT} {args : Array Operand} {ats : Array TypeId} (hok : Gok w G) (ho : o.op = .call { callee := .value (.func f), args := args, argTypes := ats }) (hc : callable P f = true) (hg : Gnd ρ)
    (hb : BX.ok ⟨b,ty,k,τ⟩ W0 w G) (h : ∀ G1 v,Gle G G1 → Gok w G1 → Shaped k v → τ.t v G → G1 b = some (.cells v.cells ty (0,0)) → Calls P f (args.map a.eval) w (Ret w G1 ρ)) : OpR P o a w G ρ:=by
  obtain ⟨h1,h2,v,hv,hs,hvt⟩:=hb
  simp only at h1 h2 hv hs hvt
  have hle : Gle G (Gput G b (.cells v.cells ty (0,0))):=fun c x hc=>by
    unfold Gput;split
    · rename_i e;subst e;rw [h2] at hc;cases hc
    · exact hc
  have hok1 : Gok w (Gput G b (.cells v.cells ty (0,0))):=fun c x hc=>by
    unfold Gput at hc;split at hc
    · rename_i e;subst e;cases hc;exact hv
    · exact hok c x hc
  have hcall:=h _ v hle hok1 hs hvt (by simp [Gput])
  intro Q K hK
  have hr : (execOp a.eval o).run P w = .ok (.enter f (args.map a.eval)) w:=by
    simp [execOp,ho,resolve,Act.eval,Deferred.ofValue,invoke,run_callFunc hc]
  unfold Oper.wp
  rw [hr]
  refine Calls.mono hcall fun e w' he=>?_
  obtain ⟨u,G',rfl,hu,hN⟩:=he
  refine hK u w' (fun c=>if c = b then none else G' c) (hg.h hu) ⟨hN.below,fun c hc=>?_,fun c x hc=>?_,fun c x hc=>?_⟩
  · by_cases e : c = b
    · subst e;simp [h2]
    · simp only [if_neg e];rw [hN.agree c hc];unfold Gput;rw [if_neg e]
  · have e : c ≠ b:=fun e=>by rw [e,h2] at hc;cases hc
    simp only [if_neg e]
    exact hN.le c x (hle c x hc)
  · by_cases e : c = b
    · subst e;simp at hc
    · simp only [if_neg e] at hc;exact hN.ok c x hc
end
theorem Args.mono {G G' : Gh} (hle : Gle G G') : ∀ {vs : List Value} {τs : List MT},Args vs τs G → Args vs τs G'
  | [],[],_=>trivial
  | _ :: _,τ :: _,h=>⟨τ.mono hle h.1,Args.mono hle h.2⟩
  | [],_ :: _,h=>h.elim
  | _ :: _,[],h=>h.elim
class OpdX (L : List (Nat × MT)) (B : List BX) (xs : List Operand) (τs : outParam (List MT)) (u : outParam (List Nat)) (i : outParam Nat) (pre : outParam Prop) : Prop where
  h : ∃ xb,B[i]? = some xb ∧ ∀ {a : Act} {G G1 : Gh} {v : Value},pre → Env L u a G → Gle G G1 → Shaped xb.k v → xb.τ.t v G → G1 xb.b = some (.cells v.cells xb.ty (0,0)) → Args (xs.map a.eval) τs G1
section
variable {P : Program} {L : List (Nat × MT)} {B : List BX} {x : Operand} {ys : List Operand} {u v : List Nat} {t ty : TypeId} {τ τb ρ : MT} {τs : List MT} {n nn c b i f : Nat} {k : Option Nat} {α : Type} {T : α → MT} {xs : List α} {pre p2 : Prop} {ats : Array TypeId}
instance OpdX.hd [h : Opd L x (OSL b n c) u] [hb : Bx B b i ty (some nn) τb] [r : AsR τb k α T xs] [l : OpdL L ys τs v] : OpdX L B (x :: ys) (LS k (xs.map T) :: τs) (u ++ v) i (n = xs.length ∧ n ≤ c ∧ n ≤ LIM):=⟨_,hb.m,fun hp e hle hs ht hG =>
  ⟨ROWS.sl (r.h (MT.mono _ hle ht)) hG (by rw [List.length_map];exact hp.1) hp.2.1 hp.2.2 (h.h e.l),Args.mono hle (l.h e.r)⟩⟩
instance OpdX.tl [h : Opd L x τ u] [l : OpdX L B ys τs v i pre] : OpdX L B (x :: ys) (τ :: τs) (u ++ v) i pre:=by
  obtain ⟨xb,h1,h2⟩:=l.h
  exact ⟨xb,h1,fun hp e hle hs ht hG=>⟨τ.mono hle (h.h e.l),h2 hp e.r hle hs ht hG⟩⟩
instance (priority:=400) Op1.lend [h : OpdX L B ys τs u i p2] [c : Con P f τs pre ρ] [g : Gnd ρ] [kb : Cb P f] : Op1 P L B (.call { callee:=.value (.func f),args:=ys.toArray,argTypes:=ats }) (p2 ∧ pre) ρ (u ++ [1000000 + i]):=⟨fun ho hok e hB hp=>by
  obtain ⟨xb,h1,h2⟩:=h.h
  exact .lendG hok ho kb.h g (hB i xb (by simp) h1) fun G1 v hle hok1 hs ht hG=>by
    rw [List.map_toArray]
    exact c.h hok1 (h2 hp.1 e.l hle hs ht hG) hp.2⟩
instance Op1.sla [e : ArE P t n k] [h : Opd L x (PB b) u] : Op1 P L B (.slice t x none none none) (0 < n) (OSL b n n) u:=⟨fun ho hok e' _ hp=>by
  obtain ⟨e0,h3,h4⟩:=e.h
  exact .slAr hok ho h3 h4 (h.h e') (decide_eq_true hp) rfl⟩
instance LitN.add {z z' : Int} {m m' : Nat} [h : LitN z m] [h' : LitN z' m'] : LitN (z + z') (m + m'):=⟨by rw [h.h,h'.h];omega⟩
instance LitN.mul {z z' : Int} {m m' : Nat} [h : LitN z m] [h' : LitN z' m'] : LitN (z * z') (m * m'):=⟨by rw [h.h,h'.h];exact (Int.natCast_mul _ _).symm⟩
variable {y : Operand} {t' : TypeId} {z z' : Int} {m m' j : Nat}
instance Op1.quoN [h : Opd L x (IT z) u] [h2 : Opd L y (IT z') v] [l : LitN z m] [l' : LitN z' m'] : Op1 P L B (.binOp .quo t x y t') (m' ≠ 0 ∧ m ≤ 9223372036854775807) (NT (m / m')) (u ++ v):=⟨fun ho hok e _ hp=>by
  obtain rfl:=l.h;obtain rfl:=l'.h
  exact .nquo hok ho (h.h e.l) (h2.h e.r) hp.1 (i64_w ⟨Int.le_trans (by decide) (Int.natCast_nonneg _),Int.ofNat_le.2 (Nat.le_trans (Nat.div_le_self m m') hp.2)⟩) rfl⟩
instance Op1.remN [h : Opd L x (IT z) u] [h2 : Opd L y (IT z') v] [l : LitN z m] [l' : LitN z' m'] : Op1 P L B (.binOp .rem t x y t') (m' ≠ 0) (NT (m % m')) (u ++ v):=⟨fun ho hok e _ hp=>by
  obtain rfl:=l.h;obtain rfl:=l'.h
  exact .nrem hok ho (h.h e.l) (h2.h e.r) hp rfl⟩
instance Op1.shlN [h : Opd L x (IT z) u] [h2 : Opd L y (IT z') v] [l : LitN z m] [l' : LitN z' m'] : Op1 P L B (.binOp .shl t x y t') (m' < 64 ∧ m * 2 ^ m' ≤ 9223372036854775807) (NT (m * 2 ^ m')) (u ++ v):=⟨fun ho hok e _ hp=>by
  obtain rfl:=l.h;obtain rfl:=l'.h
  refine .shl hok ho (h.h e.l) (h2.h e.r) (by omega) ?_
  have e1 : (min ((m' : Int).toNat) IntKind.i64.bits) = m':=by simp only [Int.toNat_natCast,IntKind.bits];omega
  have e2 : ((m : Int) * 2 ^ m') = ((m * 2 ^ m' : Nat) : Int):=by simp
  rw [e1,e2,i64_w ⟨by omega,by omega⟩];rfl⟩
instance Op1.maxN [h : Opd L x (IT z) u] [h2 : Opd L y (IT z') v] [l : LitN z m] [l' : LitN z' m'] : Op1 P L B (.call { callee:=.builtin .max,args:=#[x,y],argTypes:=ats }) True (NT (max m m')) (u ++ v):=⟨fun ho hok e _ hp=>by
  obtain rfl:=l.h;obtain rfl:=l'.h
  exact .nmax hok ho (h.h e.l) (h2.h e.r) rfl⟩
class LsOf (τ : MT) (k : Option Nat) (α : outParam Type) (T : outParam (α → MT)) (xs : outParam (List α)) : Prop where
  h : ∀ {v : Value} {G : Gh},τ.t v G → (LS k (xs.map T)).t v G
instance LsOf.ll : LsOf (LS k (xs.map T)) k α T xs:=⟨fun h=>h⟩
instance LsOf.lc : LsOf (LSC k (xs.map T)) k α T xs:=⟨fun h=>h.1⟩
instance Op1.cutHiM [s : SlE P t k] [h : Opd L x τ u] [l : LsOf τ k α T xs] [h2 : Opd L y (IT z) v] [lz : LitN z j] : Op1 P L B (.slice t x none (some y) none) (j ≤ xs.length) (LS k ((xs.take j).map T)) (u ++ v):=⟨fun ho hok e _ hp=>by
  obtain ⟨e',h3,h4⟩:=s.h
  exact .cutHiM hok ho h3 h4 (l.h (h.h e.l)) (h2.h e.r) lz.h hp⟩
instance Op1.cutLoM [s : SlE P t k] [h : Opd L x τ u] [l : LsOf τ k α T xs] [h2 : Opd L y (IT z) v] [lz : LitN z j] : Op1 P L B (.slice t x (some y) none none) (j ≤ xs.length) (LS k ((xs.drop j).map T)) (u ++ v):=⟨fun ho hok e _ hp=>by
  obtain ⟨e',h3,h4⟩:=s.h
  exact .cutLoM hok ho h3 h4 (l.h (h.h e.l)) (h2.h e.r) lz.h hp⟩
instance Op1.cutLHM {y2 : Operand} {z2 : Int} {j2 : Nat} {v2 : List Nat} [s : SlE P t k] [h : Opd L x τ u] [l : LsOf τ k α T xs] [h2 : Opd L y (IT z) v] [lz : LitN z j] [h3 : Opd L y2 (IT z2) v2] [lz2 : LitN z2 j2] : Op1 P L B (.slice t x (some y) (some y2) none) (j ≤ j2 ∧ j2 ≤ xs.length) (LS k (((xs.take j2).drop j).map T)) (u ++ (v ++ v2)):=⟨fun ho hok e _ hp=>by
  obtain ⟨e',h4,h5⟩:=s.h
  exact .cutLHM hok ho h4 h5 (l.h (h.h e.l)) (h2.h e.r.l) lz.h (h3.h e.r.r) lz2.h hp.1 hp.2⟩
instance (priority:=1100) Op1.lenC [s : SlE P t k] [h : Opd L x (LSC k (xs.map T)) u] : Op1 P L B (.call { callee:=.builtin .len,args:=#[x],argTypes:=#[t] }) True (NT xs.length) u:=⟨fun ho hok e _ _=>by obtain ⟨e',h1,h2⟩:=s.h;exact .lenM hok ho h1 (h.h e).1 rfl⟩
instance Op1.ixMC [Inhabited α] [s : SlE P t k] [h : Opd L x (LSC k (xs.map T)) u] [h2 : Opd L y (IT z) v] : Op1 P L B (.indexAddr t x y) (0 ≤ z ∧ z < xs.length) (PE k (T (xs.getD z.toNat default))) (u ++ v):=⟨fun ho hok e _ hp=>by
  obtain ⟨e',h3,h4⟩:=s.h
  exact .ixM hok ho h3 h4 (h.h e.l).1 (h2.h e.r) (i:=z.toNat) (by omega) (by omega)⟩
instance (priority:=1100) Op1.ixMCN [Inhabited α] [s : SlE P t k] [h : Opd L x (LSC k (xs.map T)) u] [h2 : Opd L y (NT j) v] : Op1 P L B (.indexAddr t x y) (j < xs.length) (PE k (T (xs.getD j default))) (u ++ v):=⟨fun ho hok e _ hp=>by
  obtain ⟨e',h3,h4⟩:=s.h
  exact .ixM hok ho h3 h4 (h.h e.l).1 (h2.h e.r) rfl hp⟩
end
section
variable {fs : List (Option Nat × MT)} {n i : Nat} {τ τ' : MT} {k kt : Option Nat}
instance (priority:=500) PrtL.s5 [h : PrtL fs i kt τ] : PrtL ((some 5,τ') :: fs) (i + 5) kt τ:=h.skip rfl
instance (priority:=500) UpdL.s5 {fs' : List (Option Nat × MT)} [h : UpdL fs i kt τ fs'] : UpdL ((some 5,τ') :: fs) (i + 5) kt τ ((some 5,τ') :: fs'):=h.skip rfl
instance ShN.s7 [h : ShN fs n] : ShN ((some 7,τ) :: fs) (n + 7):=⟨by rw [offs_cons,h.h];simp;omega⟩
instance (priority:=500) PrtL.s7 [h : PrtL fs i kt τ] : PrtL ((some 7,τ') :: fs) (i + 7) kt τ:=h.skip rfl
instance (priority:=500) UpdL.s7 {fs' : List (Option Nat × MT)} [h : UpdL fs i kt τ fs'] : UpdL ((some 7,τ') :: fs) (i + 7) kt τ ((some 7,τ') :: fs'):=h.skip rfl
instance ShN.s8 [h : ShN fs n] : ShN ((some 8,τ) :: fs) (n + 8):=⟨by rw [offs_cons,h.h];simp;omega⟩
instance (priority:=500) PrtL.s8 [h : PrtL fs i kt τ] : PrtL ((some 8,τ') :: fs) (i + 8) kt τ:=h.skip rfl
instance (priority:=500) UpdL.s8 {fs' : List (Option Nat × MT)} [h : UpdL fs i kt τ fs'] : UpdL ((some 8,τ') :: fs) (i + 8) kt τ ((some 8,τ') :: fs'):=h.skip rfl
instance ShN.s9 [h : ShN fs n] : ShN ((some 9,τ) :: fs) (n + 9):=⟨by rw [offs_cons,h.h];simp;omega⟩
instance (priority:=500) PrtL.s9 [h : PrtL fs i kt τ] : PrtL ((some 9,τ') :: fs) (i + 9) kt τ:=h.skip rfl
instance (priority:=500) UpdL.s9 {fs' : List (Option Nat × MT)} [h : UpdL fs i kt τ fs'] : UpdL ((some 9,τ') :: fs) (i + 9) kt τ ((some 9,τ') :: fs'):=h.skip rfl
instance ShN.s10 [h : ShN fs n] : ShN ((some 10,τ) :: fs) (n + 10):=⟨by rw [offs_cons,h.h];simp;omega⟩
instance (priority:=500) PrtL.s10 [h : PrtL fs i kt τ] : PrtL ((some 10,τ') :: fs) (i + 10) kt τ:=h.skip rfl
instance (priority:=500) UpdL.s10 {fs' : List (Option Nat × MT)} [h : UpdL fs i kt τ fs'] : UpdL ((some 10,τ') :: fs) (i + 10) kt τ ((some 10,τ') :: fs'):=h.skip rfl
instance ShN.s12 [h : ShN fs n] : ShN ((some 12,τ) :: fs) (n + 12):=⟨by rw [offs_cons,h.h];simp;omega⟩
instance (priority:=500) PrtL.s12 [h : PrtL fs i kt τ] : PrtL ((some 12,τ') :: fs) (i + 12) kt τ:=h.skip rfl
instance (priority:=500) UpdL.s12 {fs' : List (Option Nat × MT)} [h : UpdL fs i kt τ fs'] : UpdL ((some 12,τ') :: fs) (i + 12) kt τ ((some 12,τ') :: fs'):=h.skip rfl
instance ShN.s13 [h : ShN fs n] : ShN ((some 13,τ) :: fs) (n + 13):=⟨by rw [offs_cons,h.h];simp;omega⟩
instance (priority:=500) PrtL.s13 [h : PrtL fs i kt τ] : PrtL ((some 13,τ') :: fs) (i + 13) kt τ:=h.skip rfl
instance (priority:=500) UpdL.s13 {fs' : List (Option Nat × MT)} [h : UpdL fs i kt τ fs'] : UpdL ((some 13,τ') :: fs) (i + 13) kt τ ((some 13,τ') :: fs'):=h.skip rfl
instance ShN.s14 [h : ShN fs n] : ShN ((some 14,τ) :: fs) (n + 14):=⟨by rw [offs_cons,h.h];simp;omega⟩
instance (priority:=500) PrtL.s14 [h : PrtL fs i kt τ] : PrtL ((some 14,τ') :: fs) (i + 14) kt τ:=h.skip rfl
instance (priority:=500) UpdL.s14 {fs' : List (Option Nat × MT)} [h : UpdL fs i kt τ fs'] : UpdL ((some 14,τ') :: fs) (i + 14) kt τ ((some 14,τ') :: fs'):=h.skip rfl
instance ShN.s15 [h : ShN fs n] : ShN ((some 15,τ) :: fs) (n + 15):=⟨by rw [offs_cons,h.h];simp;omega⟩
instance (priority:=500) PrtL.s15 [h : PrtL fs i kt τ] : PrtL ((some 15,τ') :: fs) (i + 15) kt τ:=h.skip rfl
instance (priority:=500) UpdL.s15 {fs' : List (Option Nat × MT)} [h : UpdL fs i kt τ fs'] : UpdL ((some 15,τ') :: fs) (i + 15) kt τ ((some 15,τ') :: fs'):=h.skip rfl
instance ShN.s16 [h : ShN fs n] : ShN ((some 16,τ) :: fs) (n + 16):=⟨by rw [offs_cons,h.h];simp;omega⟩
instance (priority:=500) PrtL.s16 [h : PrtL fs i kt τ] : PrtL ((some 16,τ') :: fs) (i + 16) kt τ:=h.skip rfl
instance (priority:=500) UpdL.s16 {fs' : List (Option Nat × MT)} [h : UpdL fs i kt τ fs'] : UpdL ((some 16,τ') :: fs) (i + 16) kt τ ((some 16,τ') :: fs'):=h.skip rfl
instance ShN.s18 [h : ShN fs n] : ShN ((some 18,τ) :: fs) (n + 18):=⟨by rw [offs_cons,h.h];simp;omega⟩
instance (priority:=500) PrtL.s18 [h : PrtL fs i kt τ] : PrtL ((some 18,τ') :: fs) (i + 18) kt τ:=h.skip rfl
instance (priority:=500) UpdL.s18 {fs' : List (Option Nat × MT)} [h : UpdL fs i kt τ fs'] : UpdL ((some 18,τ') :: fs) (i + 18) kt τ ((some 18,τ') :: fs'):=h.skip rfl
instance ShN.s20 [h : ShN fs n] : ShN ((some 20,τ) :: fs) (n + 20):=⟨by rw [offs_cons,h.h];simp;omega⟩
instance (priority:=500) PrtL.s20 [h : PrtL fs i kt τ] : PrtL ((some 20,τ') :: fs) (i + 20) kt τ:=h.skip rfl
instance (priority:=500) UpdL.s20 {fs' : List (Option Nat × MT)} [h : UpdL fs i kt τ fs'] : UpdL ((some 20,τ') :: fs) (i + 20) kt τ ((some 20,τ') :: fs'):=h.skip rfl
end
end Go.Proofs.YtjphllpnhjemjaaGreat
