import Derived.Test.YtdbdnabpaadigaaGreatQg
set_option linter.unusedVariables false
set_option linter.unusedSimpArgs false
set_option linter.unusedVariables false
set_option linter.unusedSimpArgs false
namespace Go.Proofs.YtdbdnabpaadigaaGreat
open Go.RowKit (Below)
inductive WK where
  | g (τ : MT)
  | o0
  | o1
  | o2 (τ : MT)
def WK.ty : WK → Option MT
  | .g τ=>some τ
  | .o2 τ=>some τ
  | _=>none
structure PcW where
  d : Nat
  k : WK
  dep : List Nat
def faW (PL : List PcW) (l : Array Bool) : List (Nat × MT):=(List.range PL.length).filterMap fun i=>(PL[i]?).bind fun p=>if l.getD i false then p.k.ty.map fun τ=>(p.d,τ) else none
def depW (PL : List PcW) (l : List Nat) : List (Nat × MT):=l.filterMap fun i=>(PL[i]?).bind fun p=>p.k.ty.map fun τ=>(p.d,τ)
theorem faW_mem {PL : List PcW} {l : Array Bool} {p : Nat × MT} : p ∈ faW PL l ↔ ∃ (i : Nat) (q : PcW) (τ : MT),PL[i]? = some q ∧ l.getD i false = true ∧ q.k.ty = some τ ∧ p = (q.d,τ):=by
  unfold faW
  rw [List.mem_filterMap]
  constructor
  · rintro ⟨i,hi,h⟩
    cases hq : PL[i]? with
    | none=>rw [hq] at h;cases h
    | some q =>
      rw [hq] at h
      simp only [Option.bind_some] at h
      split at h
      · rename_i hl
        cases ht : q.k.ty with
        | none=>rw [ht] at h;cases h
        | some τ=>rw [ht] at h;cases h;exact ⟨i,q,τ,hq,hl,ht,rfl⟩
      · cases h
  · rintro ⟨i,q,τ,hq,hl,ht,rfl⟩
    exact ⟨i,List.mem_range.2 (List.getElem?_eq_some_iff.1 hq).1,by rw [hq];simp only [Option.bind_some];rw [if_pos hl,ht];rfl⟩
theorem depW_mem {PL : List PcW} {l : List Nat} {p : Nat × MT} (h : p ∈ depW PL l) : ∃ (i : Nat) (q : PcW) (τ : MT),i ∈ l ∧ PL[i]? = some q ∧ q.k.ty = some τ ∧ p = (q.d,τ):=by
  unfold depW at h
  rw [List.mem_filterMap] at h
  obtain ⟨i,hi,h⟩:=h
  cases hq : PL[i]? with
  | none=>rw [hq] at h;cases h
  | some q =>
    rw [hq] at h
    simp only [Option.bind_some] at h
    cases ht : q.k.ty with
    | none=>rw [ht] at h;cases h
    | some τ=>rw [ht] at h;cases h;exact ⟨i,q,τ,hi,hq,ht,rfl⟩
def drawOkW (ops : Array Oper) (PL : List PcW) (L : List Nat) (N i0 i1 i2 : Nat) : Bool :=
  decide (PL.length = ops.size) &&
  (List.range PL.length).all (fun i=>(List.range PL.length).all fun j=>i == j || (PL[i]?).map (·.d) != (PL[j]?).map (·.d)) &&
  PL.all (fun po=>!L.contains po.d && decide (po.d < N)) &&
  (List.range PL.length).all (fun i=>(ops[i]?).all fun o=>o.after.all fun e=>!Region.binds .any e || decide (e.on < i)) &&
  (List.range PL.length).all (fun i=>(PL[i]?).all fun po=>po.dep.all fun j=>decide (j < PL.length) && waits ops ops.size i j) &&
  (waits ops ops.size i1 i0 && waits ops ops.size i2 i1) &&
  (List.range PL.length).all (fun i=>(PL[i]?).all fun po=>(match po.k with | .g _=>true | .o0=>i == i0 | .o1=>i == i1 | .o2 _=>i == i2)) &&
  (List.range PL.length).all (fun i=>(ops[i]?).bind (·.dst) == (PL[i]?).map (·.d)) &&
  (decide (i0 < PL.length ∧ i1 < PL.length ∧ i2 < PL.length))
section
variable {P : Program} {W0 : World} {G0 : Gh} {N : Nat} {L : List (Nat × MT)} {B : List BX}
def StgW (O0 O1 : Value → List BX → Prop) (d0 d1 i0 i1 i2 : Nat) (l : Array Bool) (own : List BX) (fs : List (Nat × MT)) : Prop :=
  (l.getD i0 false = false ∧ l.getD i1 false = false ∧ l.getD i2 false = false ∧ own = [] ∧ fs = []) ∨
  (l.getD i0 false = true ∧ l.getD i1 false = false ∧ l.getD i2 false = false ∧ ∃ V,O0 V own ∧ fs = [(d0,.ex V)]) ∨
  (l.getD i0 false = true ∧ l.getD i1 false = true ∧ l.getD i2 false = false ∧ ∃ V,O1 V own ∧ fs = [(d1,.ex V)]) ∨
  (l.getD i0 false = true ∧ l.getD i1 false = true ∧ l.getD i2 false = true ∧ own = [] ∧ fs = [])
structure DW (P : Program) (W0 : World) (G0 : Gh) (N : Nat) (L : List (Nat × MT)) (B : List BX) (ops : Array Oper) (PL : List PcW) (O0 O1 : Value → List BX → Prop) (d0 d1 i0 i1 i2 : Nat) (l : Array Bool) (a : Act) (w : World) : Prop where
  lsz : l.size = ops.size
  cl : ∀ (j : Nat) (o : Oper),ops[j]? = some o → l.getD j false = true → ∀ e ∈ o.after,Region.binds .any e = true → l.getD e.on false = true
  st : ∃ G own fs,StgW O0 O1 d0 d1 i0 i1 i2 l own fs ∧ St W0 G0 N (faW PL l ++ (fs ++ L)) (B ++ own) a w G
def ObG (P : Program) (W0 : World) (G0 : Gh) (N : Nat) (L : List (Nat × MT)) (B : List BX) (ops : Array Oper) (PL : List PcW) : Prop :=
  ∀ (i d : Nat) (τ : MT) (dep : List Nat),PL[i]? = some ⟨d,.g τ,dep⟩ → ∀ a w G,St W0 G0 N (depW PL dep ++ L) B a w G → OpG P ops (ops.getD i default) a w G τ
def Ob0 (P : Program) (W0 : World) (G0 : Gh) (N : Nat) (L : List (Nat × MT)) (B : List BX) (ops : Array Oper) (PL : List PcW) (Q : Exit → Act → World → Prop) (O0 : Value → List BX → Prop) (d0 : Nat) : Prop :=
  ∀ (i d : Nat) (dep : List Nat),PL[i]? = some ⟨d,.o0,dep⟩ → d = d0 ∧ (ops.getD i default).guard = none ∧ ∀ (L' : List (Nat × MT)) a w G (K : Act → World → Prop),(∀ p ∈ depW PL dep ++ L,p ∈ L') → St W0 G0 N L' B a w G → fresh d0 L' = true →
    (∀ V own a' w' G',O0 V own → St W0 G0 N ((d0,.ex V) :: L') (B ++ own) a' w' G' → K a' w') → (ops.getD i default).wp P a w K Q
def Ob1 (P : Program) (W0 : World) (G0 : Gh) (N : Nat) (L : List (Nat × MT)) (B : List BX) (ops : Array Oper) (PL : List PcW) (Q : Exit → Act → World → Prop) (O0 O1 : Value → List BX → Prop) (d0 d1 : Nat) : Prop :=
  ∀ (i d : Nat) (dep : List Nat),PL[i]? = some ⟨d,.o1,dep⟩ → d = d1 ∧ (ops.getD i default).guard = none ∧ ∀ (L' : List (Nat × MT)) a w G V own (K : Act → World → Prop),(∀ p ∈ depW PL dep ++ L,p ∈ L') → O0 V own → (d0,.ex V) ∈ L' → St W0 G0 N L' (B ++ own) a w G → fresh d1 L' = true →
    (∀ V own a' w' G',O1 V own → St W0 G0 N ((d1,.ex V) :: L') (B ++ own) a' w' G' → K a' w') → (ops.getD i default).wp P a w K Q
def Ob2 (P : Program) (W0 : World) (G0 : Gh) (N : Nat) (L : List (Nat × MT)) (B : List BX) (ops : Array Oper) (PL : List PcW) (Q : Exit → Act → World → Prop) (O1 : Value → List BX → Prop) (d1 : Nat) : Prop :=
  ∀ (i d : Nat) (τ : MT) (dep : List Nat),PL[i]? = some ⟨d,.o2 τ,dep⟩ → (ops.getD i default).guard = none ∧ ∀ (L' : List (Nat × MT)) a w G V own (K : Act → World → Prop),(∀ p ∈ depW PL dep ++ L,p ∈ L') → O1 V own → (d1,.ex V) ∈ L' → St W0 G0 N L' (B ++ own) a w G → fresh d L' = true →
    (∀ a' w' G',St W0 G0 N ((d,τ) :: L') B a' w' G' → K a' w') → (ops.getD i default).wp P a w K Q
variable {ops : Array Oper} {PL : List PcW} {O0 O1 : Value → List BX → Prop} {d0 d1 i0 i1 i2 : Nat} {l : Array Bool} {a : Act} {w : World} {Q : Exit → Act → World → Prop}
theorem DW.waited (I : DW P W0 G0 N L B ops PL O0 O1 d0 d1 i0 i1 i2 l a w) : ∀ (m : Nat) {j i : Nat} {o : Oper}, waits ops m j i = true → ops[j]? = some o →
    (∀ e ∈ o.after,Region.binds .any e = true → l.getD e.on false = true) → l.getD i false = true
  | 0,_,_,_,h,_,_=>by cases h
  | m + 1,j,i,o,h,ho,he=>by
    unfold waits at h
    rw [ho] at h
    simp only [Option.any_some,Array.any_eq_true,Bool.and_eq_true,Bool.or_eq_true,beq_iff_eq] at h
    obtain ⟨k,hk,hb,h⟩:=h
    have hl:=he _ (Array.getElem_mem hk) hb
    rcases h with h | h
    · rw [← h];exact hl
    · have hon : (o.after[k]).on < ops.size := by
        have : (o.after[k]).on < l.size:=by
          rcases Nat.lt_or_ge (o.after[k]).on l.size with h1 | h1
          · exact h1
          · simp [Array.getElem?_eq_none h1] at hl
        rw [I.lsz] at this;exact this
      have ho':=Array.getElem?_eq_getElem hon
      exact DW.waited I m h ho' (I.cl _ _ ho' hl)
theorem DW.past (I : DW P W0 G0 N L B ops PL O0 O1 d0 d1 i0 i1 i2 l a w) {j i : Nat} (h : waits ops ops.size j i = true) (hj : l.getD j false = true) : l.getD i false = true:=by
  have hlt : j < ops.size:=by
    rcases Nat.lt_or_ge j l.size with h1 | h1
    · rw [I.lsz] at h1;exact h1
    · simp [Array.getElem?_eq_none h1] at hj
  have ho:=Array.getElem?_eq_getElem hlt
  exact I.waited _ h ho (I.cl _ _ ho hj)
theorem DW.cl_set {i : Nat} (I : DW P W0 G0 N L B ops PL O0 O1 d0 d1 i0 i1 i2 l a w) (hi : i < ops.size) (hcl : ∀ (o : Oper), ops[i]? = some o → ∀ e ∈ o.after, Region.binds .any e = true → l.getD e.on false = true) :
    ∀ (j : Nat) (o : Oper),ops[j]? = some o → (l.setIfInBounds i true).getD j false = true → ∀ e ∈ o.after,Region.binds .any e = true → (l.setIfInBounds i true).getD e.on false = true:=fun j o ho hl e he hb=>by
  have hl' : l.getD e.on false = true:=by
    by_cases e1 : j = i
    · subst e1;exact hcl o ho e he hb
    · rw [getD_set e1] at hl;exact I.cl j o ho hl e he hb
  by_cases e2 : e.on = i
  · rw [e2];have : i < l.size:=by rw [I.lsz];exact hi
    simp [this]
  · rw [getD_set e2];exact hl'
theorem faW_set {i : Nat} {q : PcW} {τ : MT} (hq : PL[i]? = some q) (ht : q.k.ty = some τ) (hi : i < l.size) {p : Nat × MT} (h : p ∈ faW PL (l.setIfInBounds i true)) : p = (q.d,τ) ∨ p ∈ faW PL l:=by
  obtain ⟨j,q',τ',h1,h2,h3,rfl⟩:=faW_mem.1 h
  by_cases e : j = i
  · subst e;rw [hq] at h1;cases h1;rw [ht] at h3;cases h3;exact .inl rfl
  · rw [getD_set e] at h2;exact .inr (faW_mem.2 ⟨j,q',τ',h1,h2,h3,rfl⟩)
theorem faW_none {i : Nat} {q : PcW} (hq : PL[i]? = some q) (ht : q.k.ty = none) {p : Nat × MT} (h : p ∈ faW PL (l.setIfInBounds i true)) : p ∈ faW PL l:=by
  obtain ⟨j,q',τ',h1,h2,h3,rfl⟩:=faW_mem.1 h
  by_cases e : j = i
  · subst e;rw [hq] at h1;cases h1;rw [ht] at h3;cases h3
  · rw [getD_set e] at h2;exact faW_mem.2 ⟨j,q',τ',h1,h2,h3,rfl⟩
theorem set_at {i : Nat} (hi : i < l.size) : (l.setIfInBounds i true).getD i false = true:=by simp [hi]
theorem St.drawnW {id : Nat} {a0 : Act} {w0 : World} {Gs : Gh} (S : St W0 G0 N L B a0 w0 Gs) (PL : List PcW) (hm : P.follows .mixedOrders = true) (hd : drawOkW ops PL (L.map (·.1)) N i0 i1 i2 = true)
    (h0d : (PL[i0]?).map (·.d) = some d0) (h1d : (PL[i1]?).map (·.d) = some d1)
    (k0 : ∃ q,PL[i0]? = some q ∧ q.k = .o0) (k1 : ∃ q,PL[i1]? = some q ∧ q.k = .o1) (k2 : ∃ q τ,PL[i2]? = some q ∧ q.k = .o2 τ)
    (hG : ObG P W0 G0 N L B ops PL) (H0 : Ob0 P W0 G0 N L B ops PL Q O0 d0) (H1 : Ob1 P W0 G0 N L B ops PL Q O0 O1 d0 d1) (H2 : Ob2 P W0 G0 N L B ops PL Q O1 d1)
    (K : ∀ a w G l,(∀ i,i < PL.length → l.getD i false = true) → St W0 G0 N (faW PL l ++ L) B a w G → Q .normal a w) : (Code.region id ops true).wp P Q a0 w0:=by
  simp only [drawOkW,Bool.and_eq_true,List.all_eq_true,List.mem_range,decide_eq_true_eq,Bool.or_eq_true,bne_iff_ne,Bool.not_eq_true',beq_iff_eq] at hd
  obtain ⟨⟨⟨⟨⟨⟨⟨⟨g1,g3⟩,g4⟩,g5⟩,g6⟩,g7⟩,g8⟩,g9⟩,g10⟩:=hd
  have hpl : ∀ {i : Nat} {po : PcW},PL[i]? = some po → i < PL.length:=fun h=>(List.getElem?_eq_some_iff.1 h).1
  have hne : ∀ {i j : Nat} {po po' : PcW},PL[i]? = some po → PL[j]? = some po' → i ≠ j → po.d ≠ po'.d:=fun {i j po po'} hp hp' hij=>by
    rcases g3 i (hpl hp) j (hpl hp') with h | h
    · exact absurd h hij
    · rw [hp,hp'] at h;simpa using h
  have hfr : ∀ {i : Nat} {po : PcW},PL[i]? = some po → po.d < N ∧ ∀ p ∈ L,p.1 ≠ po.d:=fun {i po} hp=>by
    have:=g4 po (List.mem_of_getElem? hp)
    refine ⟨this.2,fun p hpm e=>?_⟩
    have hc:=this.1
    rw [← e] at hc
    have : (L.map (·.1)).contains p.1 = true:=by simpa using ⟨p.2,hpm⟩
    rw [this] at hc;cases hc
  have hdep : ∀ {i : Nat} {po : PcW},PL[i]? = some po → ∀ j ∈ po.dep,waits ops ops.size i j = true:=fun {i po} hp j hj=>by
    have h6':=g6 i (hpl hp)
    rw [hp] at h6'
    simp only [Option.all_some,List.all_eq_true,Bool.and_eq_true,decide_eq_true_eq] at h6'
    exact (h6' j hj).2
  obtain ⟨q0,e0,ek0⟩:=k0
  obtain ⟨q1,e1,ek1⟩:=k1
  obtain ⟨q2,τ2,e2,ek2⟩:=k2
  have hd0 : q0.d = d0:=by rw [e0] at h0d;simpa using h0d
  have hd1 : q1.d = d1:=by rw [e1] at h1d;simpa using h1d
  have n01 : i0 ≠ i1:=fun e=>by rw [e,e1] at e0;cases e0;rw [ek1] at ek0;cases ek0
  have n02 : i0 ≠ i2:=fun e=>by rw [e,e2] at e0;cases e0;rw [ek2] at ek0;cases ek0
  have n12 : i1 ≠ i2:=fun e=>by rw [e,e2] at e1;cases e1;rw [ek2] at ek1;cases ek1
  have hfresh : ∀ {l : Array Bool} {a w},DW P W0 G0 N L B ops PL O0 O1 d0 d1 i0 i1 i2 l a w → ∀ {own fs},StgW O0 O1 d0 d1 i0 i1 i2 l own fs → ∀ {i : Nat} {q : PcW},PL[i]? = some q → l.getD i false = false → fresh q.d (faW PL l ++ (fs ++ L)) = true:=fun {l a w} I {own fs} hs {i q} hq hl=>by
    unfold fresh
    rw [List.all_eq_true]
    intro p hp
    simp only [bne_iff_ne,ne_eq]
    intro e
    rcases List.mem_append.1 hp with h | h
    · obtain ⟨j,q',τ',h1,h2,_,rfl⟩:=faW_mem.1 h
      by_cases ej : j = i
      · subst ej;rw [hl] at h2;cases h2
      · exact hne h1 hq ej e
    · rcases List.mem_append.1 h with h | h
      · rcases hs with ⟨_,_,_,_,rfl⟩ | ⟨h1,_,_,V,_,rfl⟩ | ⟨_,h1,_,V,_,rfl⟩ | ⟨_,_,_,_,rfl⟩
        · simp at h
        · simp at h;subst h
          have : i0 ≠ i:=fun e'=>by subst e';rw [hl] at h1;cases h1
          exact hne e0 hq this (hd0.trans e)
        · simp at h;subst h
          have : i1 ≠ i:=fun e'=>by subst e';rw [hl] at h1;cases h1
          exact hne e1 hq this (hd1.trans e)
        · simp at h
      · exact (hfr hq).2 p h e
  have key : ∀ (fuel : Nat) (l : Array Bool) (a : Act) (w : World),DW P W0 G0 N L B ops PL O0 O1 d0 d1 i0 i1 i2 l a w → fuel + cnt l = ops.size → wpAny P .any ops Q fuel l a w:=by
    intro fuel
    induction fuel with
    | zero =>
      intro l a w I hc
      have hall : ∀ i,i < PL.length → l.getD i false = true:=fun i hi=>by
        by_cases hx : l.getD i false = true
        · exact hx
        · exfalso
          have hli : i < l.size:=by rw [I.lsz];omega
          have hz : l.getD i true = false:=by simp [hli] at hx ⊢;exact hx
          have h9:=cnt_set hli hz
          have h10:=cnt_le (l.setIfInBounds i true)
          rw [Array.size_setIfInBounds,I.lsz] at h10
          omega
      obtain ⟨G,own,fs,hs,hSt⟩:=I.st
      have a0':=hall i0 g10.1;have a1':=hall i1 g10.2.1;have a2':=hall i2 g10.2.2
      rcases hs with ⟨h,_⟩ | ⟨_,h,_⟩ | ⟨_,_,h,_⟩ | ⟨_,_,_,rfl,rfl⟩
      · rw [a0'] at h;cases h
      · rw [a1'] at h;cases h
      · rw [a2'] at h;cases h
      · rw [List.append_nil,List.nil_append] at hSt
        have hl : l = firstN ops.size ops.size:=by
          apply Array.ext
          · simp [firstN,I.lsz]
          · intro k k1 k2
            have:=hall k (by rw [g1,← I.lsz];exact k1)
            simp [k1] at this
            have hk : k < ops.size:=by rw [← I.lsz];exact k1
            simp [firstN,this,hk]
        exact ⟨by rw [hl];exact ready_all,K a w G l hall hSt⟩
    | succ fuel ih =>
      intro l a w I hc
      have hex : ∃ i,i < PL.length ∧ l.getD i false = false:=by
        refine Classical.byContradiction fun hn=>?_
        have hl : l = firstN ops.size ops.size:=by
          apply Array.ext
          · simp [firstN,I.lsz]
          · intro k k1 k2
            have hk : k < ops.size:=by rw [← I.lsz];exact k1
            have : l.getD k false = true:=by
              by_cases hx : l.getD k false = true
              · exact hx
              · exact absurd ⟨k,by omega,by simpa using hx⟩ hn
            simp [k1] at this
            simp [firstN,this,hk]
        rw [hl,cnt_firstN (Nat.le_refl _)] at hc
        omega
      have hready : Region.ready .any ops l ≠ []:=by
        have hleast : ∃ i,(i < PL.length ∧ l.getD i false = false) ∧ ∀ j,j < i → ¬ (j < PL.length ∧ l.getD j false = false):=by
          obtain ⟨i,hi⟩:=hex
          induction i using Nat.strongRecOn with
          | _ i ih' =>
            by_cases hh : ∃ j,j < i ∧ (j < PL.length ∧ l.getD j false = false)
            · obtain ⟨j,hj,hj2⟩:=hh;exact ih' j hj hj2
            · exact ⟨i,hi,fun j hj hc=>hh ⟨j,hj,hc⟩⟩
        obtain ⟨i,⟨hi,hil⟩,hmin⟩:=hleast
        have hio : i < ops.size:=by omega
        have : i ∈ Region.ready .any ops l:=by
          refine mem_ready.2 ⟨?_,ops[i],Array.getElem?_eq_getElem hio,fun e he hb=>?_⟩
          · have hli : i < l.size:=by rw [I.lsz];exact hio
            simp [hli] at hil ⊢;exact hil
          · have h5':=g5 i hi
            rw [Array.getElem?_eq_getElem hio] at h5'
            simp only [Option.all_some,Array.all_eq_true,Bool.or_eq_true,Bool.not_eq_true',decide_eq_true_eq] at h5'
            obtain ⟨k,hk,hke⟩:=Array.mem_iff_getElem.1 he
            have hlt : e.on < i:=by
              rcases h5' k hk with h | h
              · rw [hke,hb] at h;cases h
              · rw [hke] at h;exact h
            have:=hmin e.on hlt
            by_cases hx : l.getD e.on false = true
            · exact hx
            · exact absurd ⟨by omega,by simpa using hx⟩ this
        intro h;rw [h] at this;cases this
      refine ⟨fun h=>absurd h hready,fun i hi=>?_⟩
      obtain ⟨hun,o,ho,hedge⟩:=mem_ready.1 hi
      have hio : i < ops.size:=(Array.getElem?_eq_some_iff.1 ho).1
      have hip : i < PL.length:=by omega
      have hli : i < l.size:=by rw [I.lsz];exact hio
      have hunf : l.getD i false = false:=by simp [hli] at hun ⊢;exact hun
      have hpo : PL[i]? = some PL[i]:=List.getElem?_eq_getElem hip
      generalize hgen : PL[i] = po at hpo
      have hgd : ops.getD i default = o:=by simp [ho]
      have hcnt : fuel + cnt (l.setIfInBounds i true) = ops.size:=by rw [cnt_set hli hun];omega
      have hcl : ∀ o',ops[i]? = some o' → ∀ e ∈ o'.after,Region.binds .any e = true → l.getD e.on false = true:=fun o' ho'=>by rw [ho] at ho';cases ho';exact hedge
      have hdo : o.dst = some po.d:=by
        have h:=g9 i hip
        rw [ho,hpo] at h
        simpa using h
      have hcset:=I.cl_set hio hcl
      obtain ⟨G,own,fs,hs,hSt⟩:=I.st
      have hfrs:=hfresh I hs hpo hunf
      have hdl : ∀ p ∈ depW PL po.dep ++ L,p ∈ faW PL l ++ (fs ++ L):=fun p hp=>by
        rcases List.mem_append.1 hp with h | h
        · obtain ⟨j,q,τ,hj,h1,h2,rfl⟩:=depW_mem h
          exact List.mem_append_left _ (faW_mem.2 ⟨j,q,τ,h1,I.waited _ (hdep hpo j hj) ho hedge,h2,rfl⟩)
        · exact List.mem_append_right _ (List.mem_append_right _ h)
      unfold wpOp
      rw [ho]
      simp only
      have hkind:=g8 i hip
      rw [hpo] at hkind
      simp only [Option.all_some] at hkind
      obtain ⟨pd,pk,pdep⟩:=po
      cases pk with
      | g τ =>
        have hob:=hG i pd τ pdep hpo a w G ((hSt.only hdl).front)
        rw [hgd] at hob
        have hni : i ≠ i0 ∧ i ≠ i1 ∧ i ≠ i2:=⟨fun e=>(by subst e;rw [hpo] at e0;cases e0;cases ek0),fun e=>(by subst e;rw [hpo] at e1;cases e1;cases ek1),fun e=>(by subst e;rw [hpo] at e2;cases e2;cases ek2)⟩
        have hstg : StgW O0 O1 d0 d1 i0 i1 i2 (l.setIfInBounds i true) own fs:=by
          unfold StgW
          rw [getD_set (Ne.symm hni.1),getD_set (Ne.symm hni.2.1),getD_set (Ne.symm hni.2.2)];exact hs
        have hnext : ∀ {v w' G'},τ.t v G' → Nxt w G w' G' → DW P W0 G0 N L B ops PL O0 O1 d0 d1 i0 i1 i2 (l.setIfInBounds i true) (a.put (some pd) v) w':=fun {v w' G'} hv hn =>
          ⟨by simpa using I.lsz,hcset,G',own,fs,hstg,(hSt.put (hfr hpo).1 hfrs hv hn).only fun p hp=>by
            rcases List.mem_append.1 hp with h | h
            · rcases faW_set (l:=l) hpo rfl hli h with e | e
              · subst e;exact .head _
              · exact .tail _ (List.mem_append_left _ e)
            · exact .tail _ (List.mem_append_right _ h)⟩
        rcases hob with ⟨hw,hr⟩ | ⟨hw,hu⟩
        · rw [if_pos hw]
          refine .inl (hr Q _ fun v w' G' hv hn=>?_)
          rw [hdo]
          exact ih _ _ _ (hnext hv hn) hcnt
        · rw [if_neg (by simp [hw]),hdo]
          exact ih _ _ _ (hnext hu (Nxt.refl hSt.nxt.ok)) hcnt
      | o0 =>
        obtain ⟨rfl,hgu,hob⟩:=H0 i pd pdep hpo
        rw [hgd] at hgu hob
        rw [if_pos (by simp [Region.wanted,hgu])]
        have hi0 : i = i0:=by simpa using hkind
        subst hi0
        rcases hs with ⟨h1,h2,h3,rfl,rfl⟩ | ⟨h1,_⟩ | ⟨h1,_⟩ | ⟨h1,_⟩
        · refine .inl (hob _ a w G _ hdl (by rw [List.append_nil] at hSt;exact hSt) hfrs fun V own a' w' G' hO hS'=>ih _ _ _ ⟨by simpa using I.lsz,hcset,G',own,[(pd,.ex V)],.inr (.inl ⟨set_at hli,by rw [getD_set (Ne.symm n01)];exact h2,by rw [getD_set (Ne.symm n02)];exact h3,V,hO,rfl⟩),hS'.only fun p hp=>?_⟩ hcnt)
          rcases List.mem_append.1 hp with h | h
          · exact .tail _ (List.mem_append_left _ (faW_none (l:=l) hpo rfl h))
          · rcases List.mem_append.1 h with h | h
            · simp at h;subst h;exact .head _
            · exact .tail _ (List.mem_append_right _ (List.mem_append_right _ h))
        · rw [hunf] at h1;cases h1
        · rw [hunf] at h1;cases h1
        · rw [hunf] at h1;cases h1
      | o1 =>
        obtain ⟨rfl,hgu,hob⟩:=H1 i pd pdep hpo
        rw [hgd] at hgu hob
        rw [if_pos (by simp [Region.wanted,hgu])]
        have hi1 : i = i1:=by simpa using hkind
        subst hi1
        have hp0 : l.getD i0 false = true:=I.waited _ g7.1 ho hedge
        rcases hs with ⟨h1,_⟩ | ⟨h1,h2,h3,V,hO,rfl⟩ | ⟨_,h1,_⟩ | ⟨_,h1,_⟩
        · rw [hp0] at h1;cases h1
        · refine .inl (hob _ a w G V own _ hdl hO (List.mem_append_right _ (List.mem_append_left _ (.head _))) hSt hfrs fun V own a' w' G' hO hS'=>ih _ _ _ ⟨by simpa using I.lsz,hcset,G',own,[(pd,.ex V)],.inr (.inr (.inl ⟨by rw [getD_set n01];exact h1,set_at hli,by rw [getD_set (Ne.symm n12)];exact h3,V,hO,rfl⟩)),hS'.only fun p hp=>?_⟩ hcnt)
          rcases List.mem_append.1 hp with h | h
          · exact .tail _ (List.mem_append_left _ (faW_none (l:=l) hpo rfl h))
          · rcases List.mem_append.1 h with h | h
            · simp at h;subst h;exact .head _
            · exact .tail _ (List.mem_append_right _ (List.mem_append_right _ h))
        · rw [hunf] at h1;cases h1
        · rw [hunf] at h1;cases h1
      | o2 τ =>
        obtain ⟨hgu,hob⟩:=H2 i pd τ pdep hpo
        rw [hgd] at hgu hob
        rw [if_pos (by simp [Region.wanted,hgu])]
        have hi2 : i = i2:=by simpa using hkind
        subst hi2
        have hp1 : l.getD i1 false = true:=I.waited _ g7.2 ho hedge
        have hp0 : l.getD i0 false = true:=I.past g7.1 hp1
        rcases hs with ⟨h1,_⟩ | ⟨_,h1,_⟩ | ⟨h1,h2,h3,V,hO,rfl⟩ | ⟨_,_,h1,_⟩
        · rw [hp0] at h1;cases h1
        · rw [hp1] at h1;cases h1
        · refine .inl (hob _ a w G V own _ hdl hO (List.mem_append_right _ (List.mem_append_left _ (.head _))) hSt hfrs fun a' w' G' hS' => ih _ _ _ ⟨by simpa using I.lsz, hcset, G', [], [], .inr (.inr (.inr ⟨by rw [getD_set n02]; exact h1, by rw [getD_set n12]; exact h2, set_at hli, rfl, rfl⟩)), by
            rw [List.append_nil]
            exact hS'.only fun p hp=>by
              rcases List.mem_append.1 hp with h | h
              · rcases faW_set (l:=l) hpo rfl hli h with e | e
                · subst e;exact .head _
                · exact .tail _ (List.mem_append_left _ e)
              · exact .tail _ (List.mem_append_right _ (List.mem_append_right _ h))⟩ hcnt)
        · rw [hunf] at h1;cases h1
  refine wp_region_any hm (key _ _ _ _ ⟨by simp,fun j o ho hl=>?_,Gs,[],[],.inl ⟨?_,?_,?_,rfl,rfl⟩,?_⟩ ?_)
  · have : j < ops.size:=(Array.getElem?_eq_some_iff.1 ho).1
    simp [this] at hl
  · have : i0 < ops.size:=by omega
    simp [this]
  · have : i1 < ops.size:=by omega
    simp [this]
  · have : i2 < ops.size:=by omega
    simp [this]
  · rw [List.append_nil]
    refine St.only (L:=L) ?_ fun p hp=>?_
    · exact { S with nxt:=S.nxt.trans (Nxt.drew S.ok),bx:=fun i x h=>(S.bx i x h).nxt (Nxt.drew S.ok) }
    · rcases List.mem_append.1 hp with h | h
      · obtain ⟨j,q,τ,h1,h2,_⟩:=faW_mem.1 h
        have : j < ops.size:=by have:=hpl h1;omega
        simp [this] at h2
      · simpa using h
  · simp [cnt]
end
section
variable {P : Program} {W0 : World} {G0 : Gh} {N : Nat} {L : List (Nat × MT)} {B Bh own : List BX} {a : Act} {w : World} {G : Gh} {o : Oper} {Q : Exit → Act → World → Prop} {k : Option Nat} {e : TypeId} {v : Value} {τs σs : List MT}
theorem St.appSw (S : St W0 G0 N L (Bh ++ own) a w G) {d t bytes : Nat} {x y : Operand} {z : Value} (ho : o.op = .call { callee := .builtin .append, args := #[x, y], argTypes := #[t, t] }) (hd : o.dst = some d)
    (ht : P.underlying t = some (.slice e)) (he : elS P e (k.getD 1) bytes z) (hz : Shaped k z) (hx : a.eval x = v) (hr : OWNS k e v own τs) (hy : (LS k σs).t (a.eval y) G) (hpos : 0 < σs.length) (hlim : τs.length + σs.length ≤ LIM) (hby : (τs.length + σs.length) * bytes ≤ 140737488355328) (hdN : (decide (d < N)) = true) (hf : fresh d L = true)
    {K' : Act → World → Prop} (K : ∀ v' own' a' w' G',OWNS k e v' own' (τs ++ σs) → St W0 G0 N ((d,.ex v') :: L) (Bh ++ own') a' w' G' → K' a' w') : o.wp P a w K' Q:=by
  obtain ⟨i,hi,h1,h2,h3⟩:=elS_of he
  obtain ⟨A,c,vs,hye,hlc,_,hE,hL⟩:=LS.vals hy
  have hvl : vs.length = σs.length:=hE.1
  obtain ⟨b2,off2,rfl,_⟩:=hL 0 vs[0] (by rw [List.getElem?_eq_getElem (by omega)])
  have hsz:=hE.sizes
  have hnl : (flat vs).length = σs.length * i.size:=by rw [flat_len hsz,hvl,h1]
  have hnews : ∀ j u,(flat vs)[j]? = some u → w.cell? ((⟨b2,off2,none⟩ : Addr).add j) = some u:=fun j u hj=>by rw [addr_add];exact Gc.cell S.ok (hL.all hsz j u hj)
  simp only [LIM] at hlim
  have hdN':=of_decide_eq_true hdN
  have go : ∀ v' w',(Builtin.append_ #[t,t] o.type #[v,.slice (some ⟨b2,off2,none⟩) σs.length c]).run P w = .ok v' w' → K' (a.put (some d) v') w' → o.wp P a w K' Q:=fun v' w' hrun hk=>by
    unfold Oper.wp execOp
    simp only [ho,resolve,invoke,builtin,Sem.run_bind,Sem.run_pure,Result.andThen_ok,List.map_toArray,List.map_cons,List.map_nil,hx,hye,hrun]
    show K' (a.put o.dst v') w'
    rw [hd];exact hk
  have grown : ∀ (us : List Value) (cp : Nat), Els k τs us G → (Builtin.append_ #[t, t] o.type #[v, .slice (some ⟨b2, off2, none⟩) σs.length c]).run P w =
      .ok (.slice (some ⟨w.heap.size,0,none⟩) (τs.length + σs.length) (grownCap w (τs.length + σs.length) cp e)) (w.drew.alloc (.cells ((flat us).toArray ++ (flat vs).toArray ++ Builtin.zeroCells z.cells (grownCap w (τs.length + σs.length) cp e - (τs.length + σs.length))) e)) → o.wp P a w K' Q:=fun us cp hU hrun=>by
    have hge:=grownCap_ge w (τs.length + σs.length) cp e
    generalize grownCap w (τs.length + σs.length) cp e = q at *
    have hcells : (flat us).toArray ++ (flat vs).toArray ++ Builtin.zeroCells z.cells (q - (τs.length + σs.length)) = (flat (us ++ vs) ++ (Builtin.zeroCells z.cells (q - (τs.length + σs.length))).toList).toArray:=by
      rw [flat_app];simp
    rw [hcells] at hrun
    have hN:=Nxt.drew S.ok
    have hUV:=hU.app hE
    have hzs : z.cells.size = k.getD 1:=shaped_size hz
    have hlen : (flat (us ++ vs) ++ (Builtin.zeroCells z.cells (q - (τs.length + σs.length))).toList).length = q * k.getD 1:=by
      have hzl : (Builtin.zeroCells z.cells (q - (τs.length + σs.length))).toList.length = (q - (τs.length + σs.length)) * k.getD 1:=by rw [Array.length_toList,size_zeroCells,hzs]
      rw [List.length_append,flat_len hUV.sizes,hzl,List.length_append,hU.1,hvl,← Nat.add_mul]
      congr 1;omega
    have hsh : Shaped (some (q * k.getD 1)) (.agg (flat (us ++ vs) ++ (Builtin.zeroCells z.cells (q - (τs.length + σs.length))).toList).toArray):=Shp.rows hUV (zero_one hz) hlen
    refine go _ _ hrun (K _ [⟨w.heap.size,e,some (q * k.getD 1),ROWS k (τs ++ σs)⟩] _ _ G (.inr ⟨_,q,by rw [List.length_append],rfl,by rw [List.length_append];exact hge⟩) (St.put (w':=_) ?_ hdN' hf rfl (Nxt.refl ?_)))
    · refine S.front.newEnd (u:=.agg (flat (us ++ vs) ++ (Builtin.zeroCells z.cells (q - (τs.length + σs.length))).toList).toArray) (hN.trans (Nxt.alloc hN.ok _)) (Nat.le_refl _) (heap_alloc_new w.drew _) hsh ⟨us ++ vs,_,rfl,hUV⟩
    · exact (hN.trans (Nxt.alloc hN.ok _)).ok
  rcases hr with ⟨rfl,rfl,rfl⟩ | ⟨b,cp,rfl,rfl,hcp⟩
  · have hrun:=run_append_nil (P:=P) w t o.type e i z ht hi h3 ⟨b2,off2,none⟩ σs.length c (flat vs) hnl hnews hpos (by simp at hlim;omega) (by rw [h2];simp at hby;omega)
    exact grown [] 0 Els.nil (by simpa [flat] using hrun)
  · obtain ⟨h4,h5,u,hu,hsu,us,r,rfl,hU⟩:=S.bx Bh.length ⟨b,e,some (cp * k.getD 1),ROWS k τs⟩ (by simp)
    obtain ⟨cs',e1,hszc,hone⟩:=cells_one hsu
    injection e1 with e1
    have hfl : (flat us).length = τs.length * k.getD 1:=by rw [flat_len hU.sizes,hU.1]
    have htot : (flat us ++ r).length = cp * k.getD 1:=by rw [← hszc,← e1];simp
    by_cases hroom : τs.length + σs.length ≤ cp
    · have hrl : σs.length * k.getD 1 ≤ r.length := by
        have : (τs.length + σs.length) * k.getD 1 ≤ cp * k.getD 1:=Nat.mul_le_mul_right _ hroom
        rw [List.length_append,hfl] at htot;rw [Nat.add_mul] at this;omega
      have hrun:=run_append_room (P:=P) w t o.type e i ht hi b τs.length cp (flat us ++ r).toArray hu ⟨b2,off2,none⟩ σs.length c (flat vs) hnl hnews (flat_one hE.shaped) hroom (by rw [h1,hnl,h1];simp;rw [hfl];omega)
      have hset:=S.setVar Bh.length (x:=⟨b,e,some (cp * k.getD 1),ROWS k τs⟩) (by simp) (v:=.agg (flat (us ++ vs) ++ r.drop (σs.length * k.getD 1)).toArray) (τ:=ROWS k (τs ++ σs)) (Shp.rows (hU.app hE) (fun x hx=>hone x (by rw [← e1];simp;exact .inr (List.mem_of_mem_drop hx))) (by
        rw [List.length_append,flat_len (hU.app hE).sizes,List.length_append,hU.1,hvl,List.length_drop];rw [List.length_append,hfl] at htot;rw [Nat.add_mul];omega)) ⟨us ++ vs,_,rfl,hU.app hE⟩
      have hB : (Bh ++ [(⟨b,e,some (cp * k.getD 1),ROWS k τs⟩ : BX)]).set Bh.length ⟨b,e,some (cp * k.getD 1),ROWS k (τs ++ σs)⟩ = Bh ++ [(⟨b,e,some (cp * k.getD 1),ROWS k (τs ++ σs)⟩ : BX)]:=by simp
      rw [hB] at hset
      have hcell : (List.take (τs.length * i.size) (flat us ++ r).toArray.toList ++ flat vs ++ List.drop (τs.length * i.size + (flat vs).length) (flat us ++ r).toArray.toList).toArray = (flat (us ++ vs) ++ r.drop (σs.length * k.getD 1)).toArray:=by
        congr 1
        show List.take _ (flat us ++ r) ++ flat vs ++ List.drop _ (flat us ++ r) = _
        rw [hnl,h1,← hfl,List.take_left',List.drop_length_add_append,flat_app]
        rfl
      rw [hcell] at hrun
      exact go _ _ hrun (K _ [⟨b,e,some (cp * k.getD 1),ROWS k (τs ++ σs)⟩] _ _ G (.inr ⟨b,cp,by rw [List.length_append],rfl,by rw [List.length_append];exact hroom⟩) (hset.put hdN' hf rfl (Nxt.refl hset.ok)))
    · have hrun := run_append_grow (P := P) w t o.type e i z ht hi h3 ⟨b, 0, none⟩ τs.length cp (flat us) (by rw [hfl, h1]) (fun j q hj => by
        rw [addr_add,Nat.zero_add]
        have hu' : w.heap[b]? = some (.cells (flat us ++ r).toArray e (0,0)):=hu
        have hlt:=(List.getElem?_eq_some_iff.1 hj).1
        simp only [World.cell?,hu',List.getElem?_toArray]
        rw [List.getElem?_append_left hlt,hj];rfl) ⟨b2,off2,none⟩ σs.length c (flat vs) hnl hnews (by omega) (by omega) (growslice_fits (by omega) (by rw [h2];exact hby))
      exact grown us cp hU hrun
theorem run_append_zero {t ty e : TypeId} {i : TypeInfo} (ht : P.underlying t = some (.slice e)) (hi : P.info? e = some i) {base A : Option Addr} {n c m : Nat} (hle : n ≤ m) (w : World) : (Builtin.append_ #[t,t] ty #[.slice base n m,.slice A 0 c]).run P w = .ok (.slice base n m) w:=by
  have hf : (Builtin.firstCells i.size 0 (.slice A 0 c)).run P w = .ok #[] w:=by
    cases A with
    | none=>simp [Builtin.firstCells]
    | some ad=>simp [Builtin.firstCells,loadCells,loadCellsFrom]
  cases base <;> simp [Builtin.append_,run_underlying ht,sizeOf,typeInfo,hi,Builtin.lenOf,hf,hle,storeCells]
theorem St.appZw (S : St W0 G0 N L (Bh ++ own) a w G) {d t bytes : Nat} {x y : Operand} {z : Value} (ho : o.op = .call { callee := .builtin .append, args := #[x, y], argTypes := #[t, t] }) (hd : o.dst = some d)
    (ht : P.underlying t = some (.slice e)) (he : elS P e (k.getD 1) bytes z) (hz : Shaped k z) (hx : a.eval x = v) (hr : OWNS k e v own τs) (hy : (LS k σs).t (a.eval y) G) (hlim : τs.length + σs.length ≤ LIM) (hby : (τs.length + σs.length) * bytes ≤ 140737488355328) (hdN : (decide (d < N)) = true) (hf : fresh d L = true)
    {K' : Act → World → Prop} (K : ∀ v' own' a' w' G',OWNS k e v' own' (τs ++ σs) → St W0 G0 N ((d,.ex v') :: L) (Bh ++ own') a' w' G' → K' a' w') : o.wp P a w K' Q:=by
  by_cases hpos : 0 < σs.length
  · exact S.appSw ho hd ht he hz hx hr hy hpos hlim hby hdN hf K
  · obtain rfl : σs = []:=List.length_eq_zero_iff.1 (by omega)
    obtain ⟨i,hi,h1,h2,h3⟩:=elS_of he
    obtain ⟨A,c,hye,hlc,_,_⟩:=hy
    have hrun : (Builtin.append_ #[t,t] o.type #[v,.slice A 0 c]).run P w = .ok v w:=by
      rcases hr with ⟨rfl,_,_⟩ | ⟨b,cp,rfl,_,hle⟩
      · exact run_append_zero ht hi (Nat.le_refl _) w
      · exact run_append_zero ht hi hle w
    unfold Oper.wp execOp
    simp only [List.length_nil] at hye
    simp only [ho,resolve,invoke,builtin,Sem.run_bind,Sem.run_pure,Result.andThen_ok,List.map_toArray,List.map_cons,List.map_nil,hx,hye,hrun]
    show K' (a.put o.dst v) w
    rw [hd]
    exact K v own _ _ G (by rw [List.append_nil];exact hr) (S.put (of_decide_eq_true hdN) hf rfl (Nxt.refl S.nxt.ok))
theorem St.bu0w (S : St W0 G0 N L B a w G) {d bytes t : Nat} {z : Value} (ho : o.op = .buildSlice t 0 #[]) (hd : o.dst = some d) (ht : P.underlying t = some (.slice e)) (he : elS P e (k.getD 1) bytes z) (hdN : (decide (d < N)) = true) (hf : fresh d L = true)
    {K' : Act → World → Prop} (K : ∀ v' own' a' w' G',OWNS k e v' own' [] → St W0 G0 N ((d,.ex v') :: L) (B ++ own') a' w' G' → K' a' w') : o.wp P a w K' Q:=by
  obtain ⟨i,hi,h1,h2,h3⟩:=elS_of he
  have hr : (execOp a.eval o).run P w = .ok (.value (.slice (some ⟨w.heap.size,0,none⟩) 0 0)) (w.alloc (.cells #[] e)):=by
    simp [execOp,ho,Instr.buildSlice,run_underlying ht,sizeOf,typeInfo,hi,Instr.fill,newRow,show Array.range 0 = #[] from rfl]
  unfold Oper.wp
  rw [hr]
  simp only [Oper.upon,hd]
  have S':=(S.newEnd (w':=w.alloc (.cells #[] e)) (b:=w.heap.size) (ty:=e) (k:=some (0 * k.getD 1)) (τ:=ROWS k []) (u:=.agg #[]) (Nxt.alloc S.nxt.ok _) (Nat.le_refl _) (heap_alloc_new w _) ⟨_,rfl,by simp,fun x hx=>by simp at hx⟩ ⟨[],[],rfl,Els.nil⟩).put (v:=.slice (some ⟨w.heap.size,0,none⟩) 0 0) (of_decide_eq_true hdN) hf (τ:=.ex (.slice (some ⟨w.heap.size,0,none⟩) 0 0)) rfl (Nxt.refl (S.nxt.ok.alloc _))
  exact K _ _ _ _ G (.inr ⟨w.heap.size,0,rfl,rfl,Nat.le_refl _⟩) S'
end
class ShZ (k : Option Nat) (z : Value) : Prop where
  s : Shaped k z
instance ShZ.q : ShZ (some 3) (.agg #[.bool false,.slice none 0 0,.slice none 0 0]):=⟨ZV.q.s⟩
instance ShZ.sl : ShZ none (.slice none 0 0):=⟨ZV.sl.s⟩
instance ShZ.n : ShZ none .nilIface:=⟨ZV.n.s⟩
instance ShZ.i {k : IntKind} : ShZ none (.int k 0):=⟨(ZV.i (k:=k)).s⟩
inductive WE where
  | g (d : Nat) (τ : MT) (u : List Nat)
  | o0 (d : Nat)
  | o1 (d : Nat) (u : List Nat)
  | o2 (d : Nat) (τ : MT) (u : List Nat)
def WE.sl : WE → Option (Nat × MT)
  | .g d τ _=>some (d,τ)
  | .o2 d τ _=>some (d,τ)
  | _=>none
def depE : Nat → List WE → List Nat → List Nat
  | _,[],_=>[]
  | i,e :: es,u=>if e.sl.any (fun p=>u.contains p.1) then i :: depE (i + 1) es u else depE (i + 1) es u
def pwW (all : List WE) : WE → PcW
  | .g d τ u=>⟨d,.g τ,depE 0 all u⟩
  | .o0 d=>⟨d,.o0,[]⟩
  | .o1 d u=>⟨d,.o1,depE 0 all u⟩
  | .o2 d τ u=>⟨d,.o2 τ,depE 0 all u⟩
theorem pwW_ty {all : List WE} {e : WE} {p : Nat × MT} (h : e.sl = some p) : (pwW all e).k.ty = some p.2 ∧ (pwW all e).d = p.1:=by
  cases e <;> simp [WE.sl] at h <;> subst h <;> exact ⟨rfl,rfl⟩
theorem depE_mem : ∀ {es : List WE} {o i d : Nat} {τ : MT} {e : WE} {u : List Nat},es[i]? = some e → e.sl = some (d,τ) → d ∈ u → o + i ∈ depE o es u
  | x :: es,o,0,d,τ,e,u,h,hs,hu=>by
    obtain rfl : x = e:=by simpa using h
    unfold depE
    rw [if_pos (by rw [hs];simpa using hu)]
    simp
  | x :: es,o,i + 1,d,τ,e,u,h,hs,hu=>by
    have ih : o + 1 + i ∈ depE (o + 1) es u:=depE_mem (es:=es) (by simpa using h) hs hu
    rw [show o + (i + 1) = o + 1 + i by omega]
    unfold depE
    split
    · exact List.mem_cons_of_mem _ ih
    · exact ih
  | [],_,_,_,_,_,_,h,_,_=>by simp at h
inductive RunWI (P : Program) (B : List BX) {α : Type} (T : α → MT) (k : Option Nat) (e : TypeId) (ys1 ys2 : List α) (d0 d1 : Nat) : List (Nat × MT) → List Oper → Prop → List WE → Prop
  | stop {L : List (Nat × MT)} : RunWI P B T k e ys1 ys2 d0 d1 L [] True []
  | g {L : List (Nat × MT)} {ops : List Oper} {d : Nat} {op : Op} {ty : TypeId} {pos : String} {aft : Array Edge} {pre pre' : Prop} {τ : MT} {u : List Nat} {es : List WE} :
      Op1 P L B op pre τ u → RunWI P B T k e ys1 ys2 d0 d1 ((d,τ) :: L) ops pre' es → RunWI P B T k e ys1 ys2 d0 d1 L (⟨some d,op,ty,pos,aft,none⟩ :: ops) (pre ∧ pre') (.g d τ u :: es)
  | o0 {L : List (Nat × MT)} {ops : List Oper} {t ty : TypeId} {pos : String} {aft : Array Edge} {pre : Prop} {es : List WE} {by0 : Nat} {z0 : Value} :
      ElS P t e k by0 z0 → RunWI P B T k e ys1 ys2 d0 d1 L ops pre es → RunWI P B T k e ys1 ys2 d0 d1 L (⟨some d0,.buildSlice t 0 #[],ty,pos,aft,none⟩ :: ops) pre (.o0 d0 :: es)
  | o1 {L : List (Nat × MT)} {ops : List Oper} {t ty : TypeId} {pos : String} {aft : Array Edge} {pre : Prop} {es : List WE} {by0 : Nat} {z0 : Value} {σ : MT} {y : Operand} {u : List Nat} :
      ElS P t e k by0 z0 → ShZ k z0 → Opd L y σ u → AsLT σ k T ys1 → RunWI P B T k e ys1 ys2 d0 d1 L ops pre es →
      RunWI P B T k e ys1 ys2 d0 d1 L (⟨some d1,.call { callee:=.builtin .append,args:=#[.tmp d0,y],argTypes:=#[t,t] },ty,pos,aft,none⟩ :: ops) ((ys1.length ≤ LIM ∧ ys1.length * by0 ≤ 140737488355328) ∧ pre) (.o1 d1 u :: es)
  | o2 {L : List (Nat × MT)} {ops : List Oper} {d : Nat} {t ty : TypeId} {pos : String} {aft : Array Edge} {pre : Prop} {es : List WE} {by0 : Nat} {z0 : Value} {σ : MT} {y : Operand} {u : List Nat} :
      ElS P t e k by0 z0 → ShZ k z0 → Opd L y σ u → AsLT σ k T ys2 → RunWI P B T k e ys1 ys2 d0 d1 ((d,LS k ((ys1 ++ ys2).map T)) :: L) ops pre es →
      RunWI P B T k e ys1 ys2 d0 d1 L (⟨some d,.call { callee:=.builtin .append,args:=#[.tmp d1,y],argTypes:=#[t,t] },ty,pos,aft,none⟩ :: ops) ((ys1.length + ys2.length ≤ LIM ∧ (ys1.length + ys2.length) * by0 ≤ 140737488355328) ∧ pre) (.o2 d (LS k ((ys1 ++ ys2).map T)) u :: es)
section
variable {P : Program} {B : List BX} {α : Type} {T : α → MT} {k : Option Nat} {e : TypeId} {ys1 ys2 : List α} {d0 d1 : Nat} {L L0 : List (Nat × MT)} {ops : List Oper} {pre : Prop} {es : List WE}
variable {W0 : World} {G0 : Gh} {N : Nat} {a : Act} {w : World} {G : Gh} {Q : Exit → Act → World → Prop}
def SemW (P : Program) (B : List BX) {α : Type} (T : α → MT) (k : Option Nat) (e : TypeId) (ys1 ys2 : List α) (d0 d1 : Nat) (L0 : List (Nat × MT)) (all : List WE) (o : Oper) : WE → Prop
  | .g d τ u=>∃ L' pre,(∀ p ∈ L',p ∈ L0 ∨ ∃ (m : Nat) (x : WE),all[m]? = some x ∧ x.sl = some p) ∧ o.dst = some d ∧ o.guard = none ∧ pre ∧ Op1 P L' B o.op pre τ u
  | .o0 d=>d = d0 ∧ o.dst = some d ∧ o.guard = none ∧ ∃ t by0 z0,o.op = .buildSlice t 0 #[] ∧ ElS P t e k by0 z0
  | .o1 d u=>d = d1 ∧ o.dst = some d ∧ o.guard = none ∧ ∃ L' t by0 z0 σ y,(∀ p ∈ L',p ∈ L0 ∨ ∃ (m : Nat) (x : WE),all[m]? = some x ∧ x.sl = some p) ∧ o.op = .call { callee:=.builtin .append,args:=#[.tmp d0,y],argTypes:=#[t,t] } ∧ ElS P t e k by0 z0 ∧ ShZ k z0 ∧ Opd L' y σ u ∧ AsLT σ k T ys1 ∧ ys1.length ≤ LIM ∧ ys1.length * by0 ≤ 140737488355328
  | .o2 d τ u=>τ = LS k ((ys1 ++ ys2).map T) ∧ o.dst = some d ∧ o.guard = none ∧ ∃ L' t by0 z0 σ y,(∀ p ∈ L',p ∈ L0 ∨ ∃ (m : Nat) (x : WE),all[m]? = some x ∧ x.sl = some p) ∧ o.op = .call { callee:=.builtin .append,args:=#[.tmp d1,y],argTypes:=#[t,t] } ∧ ElS P t e k by0 z0 ∧ ShZ k z0 ∧ Opd L' y σ u ∧ AsLT σ k T ys2 ∧ ys1.length + ys2.length ≤ LIM ∧ (ys1.length + ys2.length) * by0 ≤ 140737488355328
theorem RunWI.sem (R : RunWI P B T k e ys1 ys2 d0 d1 L ops pre es) : ∀ {e0 : List WE} {all : List WE},all = e0 ++ es → (∀ p ∈ L,p ∈ L0 ∨ ∃ (m : Nat) (x : WE),all[m]? = some x ∧ x.sl = some p) → pre → es.length = ops.length ∧ ∀ (j : Nat) (x : WE) (o : Oper),es[j]? = some x → ops[j]? = some o → SemW P B T k e ys1 ys2 d0 d1 L0 all o x:=by
  induction R with
  | stop=>intro e0 all _ _ _;exact ⟨rfl,fun j x o h=>by simp at h⟩
  | @g L ops d op ty pos aft pre pre' τ u es h _ ih =>
    intro e0 all ha hL hp
    have hx : all[e0.length]? = some (.g d τ u):=by rw [ha];simp
    obtain ⟨i1,i2⟩:=ih (e0:=e0 ++ [.g d τ u]) (all:=all) (by rw [ha];simp) (fun p hp=>by
      rcases List.mem_cons.1 hp with rfl | hp
      · exact .inr ⟨_,_,hx,rfl⟩
      · exact hL p hp) hp.2
    refine ⟨by simp [i1],fun j x o h1 h2=>?_⟩
    cases j with
    | zero=>cases h1;cases h2;exact ⟨L,pre,hL,rfl,rfl,hp.1,h⟩
    | succ j=>exact i2 j x o (by simpa using h1) (by simpa using h2)
  | @o0 L ops t ty pos aft pre es by0 z0 h _ ih =>
    intro e0 all ha hL hp
    obtain ⟨i1,i2⟩:=ih (e0:=e0 ++ [.o0 d0]) (all:=all) (by rw [ha];simp) hL hp
    refine ⟨by simp [i1],fun j x o h1 h2=>?_⟩
    cases j with
    | zero=>cases h1;cases h2;exact ⟨rfl,rfl,rfl,t,by0,z0,rfl,h⟩
    | succ j=>exact i2 j x o (by simpa using h1) (by simpa using h2)
  | @o1 L ops t ty pos aft pre es by0 z0 σ y u h hz hy hl _ ih =>
    intro e0 all ha hL hp
    obtain ⟨i1,i2⟩:=ih (e0:=e0 ++ [.o1 d1 u]) (all:=all) (by rw [ha];simp) hL hp.2
    refine ⟨by simp [i1],fun j x o h1 h2=>?_⟩
    cases j with
    | zero=>cases h1;cases h2;exact ⟨rfl,rfl,rfl,L,t,by0,z0,σ,y,hL,rfl,h,hz,hy,hl,hp.1.1,hp.1.2⟩
    | succ j=>exact i2 j x o (by simpa using h1) (by simpa using h2)
  | @o2 L ops d t ty pos aft pre es by0 z0 σ y u h hz hy hl _ ih =>
    intro e0 all ha hL hp
    have hx : all[e0.length]? = some (.o2 d (LS k ((ys1 ++ ys2).map T)) u):=by rw [ha];simp
    obtain ⟨i1,i2⟩:=ih (e0:=e0 ++ [.o2 d (LS k ((ys1 ++ ys2).map T)) u]) (all:=all) (by rw [ha];simp) (fun p hp=>by
      rcases List.mem_cons.1 hp with rfl | hp
      · exact .inr ⟨_,_,hx,rfl⟩
      · exact hL p hp) hp.2
    refine ⟨by simp [i1],fun j x o h1 h2=>?_⟩
    cases j with
    | zero=>cases h1;cases h2;exact ⟨rfl,rfl,rfl,L,t,by0,z0,σ,y,hL,rfl,h,hz,hy,hl,hp.1.1,hp.1.2⟩
    | succ j=>exact i2 j x o (by simpa using h1) (by simpa using h2)
theorem envW {all : List WE} {L' L1 : List (Nat × MT)} {u : List Nat} (hL : ∀ p ∈ L',p ∈ L0 ∨ ∃ (m : Nat) (x : WE),all[m]? = some x ∧ x.sl = some p) (h1 : ∀ p ∈ depW (all.map (pwW all)) (depE 0 all u) ++ L0,p ∈ L1) (S : St W0 G0 N L1 B a w G) : Env L' u a G:=fun t τ ht hm=>by
  rcases hL _ hm with h | ⟨m,x,hx,hs⟩
  · exact S.mem (h1 _ (List.mem_append_right _ h))
  · refine S.mem (h1 _ (List.mem_append_left _ ?_))
    have hd:=depE_mem (o:=0) hx hs ht
    rw [Nat.zero_add] at hd
    obtain ⟨g1,g2⟩:=pwW_ty (all:=all) hs
    refine List.mem_filterMap.2 ⟨m,hd,?_⟩
    rw [List.getElem?_map,hx]
    simp only [Option.map_some,Option.bind_some]
    rw [g1,g2];rfl
def fW : List WE → List (Nat × MT) → List (Nat × MT)
  | [],L=>L
  | .g d τ _ :: es,L=>fW es ((d,τ) :: L)
  | .o2 d τ _ :: es,L=>fW es ((d,τ) :: L)
  | .o0 _ :: es,L=>fW es L
  | .o1 _ _ :: es,L=>fW es L
theorem fW_mem : ∀ {es : List WE} {L : List (Nat × MT)} {p : Nat × MT},p ∈ fW es L → p ∈ L ∨ ∃ (j : Nat) (x : WE),es[j]? = some x ∧ x.sl = some p
  | [],L,p,h=>.inl h
  | x :: es,L,p,h=>by
    have key : ∀ L',p ∈ fW es L' → (∀ q ∈ L',q ∈ L ∨ x.sl = some q) → p ∈ L ∨ ∃ (j : Nat) (y : WE),(x :: es)[j]? = some y ∧ y.sl = some p:=fun L' h1 h2=>by
      rcases fW_mem h1 with h | ⟨j,y,h3,h4⟩
      · rcases h2 p h with h | h
        · exact .inl h
        · exact .inr ⟨0,x,rfl,h⟩
      · exact .inr ⟨j + 1,y,by simpa using h3,h4⟩
    cases x with
    | g d τ u=>exact key _ h fun q hq=>(List.mem_cons.1 hq).elim (fun e=>.inr (by rw [e];rfl)) .inl
    | o2 d τ u=>exact key _ h fun q hq=>(List.mem_cons.1 hq).elim (fun e=>.inr (by rw [e];rfl)) .inl
    | o0 d=>exact key _ h fun q hq=>.inl hq
    | o1 d u=>exact key _ h fun q hq=>.inl hq
class RW3 (P : Program) (B : List BX) (L : List (Nat × MT)) (ops : List Oper) (pre : outParam Prop) (es : outParam (List WE)) : Prop where
  r : ∀ {α : Type} (T : α → MT) (k : Option Nat) (e : TypeId) (ys1 ys2 : List α) (d0 d1 : Nat),RunWI P B T k e ys1 ys2 d0 d1 L ops pre es
class RW2 (P : Program) (B : List BX) {α : Type} (T : α → MT) (k : Option Nat) (e : TypeId) (ys1 : List α) (d1 : Nat) (L : List (Nat × MT)) (ops : List Oper) (pre : outParam Prop) (es : outParam (List WE)) (ys2 : outParam (List α)) : Prop where
  r : ∀ (d0 : Nat),RunWI P B T k e ys1 ys2 d0 d1 L ops pre es
class RW1 (P : Program) (B : List BX) {α : Type} (T : α → MT) (k : Option Nat) (e : TypeId) (d0 : Nat) (L : List (Nat × MT)) (ops : List Oper) (pre : outParam Prop) (es : outParam (List WE)) (ys1 ys2 : outParam (List α)) (d1 : outParam Nat) : Prop where
  r : RunWI P B T k e ys1 ys2 d0 d1 L ops pre es
class RW0 (P : Program) (B : List BX) {α : Type} (T : α → MT) (L : List (Nat × MT)) (ops : List Oper) (pre : outParam Prop) (es : outParam (List WE)) (k : outParam (Option Nat)) (e : outParam TypeId) (ys1 ys2 : outParam (List α)) (d0 d1 : outParam Nat) : Prop where
  r : RunWI P B T k e ys1 ys2 d0 d1 L ops pre es
section
variable {d by0 : Nat} {op : Op} {t ty : TypeId} {pos : String} {aft : Array Edge} {pre' : Prop} {τ σ : MT} {u : List Nat} {y : Operand} {z0 : Value}
instance RW3.stop : RW3 P B L [] True []:=⟨fun _ _ _ _ _ _ _=>.stop⟩
instance RW3.g [h : Op1 P L B op pre τ u] [r : RW3 P B ((d,τ) :: L) ops pre' es] : RW3 P B L (⟨some d,op,ty,pos,aft,none⟩ :: ops) (pre ∧ pre') (.g d τ u :: es):=⟨fun T k e ys1 ys2 d0 d1=>.g h (r.r T k e ys1 ys2 d0 d1)⟩
instance (priority:=500) RW2.g [h : Op1 P L B op pre τ u] [r : RW2 P B T k e ys1 d1 ((d,τ) :: L) ops pre' es ys2] : RW2 P B T k e ys1 d1 L (⟨some d,op,ty,pos,aft,none⟩ :: ops) (pre ∧ pre') (.g d τ u :: es) ys2:=⟨fun d0=>.g h (r.r d0)⟩
instance RW2.o [h : ElS P t e k by0 z0] [z : ShZ k z0] [hy : Opd L y σ u] [l : AsLT σ k T ys2] [r : RW3 P B ((d,LS k ((ys1 ++ ys2).map T)) :: L) ops pre es] : RW2 P B T k e ys1 d1 L (⟨some d,.call { callee:=.builtin .append,args:=#[.tmp d1,y],argTypes:=#[t,t] },ty,pos,aft,none⟩ :: ops) ((ys1.length + ys2.length ≤ LIM ∧ (ys1.length + ys2.length) * by0 ≤ 140737488355328) ∧ pre) (.o2 d (LS k ((ys1 ++ ys2).map T)) u :: es) ys2:=⟨fun d0=>.o2 h z hy l (r.r T k e ys1 ys2 d0 d1)⟩
instance (priority:=500) RW1.g [h : Op1 P L B op pre τ u] [r : RW1 P B T k e d0 ((d,τ) :: L) ops pre' es ys1 ys2 d1] : RW1 P B T k e d0 L (⟨some d,op,ty,pos,aft,none⟩ :: ops) (pre ∧ pre') (.g d τ u :: es) ys1 ys2 d1:=⟨.g h r.r⟩
instance RW1.o [h : ElS P t e k by0 z0] [z : ShZ k z0] [hy : Opd L y σ u] [l : AsLT σ k T ys1] [r : RW2 P B T k e ys1 d L ops pre es ys2] : RW1 P B T k e d0 L (⟨some d,.call { callee:=.builtin .append,args:=#[.tmp d0,y],argTypes:=#[t,t] },ty,pos,aft,none⟩ :: ops) ((ys1.length ≤ LIM ∧ ys1.length * by0 ≤ 140737488355328) ∧ pre) (.o1 d u :: es) ys1 ys2 d:=⟨.o1 h z hy l (r.r d0)⟩
instance (priority:=500) RW0.g [h : Op1 P L B op pre τ u] [r : RW0 P B T ((d,τ) :: L) ops pre' es k e ys1 ys2 d0 d1] : RW0 P B T L (⟨some d,op,ty,pos,aft,none⟩ :: ops) (pre ∧ pre') (.g d τ u :: es) k e ys1 ys2 d0 d1:=⟨.g h r.r⟩
instance RW0.o [h : ElS P t e k by0 z0] [r : RW1 P B T k e d L ops pre es ys1 ys2 d1] : RW0 P B T L (⟨some d,.buildSlice t 0 #[],ty,pos,aft,none⟩ :: ops) pre (.o0 d :: es) k e ys1 ys2 d d1:=⟨.o0 h r.r⟩
end
class FinW (es : List WE) (L : List (Nat × MT)) (L' : outParam (List (Nat × MT))) : Prop where
  h : L' = fW es L
section
variable {d : Nat} {τ : MT} {u : List Nat} {L' : List (Nat × MT)}
instance FinW.nil : FinW [] L L:=⟨rfl⟩
instance FinW.g [h : FinW es ((d,τ) :: L) L'] : FinW (.g d τ u :: es) L L':=⟨h.h⟩
instance FinW.o2 [h : FinW es ((d,τ) :: L) L'] : FinW (.o2 d τ u :: es) L L':=⟨h.h⟩
instance FinW.o0 [h : FinW es L L'] : FinW (.o0 d :: es) L L':=⟨h.h⟩
instance FinW.o1 [h : FinW es L L'] : FinW (.o1 d u :: es) L L':=⟨h.h⟩
end
def posW (f : WE → Bool) : Nat → List WE → Nat
  | i,[]=>i
  | i,x :: es=>if f x then i else posW f (i + 1) es
def WE.is0 : WE → Bool
  | .o0 _=>true
  | _=>false
def WE.is1 : WE → Bool
  | .o1 _ _=>true
  | _=>false
def WE.is2 : WE → Bool
  | .o2 _ _ _=>true
  | _=>false
theorem W.dw {id : Nat} {all : List Oper} {L' : List (Nat × MT)} (T : α → MT) [R : RW0 P B T L all pre es k e ys1 ys2 d0 d1] [fl : FinW es L L'] (hp : pre) (K : ∀ a w G, St W0 G0 N L' B a w G → Q .normal a w) (hm : P.follows .mixedOrders = true)
    (hd : drawOkW all.toArray (es.map (pwW es)) (L.map (·.1)) N (posW WE.is0 0 es) (posW WE.is1 0 es) (posW WE.is2 0 es) = true)
    (h0d : ((es.map (pwW es))[posW WE.is0 0 es]?).map (·.d) = some d0:=by rfl) (h1d : ((es.map (pwW es))[posW WE.is1 0 es]?).map (·.d) = some d1:=by rfl)
    (k0 : ∃ q,(es.map (pwW es))[posW WE.is0 0 es]? = some q ∧ q.k = .o0:=by exact ⟨_,rfl,rfl⟩) (k1 : ∃ q,(es.map (pwW es))[posW WE.is1 0 es]? = some q ∧ q.k = .o1:=by exact ⟨_,rfl,rfl⟩) (k2 : ∃ q τ,(es.map (pwW es))[posW WE.is2 0 es]? = some q ∧ q.k = .o2 τ:=by exact ⟨_,_,rfl,rfl⟩) :
    St W0 G0 N L B a w G → (Code.region id all.toArray true).wp P Q a w:=fun S=>by
  obtain ⟨hlen,hsem⟩:=R.r.sem (L0:=L) (e0:=[]) (all:=es) rfl (fun p hp=>.inl hp) hp
  have hat : ∀ {i : Nat} {q : PcW},(es.map (pwW es))[i]? = some q → ∃ x o,es[i]? = some x ∧ q = pwW es x ∧ all.toArray.getD i default = o ∧ SemW P B T k e ys1 ys2 d0 d1 L es o x:=fun {i q} hq=>by
    rw [List.getElem?_map] at hq
    cases hx : es[i]? with
    | none=>rw [hx] at hq;cases hq
    | some x =>
      rw [hx] at hq
      have hlt : i < all.length:=by rw [← hlen];exact (List.getElem?_eq_some_iff.1 hx).1
      have ho : all[i]? = some all[i]:=List.getElem?_eq_getElem hlt
      exact ⟨x,all[i],rfl,by simpa using hq.symm,by simp [hlt],hsem i x _ hx ho⟩
  refine S.drawnW (O0:=fun V own=>OWNS k e V own (([] : List α).map T)) (O1:=fun V own=>OWNS k e V own (ys1.map T)) (d0:=d0) (d1:=d1) (es.map (pwW es)) hm hd h0d h1d k0 k1 k2 ?_ ?_ ?_ ?_ fun a w G l hall S=>K a w G ?_
  · intro i d τ dep hq a w G S
    obtain ⟨x,o,hx,he,ho,hs⟩:=hat hq
    rw [ho]
    cases x with
    | g d' τ' u =>
      cases he
      obtain ⟨L1,pr,hL,_,hg,hpr,h⟩:=hs
      exact .of hg (h.ok rfl S.ok (envW hL (fun p hp=>hp) S) (S.bok _) hpr)
    | o0=>cases he
    | o1=>cases he
    | o2=>cases he
  · intro i d dep hq
    obtain ⟨x,o,hx,he,ho,hs⟩:=hat hq
    rw [ho]
    cases x with
    | g=>cases he
    | o0 d' =>
      cases he
      obtain ⟨rfl,hdst,hg,t,by0,z0,hop,h⟩:=hs
      refine ⟨rfl,hg,fun L1 a w G K h1 S hf hK=>?_⟩
      have hN : (decide (d < N)) = true:=by
        simp only [drawOkW,Bool.and_eq_true,List.all_eq_true] at hd
        exact (hd.1.1.1.1.1.1.2 _ (List.mem_of_getElem? hq)).2
      exact S.bu0w hop hdst h.h1 h.h2 hN hf fun v own a w G hO S=>hK v own a w G hO S
    | o1=>cases he
    | o2=>cases he
  · intro i d dep hq
    obtain ⟨x,o,hx,he,ho,hs⟩:=hat hq
    rw [ho]
    cases x with
    | g=>cases he
    | o0=>cases he
    | o1 d' u =>
      cases he
      obtain ⟨rfl,hdst,hg,L1,t,by0,z0,σ,y,hL,hop,h,hz,hy,hl,hp1,hp2⟩:=hs
      refine ⟨rfl,hg,fun L2 a w G V own K h1 hO hV S hf hK=>?_⟩
      have hN : (decide (d < N)) = true:=by
        simp only [drawOkW,Bool.and_eq_true,List.all_eq_true] at hd
        exact (hd.1.1.1.1.1.1.2 _ (List.mem_of_getElem? hq)).2
      have hE:=envW hL h1 S.front
      exact S.appZw hop hdst h.h1 h.h2 hz.s (show a.eval (.tmp d0) = V from S.mem hV) hO (hl.h (hy.h hE)) (by simpa using hp1) (by simpa using hp2) hN hf fun v own a w G hO S=>hK v own a w G (by simpa using hO) S
    | o2=>cases he
  · intro i d τ dep hq
    obtain ⟨x,o,hx,he,ho,hs⟩:=hat hq
    rw [ho]
    cases x with
    | g=>cases he
    | o0=>cases he
    | o1=>cases he
    | o2 d' τ' u =>
      cases he
      obtain ⟨rfl,hdst,hg,L1,t,by0,z0,σ,y,hL,hop,h,hz,hy,hl,hp1,hp2⟩:=hs
      refine ⟨hg,fun L2 a w G V own K h1 hO hV S hf hK=>?_⟩
      have hN : (decide (d < N)) = true:=by
        simp only [drawOkW,Bool.and_eq_true,List.all_eq_true] at hd
        exact (hd.1.1.1.1.1.1.2 _ (List.mem_of_getElem? hq)).2
      have hE:=envW hL h1 S.front
      refine S.appZw hop hdst h.h1 h.h2 hz.s (show a.eval (.tmp d1) = V from S.mem hV) hO (hl.h (hy.h hE)) (by simpa using hp1) (by simpa using hp2) hN hf fun v own a w G hO S=>?_
      rw [← List.map_append] at hO
      obtain ⟨G',h2,_,S'⟩:=S.freezeS hO (by simpa using hp1)
      refine hK a w G' (S'.weak fun j p hj=>?_)
      rcases List.mem_cons.1 (List.mem_of_getElem? hj) with e1 | e1
      · subst e1
        rw [show tm a d = v from S'.mem (.head _)];exact h2
      · exact S'.mem (.tail _ e1)
  · rw [fl.h]
    refine S.only fun p hp=>?_
    rcases fW_mem hp with h | ⟨j,x,hx,hs⟩
    · exact List.mem_append_right _ h
    · refine List.mem_append_left _ (faW_mem.2 ⟨j,pwW es x,p.2,by rw [List.getElem?_map,hx];rfl,hall j ?_,(pwW_ty hs).1,?_⟩)
      · rw [List.length_map];exact (List.getElem?_eq_some_iff.1 hx).1
      · rw [(pwW_ty hs).2]
end
end Go.Proofs.YtdbdnabpaadigaaGreat
set_option linter.unusedVariables false
set_option linter.unusedSimpArgs false
namespace Go.Proofs.YtdbdnabpaadigaaGreat
open Go.RowKit (Below)
abbrev FV (f : Nat) : MT:=.ex (.func (.func f) #[] #[])
section
variable {P : Program} {L : List (Nat × MT)} {B : List BX} {a : Act} {w : World} {G : Gh} {o : Oper} {f : Nat} {τs : List MT} {pre : Prop} {ρ : MT} {u v : List Nat}
instance Opd.func : Opd L (.func f) (FV f) []:=⟨fun _=>rfl⟩
theorem OpR.callV {f t : Nat} {args : Array Operand} {ats : Array TypeId} {τ : MT} (ho : o.op = .call { callee := .value (.tmp t), args := args, argTypes := ats }) (hf : a.eval (.tmp t) = .func (.func f) #[] #[]) (hc : callable P f = true)
    (h : Calls P f (args.map a.eval) w (Ret w G τ)) : OpR P o a w G τ:=fun Q K hK=>by
  have hr : (execOp a.eval o).run P w = .ok (.enter f (args.map a.eval)) w:=by
    simp [execOp,ho,resolve,hf,Deferred.ofValue,invoke,run_callFunc hc]
  unfold Oper.wp
  rw [hr]
  refine Calls.mono h fun e w' he=>?_
  obtain ⟨v,G',rfl,hv,hn⟩:=he
  exact hK v w' G' hv hn
instance Op1.callV {t : Nat} {xs : List Operand} {ats : Array TypeId} [q : Opd L (.tmp t) (FV f) v] [h : OpdL L xs τs u] [c : Con P f τs pre ρ] [k : Cb P f] : Op1 P L B (.call { callee:=.value (.tmp t),args:=xs.toArray,argTypes:=ats }) pre ρ (v ++ u) :=
  ⟨fun ho hok e _ hp=>.callV ho (q.h e.l) k.h (by rw [List.map_toArray];exact c.h hok (h.h e.r) hp)⟩
end
end Go.Proofs.YtdbdnabpaadigaaGreat
set_option linter.unusedVariables false
set_option linter.unusedSimpArgs false
namespace Go.Proofs.YtdbdnabpaadigaaGreat
open Go.RowKit (Below)
class Drp (L : List (Nat × MT)) (ws : List Nat) (L' : outParam (List (Nat × MT))) : Prop where
  h : ∀ p ∈ L',p ∈ L
instance Drp.nil {ws : List Nat} : Drp [] ws []:=⟨fun _ h=>h⟩
instance Drp.hd {L L' : List (Nat × MT)} {ws : List Nat} {t : Nat} {τ : MT} [In ws t] [h : Drp L ws L'] : Drp ((t,τ) :: L) ws L':=⟨fun p hp=>.tail _ (h.h p hp)⟩
instance (priority:=500) Drp.tl {L L' : List (Nat × MT)} {ws : List Nat} {x : Nat × MT} [h : Drp L ws L'] : Drp (x :: L) ws (x :: L'):=⟨fun p hp=>by
  rcases List.mem_cons.1 hp with e | e
  · subst e;exact .head _
  · exact .tail _ (h.h p e)⟩
class GcT (f id : Nat) (k : Bool) (t : outParam Nat) (ws : outParam (List Nat)) : Prop
section
variable {P : Program} {B : List BX} {L L' : List (Nat × MT)} {W0 : World} {G0 : Gh} {N : Nat} {a : Act} {w : World} {G : Gh} {Q : Exit → Act → World → Prop} {c c1 : Code} {τ0 : MT} {bd : Bool} {l : Array Oper}
theorem W.gcc (f : Nat) {id t : Nat} {ws : List Nat} [g : GcT f id false t ws] [Lk L t τ0] [d : Drp L (t :: ws) L'] (h : St W0 G0 N L' B a w G → (Code.seq (.region id l bd) c).wp P Q a w) : St W0 G0 N L B a w G → (Code.seq (.region id l bd) c).wp P Q a w:=fun S=>h (S.only d.h)
theorem W.gcd (f : Nat) {id t : Nat} {ws : List Nat} [g : GcT f id true t ws] [Lk L t τ0] [d : Drp L (t :: ws) L'] (h : St W0 G0 N L' B a w G → (Code.seq (.block id c1) c).wp P Q a w) : St W0 G0 N L B a w G → (Code.seq (.block id c1) c).wp P Q a w:=fun S=>h (S.only d.h)
end
end Go.Proofs.YtdbdnabpaadigaaGreat
namespace Go.Proofs.YtdbdnabpaadigaaGreat
end Go.Proofs.YtdbdnabpaadigaaGreat
namespace Go.Proofs.YtdbdnabpaadigaaGreat
open Go.RowKit (Below)
attribute [local irreducible] rotQ compareF befR
end Go.Proofs.YtdbdnabpaadigaaGreat
namespace Go.Proofs.YtdbdnabpaadigaaGreat
open Go.RowKit (Below)
theorem vget (l : List FR) (j : Nat) : (l.map FR.val).getD j default = (l.getD j default).val:=by
  rw [List.getD_eq_getElem?_getD,List.getD_eq_getElem?_getD,List.getElem?_map]
  cases l[j]? with
  | none=>exact val_default.symm
  | some z=>rfl
theorem rotL_iff {l : List FR} {t : Nat} : rotL l t = true ↔ rotQ ((l.map FR.val).getD t default) ((l.map FR.val).getD ((t + 3) % 4) default) ((l.map FR.val).getD ((t + 1) % 4) default) ((l.map FR.val).getD ((t + 2) % 4) default):=by
  simp only [vget]
  unfold rotL rotQ
  rw [Bool.and_eq_true,decide_eq_true_iff,decide_eq_true_iff]
end Go.Proofs.YtdbdnabpaadigaaGreat
namespace Go.Proofs.YtdbdnabpaadigaaGreat
open Go.RowKit (Below)
end Go.Proofs.YtdbdnabpaadigaaGreat
namespace Go.Proofs.YtdbdnabpaadigaaGreat
open Go.RowKit (Below)
def invQ (l : List FR) (k : Int) : List FR:=[invF l k 0,invF l k 1,invF l k 2,invF l k 3]
theorem inv_pos {l : List FR} {k : Int} (h : chkF l = 0) (hl : l.length = 4) : (invQ l k).all posR = true:=by
  have hp:=chk_pos h
  have : ∀ j,posR (invF l k j) = true:=fun j=>by
    unfold invF;rw [if_pos h,posR_of4]
    have hlt : (j + md4 k) % 4 < l.length:=by rw [hl];exact Nat.mod_lt _ (by decide)
    refine decide_eq_true (posR_val (List.all_eq_true.1 hp _ ?_))
    rw [List.getD_eq_getElem?_getD,List.getElem?_eq_getElem hlt];exact List.getElem_mem hlt
  unfold invQ;simp [this]
end Go.Proofs.YtdbdnabpaadigaaGreat
namespace Go.Proofs.YtdbdnabpaadigaaGreat
end Go.Proofs.YtdbdnabpaadigaaGreat
namespace Go.Proofs.YtdbdnabpaadigaaGreat
theorem fr_self {r : FR} (hw : wfl r.p ∧ wfl r.q) (hok : r.ok = true) : FR.of r.val = r:=by
  obtain ⟨s,p,q⟩:=r
  have hw : wfl p ∧ wfl q:=hw
  have hok : qok s p q = true:=hok
  by_cases hp : p.length = 0
  · have e:=List.length_eq_zero_iff.1 hp
    subst e
    have h : qok s [] q = true:=hok
    have hv : FR.val ⟨s,[],q⟩ = 0:=qval_nil rfl
    unfold qok at h
    split at h
    · rename_i k
      obtain rfl:=k.2
      rw [hv]
      have : s = false:=by simpa using h
      subst this
      unfold FR.of dwords
      rw [if_pos rfl,show (0 : Rat).num.natAbs = 0 from rfl,words_zero];rfl
    · simp at h
  · obtain ⟨_,h3,h4,h5,h6⟩:=qval_parts hw hok hp
    have hp0 : val p ≠ 0:=fun e=>ne_of_len hp (val_eq_zero h3 e)
    have hne : FR.val ⟨s,p,q⟩ ≠ 0:=fun e=>by
      have h5' : (FR.val ⟨s,p,q⟩).num = sg s (val p):=h5
      rw [e] at h5'
      have:=congrArg Int.natAbs h5'
      rw [sg_abs] at this;exact hp0 this.symm
    have hs : decide (FR.val ⟨s,p,q⟩ < 0) = s:=by
      have h5' : (FR.val ⟨s,p,q⟩).num = sg s (val p):=h5
      have h7 : FR.val ⟨s,p,q⟩ < 0 ↔ (FR.val ⟨s,p,q⟩).num < 0:=by
        rw [← Rat.not_le,← Rat.num_nonneg];omega
      rw [Bool.eq_iff_iff,decide_eq_true_iff,h7,h5']
      cases s <;> simp [sg] <;> omega
    unfold FR.of dwords
    rw [if_neg hne,hs]
    have e1 : (FR.val ⟨s,p,q⟩).num.natAbs = val p:=(congrArg Int.natAbs h5).trans sg_abs
    have e2 : (FR.val ⟨s,p,q⟩).den = val q:=h6
    rw [e1,e2,words_val hw.1 h3,words_val hw.2 h4]
theorem FX.self {n : Nat} {r : FR} {v : Value} {G : Gh} (h : (FX n r).t v G) (hok : r.ok = true) : (FX n (FR.of r.val)).t v G:=FX.eq h (fr_self (QR.wf (FX.qr h)) hok).symm
theorem FX.inv {n : Nat} {ra rb rc rd : FR} {k : Int} {j : Nat} {v : Value} {G : Gh} (hck : chkF [ra,rb,rc,rd] = 0) (h : (FX n ([ra,rb,rc,rd].getD ((j + md4 k) % 4) default)).t v G) : (FX n (invF [ra,rb,rc,rd] k j)).t v G:=by
  have hp:=chk_pos hck
  unfold invF;rw [if_pos hck]
  refine FX.self h ?_
  have hlt : (j + md4 k) % 4 < [ra,rb,rc,rd].length:=Nat.mod_lt _ (by decide)
  have hm : [ra,rb,rc,rd].getD ((j + md4 k) % 4) default ∈ [ra,rb,rc,rd]:=by
    rw [List.getD_eq_getElem?_getD,List.getElem?_eq_getElem hlt];exact List.getElem_mem hlt
  have:=List.all_eq_true.1 hp _ hm
  unfold posR at this
  exact (Bool.and_eq_true_iff.1 this).1
section
variable {a b c d A B C D : Rat}
end
end Go.Proofs.YtdbdnabpaadigaaGreat
set_option linter.unusedVariables false
set_option linter.unusedSimpArgs false
namespace Go.Proofs.YtdbdnabpaadigaaGreat
def nearR (x : Rat) (u v : RR) (k : Rat) : RR:=RR.of x + RR.of (-(2 * k)) * u + RR.of 2 * v
theorem rt_sub {x : Rat} {u v : RR} {k m : Rat} : nearR x u v k - nearR x u v m = RR.of (2 * (m - k)) * u:=by
  unfold nearR
  obtain ⟨f,hf,rfl⟩:=RR.rep u;obtain ⟨g,hg,rfl⟩:=RR.rep v
  exact RR.ext fun n=>by grind
theorem near_R {g a b c : FR} (h : [g,a,b,c].all posR = true) (k : Rat) : nearF g a b c k = sgR (nearR (g.val + a.val - (b.val + c.val)) (rt (a.val * g.val)) (rt (b.val * c.val)) k):=surds_sg (pos_nn h).1 (pos_nn h).2
theorem far_R {g a b c : FR} (h : [g,a,b,c].all posR = true) (k : Rat) : farF g a b c k = sgR (nearR (-(g.val + a.val - (b.val + c.val))) (rt (a.val * g.val)) (rt (b.val * c.val)) (-k)):=by
  unfold farF nearR
  rw [show -(g.val + a.val - (b.val + c.val)) = b.val + c.val - (g.val + a.val) by grind,show -(2 * -k) = 2 * k by grind]
  exact surds_sg (pos_nn h).1 (pos_nn h).2
theorem nearR_anti {x : Rat} {u v : RR} (hu : 0 ≤ u) {k m : Rat} (hk : k ≤ m) : sgR (nearR x u v m) ≤ sgR (nearR x u v k):=by
  refine sgR_mono ?_
  rw [RR.le_iff_sub,rt_sub]
  exact RR.mul_nn (RR.of_le (p:=0) |>.2 (by grind)) hu
theorem near_anti {g a b c : FR} (h : [g,a,b,c].all posR = true) {k m : Rat} (hk : k ≤ m) : nearF g a b c m ≤ nearF g a b c k:=by
  rw [near_R h,near_R h];exact nearR_anti (rt_nn _) hk
theorem far_mono {g a b c : FR} (h : [g,a,b,c].all posR = true) {k m : Rat} (hk : k ≤ m) : farF g a b c k ≤ farF g a b c m:=by
  rw [far_R h,far_R h];exact nearR_anti (rt_nn _) (by grind)
def nearV (g a b c k : Rat) : Int:=surdsF (g + a - (b + c)) (-(2 * k)) (a * g) 2 (b * c)
def farV (g a b c k : Rat) : Int:=surdsF (b + c - (g + a)) (2 * k) (a * g) 2 (b * c)
theorem nearV_s1 {g a b c k : Rat} : nearV g a b c k = nearV a g b c k:=by unfold nearV;rw [Rat.add_comm g a,Rat.mul_comm a g]
theorem nearV_s2 {g a b c k : Rat} : nearV g a b c k = nearV g a c b k:=by unfold nearV;rw [Rat.add_comm b c,Rat.mul_comm b c]
theorem farV_s1 {g a b c k : Rat} : farV g a b c k = farV a g b c k:=by unfold farV;rw [Rat.add_comm g a,Rat.mul_comm a g]
theorem farV_s2 {g a b c k : Rat} : farV g a b c k = farV g a c b k:=by unfold farV;rw [Rat.add_comm b c,Rat.mul_comm b c]
section
variable {g a b c : Rat}
theorem of_4 (hg : 0 ≤ g) (ha : 0 ≤ a) (hb : 0 ≤ b) (hc : 0 ≤ c) : RR.of (g + a - (b + c)) = rt g * rt g + rt a * rt a - (rt b * rt b + rt c * rt c):=by
  rw [rt_sq hg,rt_sq ha,rt_sq hb,rt_sq hc,RR.of_sub,RR.of_add,RR.of_add]
theorem near_p1 (hg : 0 ≤ g) (hb : 0 ≤ b) (hga : g ≤ a) (hbc : b ≤ c) : nearV g a b c 1 ≥ 0 ↔ rt g + rt c ≤ rt a + rt b:=by
  have ha : 0 ≤ a:=by grind
  have hc : 0 ≤ c:=by grind
  unfold nearV
  rw [surds_sg (Rat.mul_nonneg ha hg) (Rat.mul_nonneg hb hc),rt_mul ha hg,rt_mul hb hc,of_4 hg ha hb hc]
  have e : rt g * rt g + rt a * rt a - (rt b * rt b + rt c * rt c) + RR.of (-(2 * 1)) * (rt a * rt g) + RR.of 2 * (rt b * rt c) = (rt a - rt g) * (rt a - rt g) - (rt c - rt b) * (rt c - rt b):=by
    generalize rt a = A;generalize rt g = D;generalize rt b = B;generalize rt c = C
    obtain ⟨f,hf,rfl⟩:=RR.rep A;obtain ⟨f1,hf1,rfl⟩:=RR.rep D;obtain ⟨f2,hf2,rfl⟩:=RR.rep B;obtain ⟨f3,hf3,rfl⟩:=RR.rep C
    exact RR.ext fun n=>by grind
  have e2 : (rt a - rt g) - (rt c - rt b) = (rt a + rt b) - (rt g + rt c):=by
    generalize rt a = A;generalize rt g = D;generalize rt b = B;generalize rt c = C
    obtain ⟨f,hf,rfl⟩:=RR.rep A;obtain ⟨f1,hf1,rfl⟩:=RR.rep D;obtain ⟨f2,hf2,rfl⟩:=RR.rep B;obtain ⟨f3,hf3,rfl⟩:=RR.rep C
    exact RR.ext fun n=>by grind
  rw [e,← sgR_sq (RR.le_iff_sub.1 (rt_le hg hga)) (RR.le_iff_sub.1 (rt_le hb hbc)),e2]
  exact sgR_ge
theorem far_m1 (hg : 0 ≤ g) (ha : 0 ≤ a) (hb : 0 ≤ b) (hc : 0 ≤ c) : farV g a b c (-1) ≥ 0 ↔ rt g + rt a ≤ rt b + rt c:=by
  unfold farV
  rw [surds_sg (Rat.mul_nonneg ha hg) (Rat.mul_nonneg hb hc),rt_mul ha hg,rt_mul hb hc,of_4 hb hc hg ha]
  have e : rt b * rt b + rt c * rt c - (rt g * rt g + rt a * rt a) + RR.of (2 * -1) * (rt a * rt g) + RR.of 2 * (rt b * rt c) = (rt b + rt c) * (rt b + rt c) - (rt g + rt a) * (rt g + rt a):=by
    generalize rt a = A;generalize rt g = D;generalize rt b = B;generalize rt c = C
    obtain ⟨f,hf,rfl⟩:=RR.rep A;obtain ⟨f1,hf1,rfl⟩:=RR.rep D;obtain ⟨f2,hf2,rfl⟩:=RR.rep B;obtain ⟨f3,hf3,rfl⟩:=RR.rep C
    exact RR.ext fun n=>by grind
  rw [e,← sgR_sq (RR.add_nn (rt_nn _) (rt_nn _)) (RR.add_nn (rt_nn _) (rt_nn _))]
  exact sgR_ge
theorem full_rot (hg : 0 ≤ g) (ha : 0 ≤ a) (hb : 0 ≤ b) (hc : 0 ≤ c) : (nearV g a b c 1 ≥ 0 ∧ farV g a b c (-1) ≥ 0) ↔ rotQ a g b c:=by
  have key : ∀ {g a b c : Rat},0 ≤ g → 0 ≤ b → g ≤ a → b ≤ c → ((nearV g a b c 1 ≥ 0 ∧ farV g a b c (-1) ≥ 0) ↔ rotQ g a b c):=fun {g a b c} hg hb hga hbc=>by
    rw [near_p1 hg hb hga hbc,far_m1 hg (by grind) hb (by grind),rotQ_iff hg (by grind) hb (by grind) hga hbc]
    exact And.comm
  rw [rotQ_swap1 ha hg hb hc]
  rcases Rat.le_total (a:=g) (b:=a) with h | h <;> rcases Rat.le_total (a:=b) (b:=c) with k | k
  · exact key hg hb h k
  · rw [nearV_s2,farV_s2,key hg hc h k];exact rotQ_swap2 hg ha hc hb
  · rw [nearV_s1,farV_s1,key ha hb h k];exact rotQ_swap1 ha hg hb hc
  · rw [nearV_s1,nearV_s2,farV_s1,farV_s2,key ha hc h k,rotQ_swap1 ha hg hc hb];exact rotQ_swap2 hg ha hc hb
end
theorem full_rotL {g a b c : FR} (h : chkF [g,a,b,c] = 0) : fullF g a b c = rotL [g,a,b,c] 1:=by
  have hp:=chk_pos h
  simp only [List.all_cons,List.all_nil,Bool.and_true,Bool.and_eq_true] at hp
  have p0:=Rat.le_of_lt (posR_val hp.1);have p1:=Rat.le_of_lt (posR_val hp.2.1);have p2:=Rat.le_of_lt (posR_val hp.2.2.1);have p3:=Rat.le_of_lt (posR_val hp.2.2.2)
  rw [full_ok (by omega),Bool.eq_iff_iff,rotL_iff,Bool.and_eq_true,decide_eq_true_eq,decide_eq_true_eq]
  exact full_rot p0 p1 p2 p3
end Go.Proofs.YtdbdnabpaadigaaGreat
namespace Go.Proofs.YtdbdnabpaadigaaGreat
theorem cmpQ_eq0 {x y : Rat} : cmpQ x y = 0 ↔ x = y:=by unfold cmpQ;split <;> (try split) <;> simp_all <;> grind
end Go.Proofs.YtdbdnabpaadigaaGreat
