import Derived.Laws.CopyRow
import Derived.Shelf.Slices.Reverse
import Derived.Test.YtjphllpnhjemjaaProg
import Derived.Test.YtjphllpnhjemjaaQf
set_option linter.unusedVariables false
set_option linter.unusedSimpArgs false
set_option linter.unusedVariables false
set_option linter.unusedSimpArgs false
namespace Go.Proofs.Ytjphllpnhjemjaa
open Go.RowKit (Below)
def drawOk1 (ops : Array Oper) (PL : List PcW) (L : List Nat) (N ic : Nat) : Bool :=
  decide (PL.length ≤ ops.size) &&
  (List.range PL.length).all (fun i=>(List.range PL.length).all fun j=>i == j || (PL[i]?).map (·.d) != (PL[j]?).map (·.d)) &&
  PL.all (fun po=>!L.contains po.d && decide (po.d < N)) &&
  (List.range PL.length).all (fun i=>(ops[i]?).all fun o=>o.after.all fun e=>!Region.binds .any e || decide (e.on < i)) &&
  (List.range PL.length).all (fun i=>(PL[i]?).all fun po=>po.dep.all fun j=>decide (j < PL.length) && waits ops ops.size i j) &&
  (List.range PL.length).all (fun i=>(PL[i]?).all fun po=>(match po.k with | .g _=>i != ic | .o2 _=>i == ic | _=>false)) &&
  (List.range PL.length).all (fun i=>(ops[i]?).bind (·.dst) == (PL[i]?).map (·.d)) &&
  decide (ic < PL.length) &&
  (List.range (ops.size - PL.length)).all (fun j=>(List.range PL.length).all fun i=>waits ops ops.size (PL.length + j) i) &&
  (List.range (ops.size - PL.length)).all (fun j=>Region.ready .any ops (firstN ops.size (PL.length + j)) == [PL.length + j])
section
variable {P : Program} {W0 : World} {G0 : Gh} {N : Nat} {L : List (Nat × MT)} {B B' : List BX}
theorem St.noB {a : Act} {w : World} {G : Gh} (S : St W0 G0 N L B a w G) : St W0 G0 N L [] a w G:=⟨S.nxt,S.size,S.dfr,S.ty,fun i x h=>by simp at h,fun i j x y h=>by simp at h⟩
structure D1 (P : Program) (W0 : World) (G0 : Gh) (N : Nat) (L : List (Nat × MT)) (B B' : List BX) (ops : Array Oper) (PL : List PcW) (ic : Nat) (l : Array Bool) (a : Act) (w : World) : Prop where
  lsz : l.size = ops.size
  cl : ∀ (j : Nat) (o : Oper),ops[j]? = some o → l.getD j false = true → ∀ e ∈ o.after,Region.binds .any e = true → l.getD e.on false = true
  tl : ∀ k,PL.length ≤ k → l.getD k false = false
  st : ∃ G,St W0 G0 N (faW PL l ++ L) (if l.getD ic false = true then B' else B) a w G
def Ob1G (P : Program) (W0 : World) (G0 : Gh) (N : Nat) (L : List (Nat × MT)) (ops : Array Oper) (PL : List PcW) : Prop :=
  ∀ (i d : Nat) (τ : MT) (dep : List Nat),PL[i]? = some ⟨d,.g τ,dep⟩ → ∀ a w G,St W0 G0 N (depW PL dep ++ L) [] a w G → OpG P ops (ops.getD i default) a w G τ
def Ob1C (P : Program) (W0 : World) (G0 : Gh) (N : Nat) (L : List (Nat × MT)) (B B' : List BX) (ops : Array Oper) (PL : List PcW) (Q : Exit → Act → World → Prop) : Prop :=
  ∀ (i d : Nat) (τ : MT) (dep : List Nat),PL[i]? = some ⟨d,.o2 τ,dep⟩ → (ops.getD i default).guard = none ∧ ∀ (L' : List (Nat × MT)) a w G (K : Act → World → Prop),(∀ p ∈ depW PL dep ++ L,p ∈ L') → St W0 G0 N L' B a w G → fresh d L' = true →
    (∀ a' w' G',St W0 G0 N ((d,τ) :: L') B' a' w' G' → K a' w') → (ops.getD i default).wp P a w K Q
variable {ops : Array Oper} {PL : List PcW} {ic : Nat} {l : Array Bool} {a : Act} {w : World} {Q : Exit → Act → World → Prop}
theorem D1.waited (I : D1 P W0 G0 N L B B' ops PL ic l a w) : ∀ (m : Nat) {j i : Nat} {o : Oper}, waits ops m j i = true → ops[j]? = some o →
    (∀ e ∈ o.after,Region.binds .any e = true → l.getD e.on false = true) → l.getD i false = true
  | 0,_,_,_,h,_,_=>by cases h
  | m + 1,j,i,o,h,ho,he=>by
    unfold waits at h
    rw [ho] at h
    simp only [Option.any_some,Array.any_eq_true,Bool.and_eq_true,Bool.or_eq_true,beq_iff_eq] at h
    obtain ⟨k,hk,hb,h⟩:=h
    have hl:=he _ (Array.getElem_mem hk) hb
    rcases h with h | h
    · rw [← h];exact hl
    · have hon : (o.after[k]).on < ops.size := by
        have : (o.after[k]).on < l.size:=by
          rcases Nat.lt_or_ge (o.after[k]).on l.size with h1 | h1
          · exact h1
          · simp [Array.getElem?_eq_none h1] at hl
        rw [I.lsz] at this;exact this
      have ho':=Array.getElem?_eq_getElem hon
      exact D1.waited I m h ho' (I.cl _ _ ho' hl)
theorem D1.past (I : D1 P W0 G0 N L B B' ops PL ic l a w) {j i : Nat} (h : waits ops ops.size j i = true) (hj : l.getD j false = true) : l.getD i false = true:=by
  have hlt : j < ops.size:=by
    rcases Nat.lt_or_ge j l.size with h1 | h1
    · rw [I.lsz] at h1;exact h1
    · simp [Array.getElem?_eq_none h1] at hj
  have ho:=Array.getElem?_eq_getElem hlt
  exact I.waited _ h ho (I.cl _ _ ho hj)
theorem D1.cl_set {i : Nat} (I : D1 P W0 G0 N L B B' ops PL ic l a w) (hi : i < ops.size) (hcl : ∀ (o : Oper), ops[i]? = some o → ∀ e ∈ o.after, Region.binds .any e = true → l.getD e.on false = true) :
    ∀ (j : Nat) (o : Oper),ops[j]? = some o → (l.setIfInBounds i true).getD j false = true → ∀ e ∈ o.after,Region.binds .any e = true → (l.setIfInBounds i true).getD e.on false = true:=fun j o ho hl e he hb=>by
  have hl' : l.getD e.on false = true:=by
    by_cases e1 : j = i
    · subst e1;exact hcl o ho e he hb
    · rw [getD_set e1] at hl;exact I.cl j o ho hl e he hb
  by_cases e2 : e.on = i
  · rw [e2];have : i < l.size:=by rw [I.lsz];exact hi
    simp [this]
  · rw [getD_set e2];exact hl'
theorem St.drawn1 {id : Nat} {a0 : Act} {w0 : World} {Gs : Gh} (S : St W0 G0 N L B a0 w0 Gs) (PL : List PcW) (hm : P.follows .mixedOrders = true) (hd : drawOk1 ops PL (L.map (·.1)) N ic = true)
    (hG : Ob1G P W0 G0 N L ops PL) (HC : Ob1C P W0 G0 N L B B' ops PL Q)
    (K : ∀ a w G l,(∀ i,i < PL.length → l.getD i false = true) → St W0 G0 N (faW PL l ++ L) B' a w G → wpList P ops Q (ops.toList.drop PL.length) a w) : (Code.region id ops true).wp P Q a0 w0:=by
  simp only [drawOk1,Bool.and_eq_true,List.all_eq_true,List.mem_range,decide_eq_true_eq,Bool.or_eq_true,bne_iff_ne,Bool.not_eq_true',beq_iff_eq] at hd
  obtain ⟨⟨⟨⟨⟨⟨⟨⟨⟨g1,g3⟩,g4⟩,g5⟩,g6⟩,g8⟩,g9⟩,g10⟩,g11⟩,g12⟩:=hd
  have hpl : ∀ {i : Nat} {po : PcW},PL[i]? = some po → i < PL.length:=fun h=>(List.getElem?_eq_some_iff.1 h).1
  have hne : ∀ {i j : Nat} {po po' : PcW},PL[i]? = some po → PL[j]? = some po' → i ≠ j → po.d ≠ po'.d:=fun {i j po po'} hp hp' hij=>by
    rcases g3 i (hpl hp) j (hpl hp') with h | h
    · exact absurd h hij
    · rw [hp,hp'] at h;simpa using h
  have hfr : ∀ {i : Nat} {po : PcW},PL[i]? = some po → po.d < N ∧ ∀ p ∈ L,p.1 ≠ po.d:=fun {i po} hp=>by
    have:=g4 po (List.mem_of_getElem? hp)
    refine ⟨this.2,fun p hpm e=>?_⟩
    have hc:=this.1
    rw [← e] at hc
    have : (L.map (·.1)).contains p.1 = true:=by simpa using ⟨p.2,hpm⟩
    rw [this] at hc;cases hc
  have hdep : ∀ {i : Nat} {po : PcW},PL[i]? = some po → ∀ j ∈ po.dep,waits ops ops.size i j = true:=fun {i po} hp j hj=>by
    have h6':=g6 i (hpl hp)
    rw [hp] at h6'
    simp only [Option.all_some,List.all_eq_true,Bool.and_eq_true,decide_eq_true_eq] at h6'
    exact (h6' j hj).2
  have hfresh : ∀ {l : Array Bool} {i : Nat} {q : PcW},PL[i]? = some q → l.getD i false = false → fresh q.d (faW PL l ++ L) = true:=fun {l i q} hq hl=>by
    unfold fresh
    rw [List.all_eq_true]
    intro p hp
    simp only [bne_iff_ne,ne_eq]
    intro e
    rcases List.mem_append.1 hp with h | h
    · obtain ⟨j,q',τ',h1,h2,_,rfl⟩:=faW_mem.1 h
      by_cases ej : j = i
      · subst ej;rw [hl] at h2;cases h2
      · exact hne h1 hq ej e
    · exact (hfr hq).2 p h e
  have fin : ∀ (fuel : Nat) (l : Array Bool) (a : Act) (w : World),D1 P W0 G0 N L B B' ops PL ic l a w → fuel + cnt l = ops.size → (∀ i,i < PL.length → l.getD i false = true) → wpAny P .any ops Q fuel l a w:=by
    intro fuel l a w I hc hall
    obtain ⟨G,hSt⟩:=I.st
    rw [if_pos (hall ic g10)] at hSt
    have hK:=K a w G l hall hSt
    have hl : l = firstN ops.size PL.length:=by
      apply Array.ext
      · simp [firstN,I.lsz]
      · intro k k1 k2
        by_cases hk : k < PL.length
        · have:=hall k hk;simp [k1] at this;simp [firstN,this,hk]
        · have:=I.tl k (by omega);simp [k1] at this;simp [firstN,this,hk]
    subst hl
    rw [cnt_firstN g1] at hc
    have hf : fuel = ops.size - PL.length:=by omega
    subst hf
    have hsub : ops.size - (ops.size - PL.length) = PL.length:=by omega
    have:=tail_any (P:=P) (Q:=Q) (ops:=ops) (ops.size - PL.length) a w (by omega) (fun j hj1 hj2=>by
      have:=g12 (j - PL.length) (by omega)
      rw [show PL.length + (j - PL.length) = j from by omega] at this
      exact this) (by rw [hsub];exact hK)
    rw [hsub] at this
    exact this
  have key : ∀ (fuel : Nat) (l : Array Bool) (a : Act) (w : World),D1 P W0 G0 N L B B' ops PL ic l a w → fuel + cnt l = ops.size → wpAny P .any ops Q fuel l a w:=by
    intro fuel
    induction fuel with
    | zero =>
      intro l a w I hc
      refine fin 0 l a w I hc fun i hi=>?_
      by_cases hx : l.getD i false = true
      · exact hx
      · exfalso
        have hli : i < l.size:=by rw [I.lsz];omega
        have hz : l.getD i true = false:=by simp [hli] at hx ⊢;exact hx
        have h9:=cnt_set hli hz
        have h10:=cnt_le (l.setIfInBounds i true)
        rw [Array.size_setIfInBounds,I.lsz] at h10
        omega
    | succ fuel ih =>
      intro l a w I hc
      by_cases hall : ∀ i,i < PL.length → l.getD i false = true
      · exact fin (fuel + 1) l a w I hc hall
      have hex : ∃ i,i < PL.length ∧ l.getD i false = false:=by
        refine Classical.byContradiction fun hn=>hall fun i hi=>?_
        by_cases hx : l.getD i false = true
        · exact hx
        · exact absurd ⟨i,hi,by simpa using hx⟩ hn
      have hpre : ∀ i,i ∈ Region.ready .any ops l → i < PL.length:=fun i hi=>by
        rcases Nat.lt_or_ge i PL.length with h | h
        · exact h
        · exfalso
          obtain ⟨j,hj,hjl⟩:=hex
          obtain ⟨_,o,ho,hall'⟩:=mem_ready.1 hi
          have hio : i < ops.size:=(Array.getElem?_eq_some_iff.1 ho).1
          have hw:=g11 (i - PL.length) (by omega) j hj
          rw [show PL.length + (i - PL.length) = i from by omega] at hw
          have:=I.waited _ hw ho hall'
          rw [hjl] at this;cases this
      have hready : Region.ready .any ops l ≠ []:=by
        have hleast : ∃ i,(i < PL.length ∧ l.getD i false = false) ∧ ∀ j,j < i → ¬ (j < PL.length ∧ l.getD j false = false):=by
          obtain ⟨i,hi⟩:=hex
          induction i using Nat.strongRecOn with
          | _ i ih' =>
            by_cases hh : ∃ j,j < i ∧ (j < PL.length ∧ l.getD j false = false)
            · obtain ⟨j,hj,hj2⟩:=hh;exact ih' j hj hj2
            · exact ⟨i,hi,fun j hj hc=>hh ⟨j,hj,hc⟩⟩
        obtain ⟨i,⟨hi,hil⟩,hmin⟩:=hleast
        have hio : i < ops.size:=by omega
        have : i ∈ Region.ready .any ops l:=by
          refine mem_ready.2 ⟨?_,ops[i],Array.getElem?_eq_getElem hio,fun e he hb=>?_⟩
          · have hli : i < l.size:=by rw [I.lsz];exact hio
            simp [hli] at hil ⊢;exact hil
          · have h5':=g5 i hi
            rw [Array.getElem?_eq_getElem hio] at h5'
            simp only [Option.all_some,Array.all_eq_true,Bool.or_eq_true,Bool.not_eq_true',decide_eq_true_eq] at h5'
            obtain ⟨k,hk,hke⟩:=Array.mem_iff_getElem.1 he
            have hlt : e.on < i:=by
              rcases h5' k hk with h | h
              · rw [hke,hb] at h;cases h
              · rw [hke] at h;exact h
            have:=hmin e.on hlt
            by_cases hx : l.getD e.on false = true
            · exact hx
            · exact absurd ⟨by omega,by simpa using hx⟩ this
        intro h;rw [h] at this;cases this
      refine ⟨fun h=>absurd h hready,fun i hi=>?_⟩
      obtain ⟨hun,o,ho,hedge⟩:=mem_ready.1 hi
      have hio : i < ops.size:=(Array.getElem?_eq_some_iff.1 ho).1
      have hip : i < PL.length:=hpre i hi
      have hli : i < l.size:=by rw [I.lsz];exact hio
      have hunf : l.getD i false = false:=by simp [hli] at hun ⊢;exact hun
      have hpo : PL[i]? = some PL[i]:=List.getElem?_eq_getElem hip
      generalize hgen : PL[i] = po at hpo
      have hgd : ops.getD i default = o:=by simp [ho]
      have hcnt : fuel + cnt (l.setIfInBounds i true) = ops.size:=by rw [cnt_set hli hun];omega
      have hcl : ∀ o',ops[i]? = some o' → ∀ e ∈ o'.after,Region.binds .any e = true → l.getD e.on false = true:=fun o' ho'=>by rw [ho] at ho';cases ho';exact hedge
      have hdo : o.dst = some po.d:=by
        have h:=g9 i hip
        rw [ho,hpo] at h
        simpa using h
      have hcset:=I.cl_set hio hcl
      have htl : ∀ k,PL.length ≤ k → (l.setIfInBounds i true).getD k false = false:=fun k hk=>by
        have h9:=I.tl k hk
        rw [getD_set (by omega)]
        exact h9
      obtain ⟨G,hSt⟩:=I.st
      have hfrs:=hfresh hpo hunf
      have hdl : ∀ p ∈ depW PL po.dep ++ L,p ∈ faW PL l ++ L:=fun p hp=>by
        rcases List.mem_append.1 hp with h | h
        · obtain ⟨j,q,τ,hj,h1,h2,rfl⟩:=depW_mem h
          exact List.mem_append_left _ (faW_mem.2 ⟨j,q,τ,h1,I.waited _ (hdep hpo j hj) ho hedge,h2,rfl⟩)
        · exact List.mem_append_right _ h
      unfold wpOp
      rw [ho]
      simp only
      have hkind:=g8 i hip
      rw [hpo] at hkind
      simp only [Option.all_some] at hkind
      obtain ⟨pd,pk,pdep⟩:=po
      cases pk with
      | g τ =>
        have hob:=hG i pd τ pdep hpo a w G (hSt.only hdl).noB
        rw [hgd] at hob
        have hni : i ≠ ic:=by simpa using hkind
        have hnext : ∀ {v w' G'},τ.t v G' → Nxt w G w' G' → D1 P W0 G0 N L B B' ops PL ic (l.setIfInBounds i true) (a.put (some pd) v) w':=fun {v w' G'} hv hn =>
          ⟨by simpa using I.lsz,hcset,htl,G',by
            rw [getD_set (Ne.symm hni)]
            exact (hSt.put (hfr hpo).1 hfrs hv hn).only fun p hp=>by
              rcases List.mem_append.1 hp with h | h
              · rcases faW_set (l:=l) hpo rfl hli h with e | e
                · subst e;exact .head _
                · exact .tail _ (List.mem_append_left _ e)
              · exact .tail _ (List.mem_append_right _ h)⟩
        rcases hob with ⟨hw,hr⟩ | ⟨hw,hu⟩
        · rw [if_pos hw]
          refine .inl (hr Q _ fun v w' G' hv hn=>?_)
          rw [hdo]
          exact ih _ _ _ (hnext hv hn) hcnt
        · rw [if_neg (by simp [hw]),hdo]
          exact ih _ _ _ (hnext hu (Nxt.refl hSt.nxt.ok)) hcnt
      | o0=>cases hkind
      | o1=>cases hkind
      | o2 τ =>
        obtain ⟨hgu,hob⟩:=HC i pd τ pdep hpo
        rw [hgd] at hgu hob
        rw [if_pos (by simp [Region.wanted,hgu])]
        have hic : i = ic:=by simpa using hkind
        subst hic
        rw [hunf] at hSt
        refine .inl (hob _ a w G _ hdl hSt hfrs fun a' w' G' hS'=>ih _ _ _ ⟨by simpa using I.lsz,hcset,htl,G',?_⟩ hcnt)
        rw [if_pos (set_at hli)]
        exact hS'.only fun p hp=>by
          rcases List.mem_append.1 hp with h | h
          · rcases faW_set (l:=l) hpo rfl hli h with e | e
            · subst e;exact .head _
            · exact .tail _ (List.mem_append_left _ e)
          · exact .tail _ (List.mem_append_right _ h)
  refine wp_region_any hm (key _ _ _ _ ⟨by simp,fun j o ho hl=>?_,fun k hk=>?_,Gs,?_⟩ ?_)
  · have : j < ops.size:=(Array.getElem?_eq_some_iff.1 ho).1
    simp [this] at hl
  · rcases Nat.lt_or_ge k ops.size with h | h
    · simp [h]
    · simp [h]
  · have hicn : ic < ops.size:=by omega
    rw [if_neg (by simp [hicn])]
    refine St.only (L:=L) ?_ fun p hp=>?_
    · exact { S with nxt:=S.nxt.trans (Nxt.drew S.ok),bx:=fun i x h=>(S.bx i x h).nxt (Nxt.drew S.ok) }
    · rcases List.mem_append.1 hp with h | h
      · obtain ⟨j,q,τ,h1,h2,_⟩:=faW_mem.1 h
        have : j < ops.size:=by have:=hpl h1;omega
        simp [this] at h2
      · simpa using h
  · simp [cnt]
end
class Imp (P : Program) (L : List (Nat × MT)) (B : List BX) (op : Op) (pre : outParam Prop) (τ : outParam MT) (u : outParam (List Nat)) (B' : outParam (List BX)) : Prop where
  h : ∀ {W0 : World} {G0 : Gh} {N d : Nat} {L1 : List (Nat × MT)} {a : Act} {w : World} {G : Gh} {o : Oper} {K : Act → World → Prop} {Q : Exit → Act → World → Prop},o.op = op → o.dst = some d → St W0 G0 N L1 B a w G → Env L u a G → pre → d < N → fresh d L1 = true →
    (∀ a' w' G',St W0 G0 N ((d,τ) :: L1) B' a' w' G' → K a' w') → o.wp P a w K Q
def SemC (P : Program) (B B' : List BX) (L0 : List (Nat × MT)) (all : List WE) (o : Oper) : WE → Prop
  | .g d τ u=>o.dst = some d ∧ o.guard = none ∧ ∃ L' pre,(∀ p ∈ L',p ∈ L0 ∨ ∃ (m : Nat) (x : WE),all[m]? = some x ∧ x.sl = some p) ∧ pre ∧ Op1 P L' [] o.op pre τ u
  | .o2 d τ u=>o.dst = some d ∧ o.guard = none ∧ ∃ L' pre,(∀ p ∈ L',p ∈ L0 ∨ ∃ (m : Nat) (x : WE),all[m]? = some x ∧ x.sl = some p) ∧ pre ∧ Imp P L' B o.op pre τ u B'
  | _=>False
def SemL (P : Program) (B B' : List BX) (L : List (Nat × MT)) (ops : List Oper) (pre : Prop) (es : List WE) (rest : List Oper) : Prop :=
  ∀ (L0 : List (Nat × MT)) (e0 all : List WE),all = e0 ++ es → (∀ p ∈ L,p ∈ L0 ∨ ∃ (m : Nat) (x : WE),all[m]? = some x ∧ x.sl = some p) → pre → (es.length ≤ ops.length ∧ ops.drop es.length = rest) ∧ ∀ (j : Nat) (x : WE) (o : Oper),es[j]? = some x → ops[j]? = some o → SemC P B B' L0 all o x
class RC1 (P : Program) (L : List (Nat × MT)) (ops : List Oper) (pre : outParam Prop) (es : outParam (List WE)) (rest : outParam (List Oper)) : Prop where
  r : ∀ (B B' : List BX),SemL P B B' L ops pre es rest
class RC0 (P : Program) (B : List BX) (L : List (Nat × MT)) (ops : List Oper) (pre : outParam Prop) (es : outParam (List WE)) (B' : outParam (List BX)) (rest : outParam (List Oper)) : Prop where
  r : SemL P B B' L ops pre es rest
section
variable {P : Program} {B B' : List BX} {L : List (Nat × MT)} {ops : List Oper} {pre pre' : Prop} {es : List WE} {rest : List Oper} {d : Nat} {op : Op} {ty : TypeId} {pos : String} {aft : Array Edge} {τ : MT} {u : List Nat}
theorem SemL.cons {x : WE} {o : Oper} {p : Nat × MT} (hx : x.sl = some p) (h : ∀ (L0 : List (Nat × MT)) (all : List WE),(∀ p ∈ L,p ∈ L0 ∨ ∃ (m : Nat) (x : WE),all[m]? = some x ∧ x.sl = some p) → pre → SemC P B B' L0 all o x) (hr : SemL P B B' (p :: L) ops pre' es rest) : SemL P B B' L (o :: ops) (pre ∧ pre') (x :: es) rest:=fun L0 e0 all ha hL hp=>by
  have hm : all[e0.length]? = some x:=by rw [ha];simp
  obtain ⟨i1,i2⟩:=hr L0 (e0 ++ [x]) all (by rw [ha];simp) (fun q hq=>by
    rcases List.mem_cons.1 hq with rfl | hq
    · exact .inr ⟨_,_,hm,hx⟩
    · exact hL q hq) hp.2
  refine ⟨⟨by simpa using i1.1,by simpa using i1.2⟩,fun j y o' h1 h2=>?_⟩
  cases j with
  | zero=>cases h1;cases h2;exact h L0 all hL hp.1
  | succ j=>exact i2 j y o' (by simpa using h1) (by simpa using h2)
theorem SemL.nil : SemL P B B' L ops True [] ops:=fun L0 e0 all ha hL hp=>⟨⟨Nat.zero_le _,rfl⟩,fun j x o h=>by simp at h⟩
instance (priority:=100) RC1.stop : RC1 P L ops True [] ops:=⟨fun _ _=>.nil⟩
instance RC1.g [h : Op1 P L [] op pre τ u] [r : RC1 P ((d,τ) :: L) ops pre' es rest] : RC1 P L (⟨some d,op,ty,pos,aft,none⟩ :: ops) (pre ∧ pre') (.g d τ u :: es) rest:=⟨fun B B'=>.cons rfl (fun L0 all hL hp=>⟨rfl,rfl,L,pre,hL,hp,h⟩) (r.r B B')⟩
instance (priority:=500) RC0.g [h : Op1 P L [] op pre τ u] [r : RC0 P B ((d,τ) :: L) ops pre' es B' rest] : RC0 P B L (⟨some d,op,ty,pos,aft,none⟩ :: ops) (pre ∧ pre') (.g d τ u :: es) B' rest:=⟨.cons rfl (fun L0 all hL hp=>⟨rfl,rfl,L,pre,hL,hp,h⟩) r.r⟩
instance RC0.c [h : Imp P L B op pre τ u B'] [r : RC1 P ((d,τ) :: L) ops pre' es rest] : RC0 P B L (⟨some d,op,ty,pos,aft,none⟩ :: ops) (pre ∧ pre') (.o2 d τ u :: es) B' rest:=⟨.cons rfl (fun L0 all hL hp=>⟨rfl,rfl,L,pre,hL,hp,h⟩) (r.r B B')⟩
end
section
variable {P : Program} {B B' : List BX} {L L' : List (Nat × MT)} {pre : Prop} {es : List WE} {W0 : World} {G0 : Gh} {N : Nat} {a : Act} {w : World} {G : Gh} {Q : Exit → Act → World → Prop}
theorem W.d1 {id : Nat} {all rest : List Oper} [R : RC0 P B L all pre es B' rest] [fl : FinW es L L'] (hp : pre) (K : ∀ a w G, St W0 G0 N L' B' a w G → wpList P all.toArray Q rest a w) (hm : P.follows .mixedOrders = true)
    (hd : drawOk1 all.toArray (es.map (pwW es)) (L.map (·.1)) N (posW WE.is2 0 es) = true) :
    St W0 G0 N L B a w G → (Code.region id all.toArray true).wp P Q a w:=fun S=>by
  obtain ⟨hlen,hsem⟩:=R.r L [] es rfl (fun p hp=>.inl hp) hp
  have hat : ∀ {i : Nat} {q : PcW},(es.map (pwW es))[i]? = some q → ∃ x o,es[i]? = some x ∧ q = pwW es x ∧ all.toArray.getD i default = o ∧ SemC P B B' L es o x:=fun {i q} hq=>by
    rw [List.getElem?_map] at hq
    cases hx : es[i]? with
    | none=>rw [hx] at hq;cases hq
    | some x =>
      rw [hx] at hq
      have hlt : i < all.length:=Nat.lt_of_lt_of_le (List.getElem?_eq_some_iff.1 hx).1 hlen.1
      have ho : all[i]? = some all[i]:=List.getElem?_eq_getElem hlt
      exact ⟨x,all[i],rfl,by simpa using hq.symm,by simp [hlt],hsem i x _ hx ho⟩
  refine S.drawn1 (B':=B') (es.map (pwW es)) hm hd ?_ ?_ fun a w G l hall S=>(by
    rw [List.length_map]
    simp only [List.toList_toArray]
    rw [hlen.2]
    refine K a w G ?_
    rw [fl.h]
    refine S.only fun p hp=>?_
    rcases fW_mem hp with h | ⟨j,x,hx,hs⟩
    · exact List.mem_append_right _ h
    · refine List.mem_append_left _ (faW_mem.2 ⟨j,pwW es x,p.2,by rw [List.getElem?_map,hx];rfl,hall j ?_,(pwW_ty hs).1,?_⟩)
      · rw [List.length_map];exact (List.getElem?_eq_some_iff.1 hx).1
      · rw [(pwW_ty hs).2])
  · intro i d τ dep hq a w G S
    obtain ⟨x,o,hx,he,ho,hs⟩:=hat hq
    rw [ho]
    cases x with
    | g d' τ' u =>
      cases he
      obtain ⟨_,hg,L1,pr,hL,hpr,h⟩:=hs
      exact .of hg (h.ok rfl S.ok (envW hL (fun p hp=>hp) S) (S.bok _) hpr)
    | o0=>cases he
    | o1=>cases he
    | o2=>cases he
  · intro i d τ dep hq
    obtain ⟨x,o,hx,he,ho,hs⟩:=hat hq
    rw [ho]
    cases x with
    | g=>cases he
    | o0=>cases he
    | o1=>cases he
    | o2 d' τ' u =>
      cases he
      obtain ⟨hdst,hg,L1,pr,hL,hpr,h⟩:=hs
      refine ⟨hg,fun L2 a w G K h1 S hf hK=>?_⟩
      have hN : (decide (d < N)) = true:=by
        simp only [drawOk1,Bool.and_eq_true,List.all_eq_true] at hd
        exact (hd.1.1.1.1.1.1.1.2 _ (List.mem_of_getElem? hq)).2
      exact h.h rfl hdst S (envW hL h1 S) hpr (of_decide_eq_true hN) hf hK
end
abbrev OSO (b off n c : Nat) : MT:=.ex (.slice (some ⟨b,off,none⟩) n c)
def cpF (xs : List Int) (off m : Nat) : List Int:=xs.take off ++ xs.take m ++ xs.drop (off + m)
section
variable {P : Program} {L : List (Nat × MT)} {B B' : List BX} {x y : Operand} {u v : List Nat} {t t' e ty : TypeId} {b n c j off n2 c2 i nn by0 : Nat} {xs : List Int} {z0 : Value}
theorem own_slLo {o : Oper} {a : Act} {w : World} {G : Gh} {τ : MT} (hok : Gok w G) (ho : o.op = .slice t x (some y) none none) (ht : P.underlying t = some (.slice e)) (hs : tyS P e none = true) (hx : a.eval x = .slice (some ⟨b, 0, none⟩) n c) (hy : a.eval y = .int .i64 (j : Int)) (hj : j < n) (hc : n ≤ c)
    (h : τ.t (.slice (some ⟨b,j,none⟩) (n - j) (c - j)) G) : OpR P o a w G τ:=by
  refine .run hok (v:=.slice (some ⟨b,j,none⟩) (n - j) (c - j)) ?_ h
  simp only [execOp,ho,hx,hy,Sem.run_bind,Option.map_some,Option.map_none,run_slice_lo ht hs (Nat.le_of_lt hj) hc]
  have e1 : ¬ c - j = 0:=by omega
  rw [if_neg e1]
  simp [addr_add]
instance Op1.ownLo [s : SlE P t none] [h : Opd L x (OSL b n c) u] [h2 : Opd L y (NT j) v] : Op1 P L B (.slice t x (some y) none none) (j < n ∧ n ≤ c) (OSO b j (n - j) (c - j)) (u ++ v):=⟨fun ho hok e' _ hp=>by
  obtain ⟨e0,h1,h2'⟩:=s.h
  exact own_slLo hok ho h1 h2' (h.h e'.l) (h2.h e'.r) hp.1 hp.2 rfl⟩
instance Op1.ownHi [s : SlE P t none] [h : Opd L x (OSL b n c) u] [h2 : Opd L y (NT j) v] : Op1 P L B (.slice t x none (some y) none) (j ≤ n ∧ n ≤ c) (OSL b j c) (u ++ v):=⟨fun {W0 w a G o} ho hok e' _ hp=>by
  obtain ⟨e0,h1,h2'⟩:=s.h
  have hx:=h.h e'.l
  have hy:=h2.h e'.r
  refine .run hok (v:=.slice (some ⟨b,0,none⟩) j c) ?_ rfl
  have hx' : a.eval x = .slice (some ⟨b,0,none⟩) n c:=hx
  have hy' : a.eval y = .int .i64 (j : Int):=hy
  simp [execOp,ho,hx',hy',run_slice_hi h1 h2' (show j ≤ c by omega)]⟩
theorem cpF_len {m : Nat} (h1 : off + m ≤ xs.length) : (cpF xs off m).length = xs.length:=by simp [cpF];omega
instance Imp.cp [el : ElS P t e none by0 z0] [hx : Opd L x (OSO b off n c) u] [hy : Opd L y (OSL b n2 c2) v] [hb : Bx B b i e (some nn) (ROWS none (xs.map fun z => IT z))] [hB : BAt B i (ROWS none ((cpF xs off (Nat.min n2 n)).map fun z => IT z)) B'] :
    Imp P L B (.call { callee:=.builtin .copy,args:=#[x,y],argTypes:=#[t,t'] }) (off + n ≤ xs.length ∧ n2 ≤ xs.length) (NT (Nat.min n2 n)) (u ++ v) B':=⟨fun {W0 G0 N d L1 a w G o K Q} ho hd S e' hp hdN hf hK=>by
  obtain ⟨x0,h3,h4⟩:=hB.h
  rw [hb.m] at h3;cases h3
  obtain ⟨ii,hii,h1,h2,_⟩:=elS_of el.h2
  have hxv : a.eval x = .slice (some ⟨b,off,none⟩) n c:=hx.h e'.l
  have hyv : a.eval y = .slice (some ⟨b,0,none⟩) n2 c2:=hy.h e'.r
  obtain ⟨g1,g2,V,hv,hs,us,r,hvr,hE⟩:=S.bx i _ hb.m
  have hus:=els_int hE
  subst hus
  rw [flat_int] at hvr
  subst hvr
  have hv' : w.heap[b]? = some (.cells (xs.map (Value.int .i64) ++ r).toArray e (0,0)):=hv
  have hm1 : Nat.min n2 n ≤ n2:=Nat.min_le_left _ _
  have hm2 : Nat.min n2 n ≤ n:=Nat.min_le_right _ _
  have hcl : ((xs.take (Nat.min n2 n)).map (Value.int .i64)).length = Nat.min n2 n:=by rw [List.length_map,List.length_take];omega
  have hrun:=run_copy_row (P:=P) w t t' o.type e b off n c ⟨b,0,none⟩ n2 c2 _ e ((xs.take (Nat.min n2 n)).map (Value.int .i64)) el.h1 (by rw [hii,Option.map_some,h1];rfl) hv' hcl (fun j v hj=>by
    rw [addr_add,Nat.zero_add]
    unfold World.cell?
    rw [hv']
    rw [List.getElem?_map] at hj
    cases hq : (xs.take (Nat.min n2 n))[j]? with
    | none=>rw [hq] at hj;cases hj
    | some q =>
      rw [hq] at hj;cases hj
      have hjl:=(List.getElem?_eq_some_iff.1 hq).1
      rw [List.length_take] at hjl
      rw [List.getElem?_take,if_pos (by omega)] at hq
      have hlt:=(List.getElem?_eq_some_iff.1 hq).1
      simp only [List.getElem?_toArray]
      rw [List.getElem?_append_left (by simpa using hlt),List.getElem?_map,hq]
      rfl) (by rw [hcl];simp;omega) (fun q hq=>by obtain ⟨z,_,rfl⟩:=List.mem_map.1 hq;rfl)
  rw [hcl] at hrun
  have hnew : (List.take off (xs.map (Value.int .i64) ++ r).toArray.toList ++ (xs.take (Nat.min n2 n)).map (Value.int .i64) ++ List.drop (off + Nat.min n2 n) (xs.map (Value.int .i64) ++ r).toArray.toList).toArray = ((cpF xs off (Nat.min n2 n)).map (Value.int .i64) ++ r).toArray:=by
    congr 1
    show List.take off (xs.map _ ++ r) ++ _ ++ List.drop _ (xs.map _ ++ r) = _
    unfold cpF
    rw [List.take_append_of_le_length (by simp;omega),List.drop_append_of_le_length (by simp;omega)]
    simp [List.append_assoc]
  rw [hnew] at hrun
  obtain ⟨cs',e1,hszc,hone⟩:=cells_one hs
  injection e1 with e1
  have hset:=S.setVar i hb.m (v:=.agg ((cpF xs off (Nat.min n2 n)).map (Value.int .i64) ++ r).toArray) (τ:=ROWS none ((cpF xs off (Nat.min n2 n)).map fun z=>IT z)) ⟨_,rfl,by
    have hn : (xs.map (Value.int .i64) ++ r).length = nn:=by rw [← hszc,← e1];simp
    have:=cpF_len (xs:=xs) (off:=off) (m:=Nat.min n2 n) (by omega)
    simp at hn ⊢;omega,fun q hq=>by
    have hq : q ∈ (cpF xs off (Nat.min n2 n)).map (Value.int .i64) ++ r:=by simpa using hq
    rcases List.mem_append.1 hq with hq | hq
    · obtain ⟨z,_,rfl⟩:=List.mem_map.1 hq;rfl
    · exact hone q (by rw [← e1];simp [hq])⟩ ⟨(cpF xs off (Nat.min n2 n)).map (Value.int .i64),r,by rw [flat_int],int_els⟩
  have hr : (execOp a.eval o).run P w = .ok (.value (goInt (Nat.min n2 n))) (w.setRow b ((cpF xs off (Nat.min n2 n)).map (Value.int .i64) ++ r).toArray):=by
    simp only [execOp,ho,resolve,invoke,builtin,Sem.run_bind,Sem.run_pure,Result.andThen_ok,List.map_toArray,List.map_cons,List.map_nil,hxv,hyv,hrun]
  unfold Oper.wp
  rw [hr]
  simp only [Oper.upon,hd]
  exact hK _ _ _ (h4 ▸ hset.put hdN hf rfl (Nxt.refl hset.ok))⟩
section
variable {z z' : Int} {k2 : IntKind}
abbrev UT (z : Int) : MT:=.ex (.int .u64 z)
def U64 (z : Int) : Prop:=0 ≤ z ∧ z < 18446744073709551616
theorem u64_w (h : U64 z) : IntKind.u64.wrap z = z:=by
  unfold U64 at h
  simp [IntKind.wrap,IntKind.bits,IntKind.signed];omega
instance Op1.mulU [h : Opd L x (UT z) u] [k : Opd L y (UT z') v] : Op1 P L B (.binOp .mul t x y t') (U64 (z * z')) (UT (z * z')) (u ++ v):=⟨fun ho hok e _ hp=>.imul hok ho (h.h e.l) (k.h e.r) (by rw [u64_w hp];rfl)⟩
instance Op1.addU [h : Opd L x (UT z) u] [k : Opd L y (UT z') v] : Op1 P L B (.binOp .add t x y t') (U64 (z + z')) (UT (z + z')) (u ++ v):=⟨fun ho hok e _ hp=>.iadd hok ho (h.h e.l) (k.h e.r) (by rw [u64_w hp];rfl)⟩
instance Op1.gtrU [h : Opd L x (UT z) u] [k : Opd L y (UT z') v] : Op1 P L B (.binOp .gtr t x y t') True (BT (decide (z > z'))) (u ++ v):=⟨fun ho hok e _ _=>.igtr hok ho (h.h e.l) (k.h e.r) rfl⟩
instance (priority:=1100) Op1.shrU [h : Opd L x (UT z) u] : Op1 P L B (.binOp .shr t x (.const (.int k2 32)) t') (0 ≤ z ∧ z < 4294967296) (UT 0) u:=⟨fun ho hok e _ hp=>.shr hok ho (h.h e) rfl (by decide) (by
  show Value.int .u64 _ = Value.int .u64 _
  have e1 : (2 : Int) ^ (min (32 : Int).toNat IntKind.u64.bits) = 4294967296:=by decide
  rw [e1,Int.fdiv_eq_ediv_of_nonneg _ (by decide),Int.ediv_eq_zero_of_lt hp.1 hp.2])⟩
theorem and_low {n : Nat} (h : n < 4294967296) : n &&& 4294967295 = n:=by
  have:=Nat.and_two_pow_sub_one_eq_mod n 32
  rw [show (2 : Nat) ^ 32 - 1 = 4294967295 from rfl,show (2 : Nat) ^ 32 = 4294967296 from rfl,Nat.mod_eq_of_lt h] at this
  exact this
instance (priority:=1100) Op1.andU [h : Opd L x (UT z) u] : Op1 P L B (.binOp .and t x (.const (.int .u64 4294967295)) t') (0 ≤ z ∧ z < 4294967296) (UT z) u:=⟨fun ho hok e _ hp=>.bits hok ho (h.h e) rfl (.inl ⟨rfl,by
  obtain ⟨n,rfl⟩ : ∃ n : Nat,z = n:=⟨z.toNat,by omega⟩
  have h1 : (BitVec.ofInt 64 (n : Int)).toNat = n:=by simp;omega
  show Value.int .u64 (IntKind.u64.wrap ((BitVec.ofInt 64 (n : Int) &&& BitVec.ofInt 64 4294967295).toNat : Int)) = Value.int .u64 (n : Int)
  rw [BitVec.toNat_and,h1,show (BitVec.ofInt 64 4294967295).toNat = 4294967295 from rfl,and_low (by omega),u64_w ⟨by omega,by omega⟩]⟩)⟩
end
theorem W.cdF {P : Program} {Q : Exit → Act → World → Prop} {a : Act} {w : World} {p : Prop} {c c' : Code} (h : p → c'.wp P Q a w) : p → (Code.cond (.const (.bool false)) c c').wp P Q a w:=fun S=>wp_cond_split (t:=false) rfl (fun e=>by cases e) fun _=>h S
theorem wr_nn {n : Nat} (h : n ≤ 64) : IntKind.i64.wrap (IntKind.u64.wrap (n : Int)) = (n : Int):=by
  rw [u64_w ⟨by omega,by omega⟩];exact i64_w ⟨by omega,by omega⟩
theorem wr_nt {n : Nat} (h : n ≤ 64) {v : Value} {G : Gh} (hv : (MT.ex (.int .i64 (IntKind.i64.wrap (IntKind.u64.wrap (n : Int))))).t v G) : (NT n).t v G:=by rw [wr_nn h] at hv;exact hv
def rpF (n j : Nat) : List Int:=List.replicate j (-1) ++ List.replicate (n - j) 0
theorem rpF_cp {n j : Nat} (hj : 1 ≤ j) (hn : j < n) : cpF (rpF n j) j (Nat.min j (n - j)) = rpF n (j + Nat.min j (n - j)):=by
  have hm1 : Nat.min j (n - j) ≤ j:=Nat.min_le_left _ _
  have hm2 : Nat.min j (n - j) ≤ n - j:=Nat.min_le_right _ _
  generalize Nat.min j (n - j) = m at *
  unfold cpF rpF
  rw [List.take_left' (by simp),List.take_append_of_le_length (by simpa using hm1),List.take_replicate,Nat.min_eq_left hm1,List.drop_append,List.length_replicate,List.drop_of_length_le (by simp),List.drop_replicate,List.nil_append,List.replicate_append_replicate]
  congr 2;omega
theorem rpF_len {n j : Nat} (h : j ≤ n) : (rpF n j).length = n:=by unfold rpF;simp;omega
theorem rpF_n {n : Nat} : rpF n n = List.replicate n (-1):=by unfold rpF;simp
theorem rpF_1 {n : Nat} (h : 1 ≤ n) : ([-1] : List Int).take n ++ (List.replicate n (0 : Int)).drop 1 = rpF n 1:=by
  unfold rpF
  rw [List.take_of_length_le (by simpa using h),List.drop_replicate];rfl
end
end Go.Proofs.Ytjphllpnhjemjaa
set_option linter.unusedVariables false
set_option linter.unusedSimpArgs false
set_option maxHeartbeats 4000000
set_option maxRecDepth 100000
set_option synthInstance.maxSize 100000
set_option synthInstance.maxHeartbeats 400000
namespace Go.Proofs.Ytjphllpnhjemjaa
open Go.RowKit (Below)
attribute [local irreducible] Go.Code.wp Go.wpList Go.bodyPost
private theorem gS_ {W0 : World} {G0 : Gh} {N : Nat} {L : List (Nat × MT)} {B : List BX} {a : Act} {w : World} {G : Gh} {q : Prop} (h : St W0 G0 N L B a w G → q) : St W0 G0 N L B a w G → q:=h
private theorem gL_ {p : Prop} {P : Program} {arr : Array Oper} {Q : Exit → Act → World → Prop} {l : List Oper} {a : Act} {w : World} (h : p → wpList P arr Q l a w) : p → wpList P arr Q l a w:=h
private theorem gC_ {p : Prop} {P : Program} {c : Code} {Q : Exit → Act → World → Prop} {a : Act} {w : World} (h : p → c.wp P Q a w) : p → c.wp P Q a w:=h
private theorem mixedOrders : Try.prog.follows .mixedOrders = true:=by kernel_rfl
instance {n m : Int} : Con Try.prog 99 [UT m,UT n] (m = 1 ∧ 0 ≤ n ∧ n ≤ 1000) (MT.tup2 (UT 0) (UT n)):=.o2 fun hok h1 h2 hp=>by
  refine St.enter (N:=51) Try.func99 rfl rfl rfl hok (enter2 h1 h2) fun a=>?_
  obtain ⟨rfl,hp⟩:=hp
  repeat' (first|((with_reducible refine gS_ ?_);first|((with_reducible refine gL_ ?_);first|refine W.run ?_ fun a w G=>?_|refine W.mv fun a w G=>?_|refine W.asg fun a w G=>?_|refine W.bx fun b a w G=>?_|(refine W.nn hK ?_;clear hK K)|refine W.nl ?_|refine W.al fun b a w G=>?_|refine W.st fun w=>?_|refine W.stp fun w=>?_|refine W.ste ?_ fun w=>?_)|((with_reducible refine gC_ ?_);first|with_reducible refine W.cdF ?_|refine W.reg fun K hK=>?_|refine W.reg1 ?_|refine W.sq fun K hK=>?_|refine W.ds ?_ (fun β a w G hu=>W.fin ?_ hu) mixedOrders (by kernel_rfl)|refine W.sk ?_|refine W.cd (fun hc=>?_) (fun hc=>?_)|refine W.cb (fun hc=>?_) (fun hc=>?_)|refine W.bl ?_|refine W.ex ?_|refine W.rt ?_)|((with_reducible refine W.kn hK ?_);clear hK K)|(with_reducible first|refine W.bn ?_|refine W.xt ?_|refine W.xb ?_|refine W.xo ?_|refine W.tr ?_|refine W.br ?_)|refine W.rt1 rfl ?_|refine W.rt2 rfl ?_ ?_|refine W.rt3 rfl ?_ ?_ ?_)|clear hK K|clear hu|exact True.intro|exact Nat.le_trans (by clear hp;omega) hp|exact Nat.le_trans (by clear hp;omega) hp.1|exact Nat.le_trans (by clear hp;omega) hp.2|(clear hp;omega)|apply And.intro|refine GI.i fun _=>?_|with_reducible rfl|decide|(simp only [List.length_cons,List.length_nil];omega))
  all_goals first | omega | (simp only [U64] at *;omega) | rfl | skip
instance {n m : Int} : Con Try.prog 86 [UT m,UT n] (m = 1 ∧ 0 ≤ n ∧ n ≤ 1000) (MT.tup2 (UT 0) (UT n)):=.o2 fun hok h1 h2 hp=>by
  refine St.enter (N:=30) Try.func86 rfl rfl rfl hok (enter2 h1 h2) fun a=>?_
  obtain ⟨rfl,hp⟩:=hp
  repeat' (first|((with_reducible refine gS_ ?_);first|((with_reducible refine gL_ ?_);first|refine W.run ?_ fun a w G=>?_|refine W.mv fun a w G=>?_|refine W.asg fun a w G=>?_|refine W.bx fun b a w G=>?_|(refine W.nn hK ?_;clear hK K)|refine W.nl ?_|refine W.al fun b a w G=>?_|refine W.st fun w=>?_|refine W.stp fun w=>?_|refine W.ste ?_ fun w=>?_)|((with_reducible refine gC_ ?_);first|with_reducible refine W.cdF ?_|refine W.reg fun K hK=>?_|refine W.reg1 ?_|refine W.sq fun K hK=>?_|refine W.ds ?_ (fun β a w G hu=>W.fin ?_ hu) mixedOrders (by kernel_rfl)|refine W.sk ?_|refine W.cd (fun hc=>?_) (fun hc=>?_)|refine W.cb (fun hc=>?_) (fun hc=>?_)|refine W.bl ?_|refine W.ex ?_|refine W.rt ?_)|((with_reducible refine W.kn hK ?_);clear hK K)|(with_reducible first|refine W.bn ?_|refine W.xt ?_|refine W.xb ?_|refine W.xo ?_|refine W.tr ?_|refine W.br ?_)|refine W.rt1 rfl ?_|refine W.rt2 rfl ?_ ?_|refine W.rt3 rfl ?_ ?_ ?_)|clear hK K|clear hu|exact True.intro|exact Nat.le_trans (by clear hp;omega) hp|exact Nat.le_trans (by clear hp;omega) hp.1|exact Nat.le_trans (by clear hp;omega) hp.2|(clear hp;omega)|apply And.intro|refine GI.i fun _=>?_|with_reducible rfl|decide|(simp only [List.length_cons,List.length_nil];omega))
  all_goals first | omega | (simp only [U64] at *;omega) | rfl | skip
instance {n : Nat} : ConO Try.prog 65 [LSC none [IT (-1)],NT n] (1 ≤ n ∧ n ≤ 64) none 3 (fun z : Int=>IT z) (List.replicate n (-1)):=.o2 fun hok h1 h2 hp=>by
  refine St.enter (N:=48) Try.func65 rfl rfl rfl hok (enter2 h1 h2) fun a=>?_
  have own30 : OwnAt 30:=⟨⟩
  have own33 : OwnAt 33:=⟨⟩
  repeat' (first|((with_reducible refine gS_ ?_);first|((with_reducible refine gL_ ?_);first|refine W.run ?_ fun a w G=>?_|refine W.mv fun a w G=>?_|refine W.asg fun a w G=>?_|refine W.bx fun b a w G=>?_|(refine W.nn hK ?_;clear hK K)|refine W.nl ?_|refine W.al fun b a w G=>?_|refine W.st fun w=>?_|refine W.stp fun w=>?_|refine W.ste ?_ fun w=>?_)|((with_reducible refine gC_ ?_);first|refine W.d1 ?_ (fun a w G=>?_) mixedOrders (by kernel_rfl)|refine W.reg fun K hK=>?_|refine W.reg1 ?_|refine W.sq fun K hK=>?_|refine W.ds ?_ (fun β a w G hu=>W.fin ?_ hu) mixedOrders (by kernel_rfl)|refine W.sk ?_|refine W.cd (fun hc=>?_) (fun hc=>?_)|refine W.cb (fun hc=>?_) (fun hc=>?_)|refine W.bl ?_|refine W.ex ?_|refine W.rt ?_)|((with_reducible refine W.kn hK ?_);clear hK K)|(with_reducible first|refine W.bn ?_|refine W.xt ?_|refine W.xb ?_|refine W.xo ?_|refine W.tr ?_|refine W.br ?_)|refine W.rt1 rfl ?_|refine W.rt2 rfl ?_ ?_|refine W.rt3 rfl ?_ ?_ ?_)|refine W.cast (t:=29) (τ:=.ex (.int .i64 (IntKind.i64.wrap (IntKind.u64.wrap (n : Int))))) (τ':=NT n) (wr_nt hp.2) ?_|refine W.mk (mt:=.ex (.int .i64 0)) (fun z : Int=>IT z) 0 ?_ fun b a w G=>?_|refine W.cp ?_ fun a w G=>?_|refine W.rto 4 rfl ?_|refine W.lp 34 (α:=Nat) (fun j=>n - j) (fun j=>1 ≤ j ∧ j ≤ n) [8,34,35,36,37,38,39,40,41,42,43,44,45,46] (fun j=>[(8,NT j)]) (fun j=>[(7,ROWS none ((rpF n j).map fun z=>IT z))]) (1) ?_ ?_ ?_ fun j hj a w G=>?_|refine W.ag (x:=j) (j + Nat.min j (n - j)) ?_ ?_ ?_ ?_|clear hK K|clear hu|exact True.intro|exact Nat.le_trans (by clear hp;omega) hp|exact Nat.le_trans (by clear hp;omega) hp.1|exact Nat.le_trans (by clear hp;omega) hp.2|(clear hp;omega)|apply And.intro|refine GI.i fun _=>?_|with_reducible rfl|decide|(simp only [List.length_cons,List.length_nil];omega))
  all_goals (try have hw : IntKind.u64.wrap (n : Int) = n:=u64_w ⟨by omega,by omega⟩)
  all_goals (try have hm0 : Nat.min 1 n = 1:=Nat.min_eq_left hp.1)
  all_goals (try have hm1 : Nat.min j (n - j) ≤ j:=Nat.min_le_left _ _)
  all_goals (try have hm2 : Nat.min j (n - j) ≤ n - j:=Nat.min_le_right _ _)
  all_goals (try have hm3 : 1 ≤ Nat.min j (n - j):=Nat.le_min.2 ⟨by omega,by omega⟩)
  all_goals (try have hl0:=rpF_len (n:=n) (j:=j) hj.2)
  all_goals first
    | omega
    | rfl
    | exact (List.length_replicate ..).symm
    | exact rpF_1 hp.1
    | exact congrArg Int.ofNat hm0
    | exact rpF_cp (by omega) (by omega)
    | (have e9 : j = n := by omega
       subst e9;first | exact rpF_n | exact rpF_n.symm)
    | skip
end Go.Proofs.Ytjphllpnhjemjaa
set_option linter.unusedVariables false
set_option linter.unusedSimpArgs false
set_option maxHeartbeats 4000000
set_option maxRecDepth 100000
set_option synthInstance.maxSize 100000
set_option synthInstance.maxHeartbeats 400000
namespace Go.Proofs.Ytjphllpnhjemjaa
open Go.RowKit (Below)
attribute [local irreducible] Go.Code.wp Go.wpList Go.bodyPost
theorem qb.mul {n m : Nat} {x y : Rat} (hx : qb n x) (hy : qb m y) : qb (n + m) (x * y):=by
  have e : x * y = mkRat (x.num * y.num) (x.den * y.den):=by rw [Rat.mul_def,Rat.normalize_eq_mkRat]
  have h:=Rat.num_den_le (x.num * y.num) (x.den * y.den) (Nat.mul_ne_zero x.den_nz y.den_nz)
  rw [← e] at h
  have e1 : 2 ^ (n + m) = 2 ^ n * 2 ^ m:=Nat.pow_add ..
  constructor
  · refine Nat.lt_of_le_of_lt h.1 ?_
    rw [Int.natAbs_mul,e1]
    exact Nat.mul_lt_mul_of_lt_of_lt hx.1 hy.1
  · refine Nat.lt_of_le_of_lt h.2 ?_
    rw [e1];exact Nat.mul_lt_mul_of_lt_of_lt hx.2 hy.2
theorem qb.neg {n : Nat} {x : Rat} (h : qb n x) : qb n (-x):=⟨by rw [Rat.neg_num,Int.natAbs_neg];exact h.1,by rw [Rat.neg_den];exact h.2⟩
theorem qb_tn {t : Int} (h : 0 ≤ t ∧ t ≤ 8) : qb 4 (t : Rat):=⟨by show (t : Rat).num.natAbs < _;rw [Rat.num_intCast];have : (2 : Nat) ^ 4 = 16:=rfl;omega,by show (t : Rat).den < _;rw [Rat.den_intCast];decide⟩
theorem wg_qb {w : WT} {p : Rat} (hw : qb 256 w.2.2.1.val) (hp : qb 4400 p) (ht : 0 ≤ w.2.2.2 ∧ w.2.2.2 ≤ 8) : qb 4800 (wgW p w):=by
  unfold wgW
  rw [Rat.sub_eq_add_neg]
  exact ((hw.add ((qb_tn ht).mul hp).neg)).up (by decide)
theorem FX.qb {n : Nat} {r : FR} {v : Value} {G : Gh} (h : (FX n r).t v G) : Go.Proofs.Ytjphllpnhjemjaa.qb n r.val:=by
  obtain ⟨h1,h2,h3,_⟩:=h
  have p2 : 2 ≤ 2 ^ n:=by have:=Nat.pow_le_pow_right (show 0 < 2 by decide) h1;omega
  show Go.Proofs.Ytjphllpnhjemjaa.qb n (qval r.s r.p r.q)
  unfold qval
  split
  · rename_i hc
    have hq : Go.Proofs.Ytjphllpnhjemjaa.val r.q ≠ 0:=by
      intro h0
      have h9:=hc.1
      unfold qok at h9
      rw [if_neg (fun e=>hc.2 e.1)] at h9
      simp only [Bool.and_eq_true,bne_iff_ne,decide_eq_true_eq,ne_eq,beq_iff_eq] at h9
      have hg:=h9.2
      rw [h0,Nat.gcd_zero_right] at hg
      have hcq:=h9.1.2
      have hqn:=h9.1.1.1.2
      exact hqn (val_eq_zero hcq h0)
    have h:=Rat.num_den_le (if r.s then -(Go.Proofs.Ytjphllpnhjemjaa.val r.p : Int) else Go.Proofs.Ytjphllpnhjemjaa.val r.p) (Go.Proofs.Ytjphllpnhjemjaa.val r.q) hq
    refine ⟨Nat.lt_of_le_of_lt h.1 ?_,Nat.lt_of_le_of_lt h.2 h3⟩
    split
    · rw [Int.natAbs_neg,Int.natAbs_natCast];exact h2
    · rw [Int.natAbs_natCast];exact h2
  · exact ⟨by show (0 : Nat) < _;omega,by show (1 : Nat) < _;omega⟩
theorem wts_qb {l : List WT} {v : Value} {G : Gh} (h : (WTS l).t v G) : ∀ j,j < l.length → qb 256 (l.getD j default).2.2.1.val:=fun j hj=>by
  obtain ⟨A,c,us,h1,h2,h3,h4,h5⟩:=LS.vals h
  have hju : j < us.length:=by rw [h4.1,List.length_map];exact hj
  have h6:=(h4.2 j (WTX (l.getD j default)) us[j] (by rw [List.getElem?_map,List.getElem?_eq_getElem hj];simp [hj]) (List.getElem?_eq_getElem hju)).2
  obtain ⟨us',e1,hl,hE⟩:=h6
  match us',hl,hE with
  | [a,b,c,d],_,hE=>exact FX.qb (hE 2 _ c rfl rfl).2
theorem wts_w {l : List WT} {p : Rat} {v u : Value} {G G' : Gh} (h : (WTS l).t v G) (hp : (QC 4400 p).t u G') (ht : ∀ j,j < l.length → 0 ≤ (l.getD j default).2.2.2 ∧ (l.getD j default).2.2.2 ≤ 8) : ∀ j,j < l.length → qb 4800 (wgW p (l.getD j default)):=fun j hj=>wg_qb (wts_qb h j hj) hp.1 (ht j hj)
theorem QC.re {n m : Nat} {x : Rat} (hq : qb m x) {v : Value} {G : Gh} (h : (QC n x).t v G) : (QC m x).t v G:=⟨hq,h.2⟩
abbrev NB : Nat:=5223488 + 1
instance : AsT (FX 1 default) (QC NB) 0:=⟨fun h=>(Cv.fq (n:=1) (k:=NB)).h ⟨by decide,rfl,rfl⟩ h⟩
theorem x_qb {n : Nat} {l : List WT} {p : Rat} (hl : OKL n l) (hL : l.length ≤ 64) (hn : n ≤ 16) (hw : ∀ j, j < l.length → qb 4800 (wgW p (l.getD j default))) {k i : Nat} (hk : k ≤ n) (hi : i < l.length) :
    qb NB ((rdF l p (roF n l p k).1 (roF n l p k).2 i).1.getD (l.getD i default).1.toNat default + wgW p (l.getD i default)):=by
  have h:=rd_qb (t:=k * l.length) (b:=(roF n l p k).2) hl roF_len.1 roF_len.2 hw (ro_qb hl hw k) (Nat.le_of_lt hi) _ (hl i hi).fr
  refine (h.add (hw i hi)).up ?_
  have h1 : k * l.length ≤ 16 * 64:=Nat.mul_le_mul (by omega) hL
  show (k * l.length + i) * (4800 + 1) + 1 + 4800 + 1 ≤ 5223488 + 1
  have : (k * l.length + i) * 4801 ≤ 1087 * 4801:=Nat.mul_le_mul_right _ (by omega)
  omega
section
variable {n : Nat} {l : List WT} {p : Rat} {k m i : Nat}
theorem rx_lt (h : laF n l p k < 0) : rxF n l p (m + 1) k = ((roF n l p (k + 1)).1,[]):=if_pos h
theorem rx_cy (h : ¬ laF n l p k < 0) (hc : cyF l (roF n l p (k + 1)).2 n (laF n l p k).toNat ≠ []) : rxF n l p (m + 1) k = ([],cyF l (roF n l p (k + 1)).2 n (laF n l p k).toNat):=by
  have hk : cokF l (roF n l p (k + 1)).2 n (laF n l p k).toNat = true:=Classical.byContradiction fun hn=>hc (by unfold cyF;rw [if_neg hn])
  show (if _ then _ else if _ then _ else _) = _
  rw [if_neg h,if_pos hk]
theorem rx_go (hl : OKL n l) (h : ¬ laF n l p k < 0) (hc : cyF l (roF n l p (k + 1)).2 n (laF n l p k).toNat = []) : rxF n l p (m + 1) k = rxF n l p m (k + 1):=by
  have hk : ¬ cokF l (roF n l p (k + 1)).2 n (laF n l p k).toNat = true:=fun hk=>by
    obtain ⟨tm,T,hI⟩:=Inv.ro (p:=p) hl (k + 1)
    exact cy_ne hk (cy_loop hl hI (la_lt hl h).1 hk).2.1 hc
  show (if _ then _ else if _ then _ else _) = _
  rw [if_neg h,if_neg hk]
theorem nt_of {z : Int} (h : 0 ≤ z) {v : Value} {G : Gh} (hv : (IT z).t v G) : (NT z.toNat).t v G:=by
  have e : ((z.toNat : Nat) : Int) = z:=Int.toNat_of_nonneg h
  show v = Value.int .i64 ((z.toNat : Nat) : Int)
  rw [e];exact hv
instance {k : Option Nat} {α : Type} {T : α → MT} : Gnd (LSN k (([] : List α).map T)):=⟨fun h=>⟨by rw [h.2 rfl];exact LS.nil,h.2⟩⟩
theorem ne_len {α : Type} {T : α → MT} {xs : List α} (h : ¬ xs = []) : decide ((((xs.map T).length : Nat) : Int) ≠ 0) = true:=decide_eq_true (by
  rw [List.length_map]
  have : xs.length ≠ 0:=fun e=>h (List.length_eq_zero_iff.1 e)
  omega)
theorem stp_y {w : WT} {r : SRB} (h : cmpQ (r.1.getD w.1.toNat default + wgW p w) (r.1.getD w.2.1.toNat default) > 0) : stp p w i r = (r.1.set w.2.1.toNat (r.1.getD w.1.toNat default + wgW p w),r.2.1.set w.2.1.toNat (i : Int),w.2.1):=if_pos (cmpQ_gt0.1 h)
theorem stp_n {w : WT} {r : SRB} (h : ¬ cmpQ (r.1.getD w.1.toNat default + wgW p w) (r.1.getD w.2.1.toNat default) > 0) : stp p w i r = r:=if_neg fun h'=>h (cmpQ_gt0.2 h')
end
theorem cyE [rv : RevC Try.prog 87] {ev : Nat} {l : List WT} {b : List Int} (h : cyF l b b.length ev = []) : Con Try.prog 66 [WTS l,ITS b,NT ev] (OKL b.length l ∧ ev < b.length ∧ b.length ≤ 16 ∧ (∃ p s tm T,Inv b.length l p s b tm T)) (LSN none (([] : List Int).map fun z=>IT z)):=by
  have c : Con Try.prog 66 [WTS l,ITS b,NT ev] (OKL b.length l ∧ ev < b.length ∧ b.length ≤ 16 ∧ (∃ p s tm T,Inv b.length l p s b tm T)) (LSN none ((cyF l b b.length ev).map fun z=>IT z)):=inferInstance
  rw [h] at c;exact c
theorem w37 {n : Nat} {l : List WT} {p : Rat} [rv : RevC Try.prog 87] : Con Try.prog 37 [NT n,WTS l,QC 4400 p] (1 ≤ n ∧ n ≤ 16 ∧ l.length ≤ 64 ∧ OKL n l ∧ (∀ j,j < l.length → 0 ≤ (l.getD j default).2.2.2 ∧ (l.getD j default).2.2.2 ≤ 8)) (MT.tup2 (LSN (some 3) ((rxF n l p (n + 1) 0).1.map (QC NB))) (LSN none ((rxF n l p (n + 1) 0).2.map fun z=>IT z))):=.o3 fun hok h1 h2 h3 hp=>by
  refine St.enter (N:=72) Try.func37 rfl rfl rfl hok (enter3 h1 h2 h3) fun a=>?_
  obtain ⟨hp1,hp2,hp3,hp4,hp5⟩:=hp
  have hw:=wts_w h2 h3 hp5
  have own16 : OwnAt 16:=⟨⟩
  have own19 : OwnAt 19:=⟨⟩
  repeat' (first|((with_reducible refine gS_ ?_);first|((with_reducible refine gL_ ?_);first|refine W.run ?_ fun a w G=>?_|refine W.mv fun a w G=>?_|refine W.asg fun a w G=>?_|refine W.bx fun b a w G=>?_|(refine W.nn hK ?_;clear hK K)|refine W.nl ?_|refine W.al fun b a w G=>?_|refine W.st fun w=>?_|refine W.stp fun w=>?_|refine W.ste ?_ fun w=>?_)|((with_reducible refine gC_ ?_);first|with_reducible refine W.cbt (ne_len hcy) ?_|with_reducible refine W.cbf (b:=decide (((([] : List Int).map fun z=>IT z).length : Int) ≠ 0)) rfl ?_|with_reducible refine W.casth (x:=⟨_,_,_,QC (NB + 4800 + 1) _⟩) (τ':=QC NB _) (QC.re (x_qb hp4 hp3 hp2 hw (k:=k) (i:=i) (by omega) (by omega))) ?_|refine W.reg fun K hK=>?_|refine W.reg1 ?_|refine W.sq fun K hK=>?_|refine W.ds ?_ (fun β a w G hu=>W.fin ?_ hu) mixedOrders (by kernel_rfl)|refine W.sk ?_|refine W.cd (fun hc=>?_) (fun hc=>?_)|refine W.cb (fun hc=>?_) (fun hc=>?_)|refine W.bl ?_|refine W.ex ?_|refine W.rt ?_)|((with_reducible refine W.kn hK ?_);clear hK K)|(with_reducible first|refine W.bn ?_|refine W.xt ?_|refine W.xb ?_|refine W.xo ?_|refine W.tr ?_|refine W.br ?_)|refine W.rt1 rfl ?_|refine W.rt2 rfl ?_ ?_|refine W.rt3 rfl ?_ ?_ ?_)|refine W.mk (mt:=FX 1 default) (QC NB) (0:Rat) ?_ fun b a w G=>?_|refine W.co ?_ fun b c a w G hle=>?_|((have hil : i = l.length:=by omega);subst hil)|refine W.fz 6 ?_ fun G=>?_|((fail_if_success (have h9:=hcI));have hcI:=cyE hcy)|((fail_if_success (have h9:=hcy));refine W.cast (t:=66) (τ:=IT (rdF l p (roF n l p k).1 (roF n l p k).2 l.length).2.2) (τ':=NT (laF n l p k).toNat) (nt_of (z:=laF n l p k) (by show 0 ≤ (rdF l p (roF n l p k).1 (roF n l p k).2 l.length).2.2;omega)) ?_;by_cases hcy : cyF l (rdF l p (roF n l p k).1 (roF n l p k).2 l.length).2.1 (rdF l p (roF n l p k).1 (roF n l p k).2 l.length).2.1.length (laF n l p k).toNat = [])|((have h9 : ¬ _ = []:=hcy);refine W.fz 65 ?_ fun G=>?_)|refine W.lp 23 (α:=Nat) (fun k=>n + 1 - k) (fun k=>k ≤ n + 1 ∧ rxF n l p (n + 1) 0 = rxF n l p (n + 1 - k) k) [6,7,10,11,12,13,14,22,23,24,25,26,27,28,29,30,31,32,33,34,35,36,37,38,39,40,41,42,43,44,45,46,47,48,49,50,51,52,53,54,55,56,57,58,59,60,61,62,63,64,65,66,67,68,69,70,71] (fun k=>[(22,NT k)]) (fun k=>[(8,ROWS (some 3) ((roF n l p k).1.map (QC NB))),(9,ROWS none ((roF n l p k).2.map fun z=>IT z))]) (0) ?_ ?_ ?_ fun k hk a w G=>?_|refine W.ag (x:=k) (k+1) ?_ ?_ ?_ ?_|refine W.lp 27 (α:=Nat) (fun i=>l.length - i) (fun i=>i ≤ l.length) [10,11,12,13,26,27,28,29,30,31,32,33,34,35,36,37,38,39,40,41,42,43,44,45,46,47,48,49,50,51,52,53,54,55,56,57,58,59,60] (fun i=>[(26,NT i),(10,IT (rdF l p (roF n l p k).1 (roF n l p k).2 i).2.2)]) (fun i=>[(8,ROWS (some 3) ((rdF l p (roF n l p k).1 (roF n l p k).2 i).1.map (QC NB))),(9,ROWS none ((rdF l p (roF n l p k).1 (roF n l p k).2 i).2.1.map fun z=>IT z))]) (0) ?_ ?_ ?_ fun i hi a w G=>?_|refine W.ag (x:=i) (i+1) ?_ ?_ ?_ ?_|clear hK K|clear hu|exact True.intro|exact Nat.le_trans (by clear hp;omega) hp|exact Nat.le_trans (by clear hp;omega) hp.1|exact Nat.le_trans (by clear hp;omega) hp.2|(clear hp;omega)|apply And.intro|refine GI.i fun _=>?_|with_reducible rfl|decide|(simp only [List.length_cons,List.length_nil];omega))
  all_goals (try simp only [List.length_replicate] at *)
  all_goals (try have hr1 : (roF n l p k).1.length = n:=roF_len.1)
  all_goals (try have hr2 : (roF n l p k).2.length = n:=roF_len.2)
  all_goals (try have hd1 : (rdF l p (roF n l p k).1 (roF n l p k).2 i).1.length = n:=rdF_len.1.trans hr1)
  all_goals (try have hd2 : (rdF l p (roF n l p k).1 (roF n l p k).2 i).2.1.length = n:=rdF_len.2.trans hr2)
  all_goals (try have he1 : (rdF l p (roF n l p k).1 (roF n l p k).2 l.length).1.length = n:=rdF_len.1.trans hr1)
  all_goals (try have he2 : (rdF l p (roF n l p k).1 (roF n l p k).2 l.length).2.1.length = n:=rdF_len.2.trans hr2)
  all_goals (try have hoi:=hp4 i (by omega))
  all_goals (try have hoi1:=hoi.1)
  all_goals (try have hoi2:=hoi.2.1)
  all_goals (try have hoi3:=hoi.2.2.1)
  all_goals (try have hoi4:=hoi.2.2.2)
  all_goals (try have hcm:=stp_y (p:=p) (w:=l.getD i default) (i:=i) (r:=rdF l p (roF n l p k).1 (roF n l p k).2 i) (by assumption))
  all_goals (try have hcn:=stp_n (p:=p) (w:=l.getD i default) (i:=i) (r:=rdF l p (roF n l p k).1 (roF n l p k).2 i) (by assumption))
  all_goals (try have hS : rdF l p (roF n l p k).1 (roF n l p k).2 (i + 1) = stp p (l.getD i default) i (rdF l p (roF n l p k).1 (roF n l p k).2 i):=rfl)
  all_goals (try have htu:=hp5 i (by omega))
  all_goals (try have hnk : n + 1 - k = (n - k) + 1:=by omega)
  all_goals (try have hro : roF n l p (k + 1) = ((rdF l p (roF n l p k).1 (roF n l p k).2 l.length).1,(rdF l p (roF n l p k).1 (roF n l p k).2 l.length).2.1):=rfl)
  all_goals (try have hla:=la_lt (p:=p) (k:=k) hp4 (by assumption))
  all_goals (try have hIv : ∃ q s tm T,Inv n l q s (rdF l p (roF n l p k).1 (roF n l p k).2 l.length).2.1 tm T:=(Inv.ro (p:=p) hp4 (k + 1)).elim fun tm h=>h.elim fun T h=>⟨p,_,tm,T,h⟩)
  all_goals first
    | omega
    | rfl
    | (simp only [LIM];omega)
    | (rw [hS,hcm];done)
    | (rw [hS,hcn];done)
    | (rw [he2];omega)
    | (rw [he2];exact hp4)
    | (rw [he2];exact hIv)
    | (rw [hk.2,hnk,rx_lt (by assumption)];done)
    | (rw [hk.2,hnk,rx_lt (by assumption)];rfl)
    | (intro e0;have e9:=congrArg List.length e0;rw [he1] at e9;exact absurd e9 (by simp;omega))
    | (rw [hk.2,hnk,rx_lt (by assumption)];intro e0;have e9:=congrArg List.length e0;rw [roF_len.1] at e9;exact absurd e9 (by simp;omega))
    | (rw [he2] at hcy;rw [hk.2,hnk,rx_cy (by assumption) hcy];done)
    | (rw [he2] at hcy ⊢;rw [hk.2,hnk,rx_cy (by assumption) hcy];done)
    | (rw [he2] at hcy ⊢;rw [hk.2,hnk,rx_cy (by assumption) hcy];rfl)
    | (rw [he2] at hcy;rw [hk.2,hnk,rx_go hp4 (by assumption) hcy];done)
    | (rw [he2] at hcy;rw [hk.2,hnk,rx_go hp4 (by assumption) hcy];congr 1;omega)
    | (have e9 : k = n + 1 := by omega
       subst e9;rw [hk.2,Nat.sub_self];rfl)
    | skip
instance {n : Nat} {l : List WT} {p : Rat} [rv : RevC Try.prog 87] {τ3 : MT} [j3 : NQ τ3 (QC 4400 p)] : Con Try.prog 37 [NT n,WTS l,τ3] (1 ≤ n ∧ n ≤ 16 ∧ l.length ≤ 64 ∧ OKL n l ∧ (∀ j,j < l.length → 0 ≤ (l.getD j default).2.2.2 ∧ (l.getD j default).2.2.2 ≤ 8)) (MT.tup2 (LSN (some 3) ((rxF n l p (n + 1) 0).1.map (QC NB))) (LSN none ((rxF n l p (n + 1) 0).2.map fun z=>IT z))):=.o3 fun hok h1 h2 h3 hp=>w37.c3 hok h1 h2 (j3.h h3) hp
end Go.Proofs.Ytjphllpnhjemjaa
namespace Go.Proofs.Ytjphllpnhjemjaa
open Go.Shelf
def laysReverse_ren : Go.Shelf.Ren:=⟨fun | 112=>87 | n=>n,fun | 28=>34 | 3=>3 | 4=>4 | 0=>0 | n=>n,fun | n=>n⟩
theorem laysReverse : Go.Proofs.Lays.n112 Try.prog laysReverse_ren:={
  mixed:=by kernel_rfl
  f112:=Try.func87.trans (congrArg some (by kernel_rfl))
  t0:=Try.underlying0
  a0:=Try.isAgg0
  z0:=Try.sizeOf0
  v0:=Try.zeroValue0
  t3:=Try.underlying3
  a3:=Try.isAgg3
  z3:=Try.sizeOf3
  v3:=Try.zeroValue3
  t4:=Try.underlying4
  a4:=Try.isAgg4
  z4:=Try.sizeOf4
  v4:=Try.zeroValue4
  t28:=Try.underlying34
  a28:=Try.isAgg34
  z28:=Try.sizeOf34
  v28:=Try.zeroValue34 }
end Go.Proofs.Ytjphllpnhjemjaa
set_option linter.unusedVariables false
namespace Go.Proofs.Ytjphllpnhjemjaa
theorem fr_self4 {r : FR} (hw : wfl r.p ∧ wfl r.q) (hok : r.ok = true) : FR.of r.val = r:=by
  obtain ⟨s,p,q⟩:=r
  have hw : wfl p ∧ wfl q:=hw
  have hok : qok s p q = true:=hok
  by_cases hp : p.length = 0
  · have e:=List.length_eq_zero_iff.1 hp
    subst e
    have h : qok s [] q = true:=hok
    have hv : FR.val ⟨s,[],q⟩ = 0:=qval_nil rfl
    unfold qok at h
    split at h
    · rename_i k
      obtain rfl:=k.2
      rw [hv]
      have : s = false:=by simpa using h
      subst this
      unfold FR.of dwords
      rw [if_pos rfl,show (0 : Rat).num.natAbs = 0 from rfl,words_zero];rfl
    · simp at h
  · obtain ⟨_,h3,h4,h5,h6⟩:=qval_parts hw hok hp
    have hp0 : val p ≠ 0:=fun e=>ne_of_len hp (val_eq_zero h3 e)
    have hne : FR.val ⟨s,p,q⟩ ≠ 0:=fun e=>by
      have h5' : (FR.val ⟨s,p,q⟩).num = sg s (val p):=h5
      rw [e] at h5'
      have:=congrArg Int.natAbs h5'
      rw [sg_abs] at this;exact hp0 this.symm
    have hs : decide (FR.val ⟨s,p,q⟩ < 0) = s:=by
      have h5' : (FR.val ⟨s,p,q⟩).num = sg s (val p):=h5
      have h7 : FR.val ⟨s,p,q⟩ < 0 ↔ (FR.val ⟨s,p,q⟩).num < 0:=by
        rw [← Rat.not_le,← Rat.num_nonneg];omega
      rw [Bool.eq_iff_iff,decide_eq_true_iff,h7,h5']
      cases s <;> simp [sg] <;> omega
    unfold FR.of dwords
    rw [if_neg hne,hs]
    have e1 : (FR.val ⟨s,p,q⟩).num.natAbs = val p:=(congrArg Int.natAbs h5).trans sg_abs
    have e2 : (FR.val ⟨s,p,q⟩).den = val q:=h6
    rw [e1,e2,words_val hw.1 h3,words_val hw.2 h4]
theorem FX.self4 {n : Nat} {r : FR} {v : Value} {G : Gh} (h : (FX n r).t v G) (hok : r.ok = true) : (FX n (FR.of r.val)).t v G:=FX.eq h (fr_self4 (QR.wf (FX.qr h)) hok).symm
theorem QC.of_ok4 {n : Nat} {r : FR} {v : Value} {G : Gh} (h : (FX n r).t v G) (hok : r.ok = true) : (QC n r.val).t v G:=by
  have h2:=FX.self4 h hok
  obtain ⟨h1,h2,h3,h4⟩:=h2
  refine ⟨⟨?_,?_⟩,h4⟩
  · rwa [show (FR.of r.val).p = words r.val.num.natAbs from rfl,val_words] at h2
  · rw [show (FR.of r.val).q = dwords r.val from rfl] at h3
    unfold dwords at h3
    split at h3
    · have e : r.val = 0:=by assumption
      rw [e];exact Nat.lt_of_lt_of_le (by decide : (1 : Nat) < 2 ^ 1) (Nat.pow_le_pow_right (by decide) h1)
    · rwa [val_words] at h3
theorem FX.qcv {n m : Nat} {r : FR} (hok : r.ok = true) (hn : n ≤ m) {v : Value} {G : Gh} (h : (FX n r).t v G) : (QC m r.val).t v G:=QC.up (QC.of_ok4 h hok) hn
end Go.Proofs.Ytjphllpnhjemjaa
set_option linter.unusedVariables false
set_option linter.unusedSimpArgs false
set_option maxHeartbeats 4000000
set_option maxRecDepth 100000
set_option synthInstance.maxSize 100000
set_option synthInstance.maxHeartbeats 400000
namespace Go.Proofs.Ytjphllpnhjemjaa
open Go.RowKit (Below)
attribute [local irreducible] Go.Code.wp Go.wpList Go.bodyPost
instance : RevC Try.prog 87:=⟨by kernel_rfl,fun blk off cap zs w h1 h2=>Any.slices_Reverse_int laysReverse blk off cap zs w h1 h2⟩
theorem gv_ok {n : Int} {l : List WT} {r : FR} (h : gvC n l r = 0) : chW n l = 0 ∧ nnR r = true:=by
  unfold gvC at h
  split at h
  · rename_i h0
    split at h
    · rename_i h1;exact ⟨h0,h1⟩
    · cases h
  · rename_i h0;exact absurd h h0
theorem nn_ok {r : FR} (h : nnR r = true) : r.ok = true ∧ 0 ≤ r.val:=by
  unfold nnR at h
  rw [Bool.and_eq_true,decide_eq_true_eq] at h
  exact h
theorem nnz {n : Int} {l : List WT} (h : chW n l = 0) : ((n.toNat : Nat) : Int) = n ∧ 1 ≤ n.toNat ∧ n.toNat ≤ 16 ∧ l.length ≤ 64 ∧ OKL n.toNat l ∧ (∀ j,j < l.length → 0 ≤ (l.getD j default).2.2.2 ∧ (l.getD j default).2.2.2 ≤ 8):=by
  have h1:=ch_ok h
  exact ⟨by omega,by omega,by omega,h1.2.2.1,h1.2.2.2.1,fun j hj=>⟨h1.2.2.2.2.1 j hj,(h1.2.2.2.2.2 j hj).2⟩⟩
def stC (n : Int) (l : List WT) (r : FR) : Int:=if gvC n l r = 0 then (if rsF n.toNat l r.val (n.toNat + 1) 0 = [] then 16 else 0) else gvC n l r
def stL (n : Int) (l : List WT) (r : FR) : List Rat:=if gvC n l r = 0 then rsF n.toNat l r.val (n.toNat + 1) 0 else []
section
variable {n : Int} {l : List WT} {r : FR}
theorem st_e (h : ¬ gvC n l r = 0) : stC n l r = gvC n l r ∧ stL n l r = []:=by unfold stC stL;rw [if_neg h,if_neg h];exact ⟨rfl,rfl⟩
theorem st_g (h : gvC n l r = 0) : stL n l r = (rxF n.toNat l r.val (n.toNat + 1) 0).1:=by
  unfold stL;rw [if_pos h,rx_rs (nnz (gv_ok h).1).2.2.2.2.1]
theorem st_n (h : gvC n l r = 0) (hz : (rxF n.toNat l r.val (n.toNat + 1) 0).1 = []) : stC n l r = 16 ∧ stL n l r = []:=by
  refine ⟨?_,(st_g h).trans hz⟩
  unfold stC;rw [if_pos h,← rx_rs (nnz (gv_ok h).1).2.2.2.2.1,if_pos hz]
theorem st_y (h : gvC n l r = 0) (hz : ¬ (rxF n.toNat l r.val (n.toNat + 1) 0).1 = []) : stC n l r = 0:=by
  unfold stC;rw [if_pos h,← rx_rs (nnz (gv_ok h).1).2.2.2.2.1,if_neg hz]
theorem st_0 (h : stC n l r = 0) : gvC n l r = 0 ∧ stL n l r ≠ [] ∧ (stL n l r).length = n.toNat ∧ ∃ k,stL n l r = (roF n.toNat l r.val k).1 ∧ laF n.toNat l r.val k < 0:=by
  unfold stC at h
  split at h
  · rename_i h0
    split at h
    · cases h
    · rename_i h1
      have e : stL n l r = rsF n.toNat l r.val (n.toNat + 1) 0:=if_pos h0
      obtain ⟨j,hj,hl,_⟩:=rs_fea (nnz (gv_ok h0).1).2.2.2.2.1 _ _ h1
      exact ⟨h0,by rw [e];exact h1,by rw [e,hj,roF_len.1],j,e.trans hj,hl⟩
  · rename_i h0;exact absurd h h0
def skT (l : List WT) (p : Rat) (s : List Rat) (j : Nat) : List Rat:=(List.range j).map (slF l p s)
def skL (n : Int) (l : List WT) (r : FR) : List Rat:=if stC n l r = 0 then skT l r.val (stL n l r) l.length else []
theorem skT_len {p : Rat} {s : List Rat} {j : Nat} : (skT l p s j).length = j:=by unfold skT;rw [List.length_map,List.length_range]
theorem skT_go {p : Rat} {s : List Rat} {j : Nat} : skT l p s j ++ [slF l p s j] = skT l p s (j + 1):=by unfold skT;rw [List.range_succ,List.map_append];rfl
theorem sk_e (h : ¬ stC n l r = 0) : skL n l r = []:=if_neg h
theorem sk_y (h : stC n l r = 0) : skL n l r = skT l r.val (stL n l r) l.length:=if_pos h
end
theorem lpB_n {l : List WT} {lo : List Int} {j : Nat} (hj : j < lo.length) (h : (l.getD (lo.getD j default).toNat default).2.1 ≠ (l.getD (lo.getD ((j + 1) % lo.length) default).toNat default).1) : lpB l lo = false:=by
  cases e : lpB l lo with
  | false=>rfl
  | true=>exact absurd ((lpB_d e).1 j hj) h
theorem lpB_y {l : List WT} {lo : List Int} (h : ∀ k,k < lo.length → (l.getD (lo.getD k default).toNat default).2.1 = (l.getD (lo.getD ((k + 1) % lo.length) default).toNat default).1) : lpB l lo = decide (0 < lo.length):=by
  unfold lpB
  have : ((List.range lo.length).all fun k=>decide ((l.getD (lo.getD k default).toNat default).2.1 = (l.getD (lo.getD ((k + 1) % lo.length) default).toNat default).1)) = true:=List.all_eq_true.2 fun k hk=>decide_eq_true (h k (List.mem_range.1 hk))
  rw [this,Bool.true_and]
instance {l : List WT} {lo : List Int} : Con Try.prog 47 [WTS l,ITS lo] (INL l lo ∧ lo.length ≤ 100) (BT (lpB l lo)):=.o2 fun hok h1 h2 hp=>by
  refine St.enter (N:=36) Try.func47 rfl rfl rfl hok (enter2 h1 h2) fun a=>?_
  repeat' (first|((with_reducible refine gS_ ?_);first|((with_reducible refine gL_ ?_);first|refine W.run ?_ fun a w G=>?_|refine W.mv fun a w G=>?_|refine W.asg fun a w G=>?_|refine W.bx fun b a w G=>?_|(refine W.nn hK ?_;clear hK K)|refine W.nl ?_|refine W.al fun b a w G=>?_|refine W.st fun w=>?_|refine W.stp fun w=>?_|refine W.ste ?_ fun w=>?_)|((with_reducible refine gC_ ?_);first|refine W.reg fun K hK=>?_|refine W.reg1 ?_|refine W.sq fun K hK=>?_|refine W.ds ?_ (fun β a w G hu=>W.fin ?_ hu) mixedOrders (by kernel_rfl)|refine W.sk ?_|refine W.cd (fun hc=>?_) (fun hc=>?_)|refine W.cb (fun hc=>?_) (fun hc=>?_)|refine W.bl ?_|refine W.ex ?_|refine W.rt ?_)|((with_reducible refine W.kn hK ?_);clear hK K)|(with_reducible first|refine W.bn ?_|refine W.xt ?_|refine W.xb ?_|refine W.xo ?_|refine W.tr ?_|refine W.br ?_)|refine W.rt1 rfl ?_|refine W.rt2 rfl ?_ ?_|refine W.rt3 rfl ?_ ?_ ?_)|refine W.lp 10 (α:=Nat) (fun j=>lo.length - j) (fun j=>j ≤ lo.length ∧ ∀ k,k < j → (l.getD (lo.getD k default).toNat default).2.1 = (l.getD (lo.getD ((k + 1) % lo.length) default).toNat default).1) [4,5,6,9,10,11,12,13,14,15,16,17,18,19,20,21,22,23,24,25,26,27,28,29,30,31,32] (fun j=>[(9,NT j)]) (fun j=>[]) (0) ?_ ?_ ?_ fun j hj a w G=>?_|refine W.ag (x:=j) (j+1) ?_ ?_ ?_ ?_|clear hK K|clear hu|exact True.intro|exact Nat.le_trans (by clear hp;omega) hp|exact Nat.le_trans (by clear hp;omega) hp.1|exact Nat.le_trans (by clear hp;omega) hp.2|(clear hp;omega)|apply And.intro|refine GI.i fun _=>?_|with_reducible rfl|decide|(simp only [List.length_cons,List.length_nil];omega))
  all_goals (try have hm : (j + 1) % lo.length < lo.length:=Nat.mod_lt _ (by omega))
  all_goals (try have hi1:=hp.1 j (by omega))
  all_goals (try have hi2:=hp.1 ((j + 1) % lo.length) hm)
  all_goals first
    | omega
    | rfl
    | (simp only [LIM];omega)
    | exact (lpB_n (by omega) (by assumption)).symm
    | exact lpB_n (by omega) (by assumption)
    | exact (lpB_n (j:=j) (by omega) (by omega)).symm
    | (intro k hk
       rcases Nat.lt_or_eq_of_le (Nat.le_of_lt_succ hk) with e | e
       · exact hj.2 k e
       · subst e;omega)
    | (rw [lpB_y fun k hk=>hj.2 k (by omega)];congr 1;simp;done)
    | (rw [lpB_y fun k hk=>hj.2 k (by omega)];congr 1;apply propext;constructor <;> intro h9 <;> omega)
    | skip
theorem w15 {n : Int} {m : Nat} {l : List WT} {r : FR} : Con Try.prog 15 [IT n,WTS l,FX m r] (m ≤ 4400) (MT.tup2 (QNS NB (stL n l r)) (.ex (errV 47 (stC n l r)))):=.o3 fun hok h1 h2 h3 hp=>by
  refine St.enter (N:=29) Try.func15 rfl rfl rfl hok (enter3 h1 h2 h3) fun a=>?_
  have hlim:=LS.lenM h2
  simp only [LIM] at hlim
  repeat' (first|((with_reducible refine gS_ ?_);first|((with_reducible refine gL_ ?_);first|refine W.run ?_ fun a w G=>?_|refine W.mv fun a w G=>?_|refine W.asg fun a w G=>?_|refine W.bx fun b a w G=>?_|(refine W.nn hK ?_;clear hK K)|refine W.nl ?_|refine W.al fun b a w G=>?_|refine W.st fun w=>?_|refine W.stp fun w=>?_|refine W.ste ?_ fun w=>?_)|((with_reducible refine gC_ ?_);first|refine W.reg fun K hK=>?_|refine W.reg1 ?_|refine W.sq fun K hK=>?_|refine W.ds ?_ (fun β a w G hu=>W.fin ?_ hu) mixedOrders (by kernel_rfl)|refine W.sk ?_|refine W.cd (fun hc=>?_) (fun hc=>?_)|refine W.cb (fun hc=>?_) (fun hc=>?_)|refine W.bl ?_|refine W.ex ?_|refine W.rt ?_)|((with_reducible refine W.kn hK ?_);clear hK K)|(with_reducible first|refine W.bn ?_|refine W.xt ?_|refine W.xb ?_|refine W.xo ?_|refine W.tr ?_|refine W.br ?_)|refine W.rt1 rfl ?_|refine W.rt2 rfl ?_ ?_|refine W.rt3 rfl ?_ ?_ ?_)|refine W.cast (t:=19) (τ:=IT n) (τ':=NT n.toNat) (nt_of (by have:=(nnz (gv_ok (n:=n) (l:=l) (r:=r) (by omega)).1).1;omega)) ?_|refine W.cast (t:=21) (τ:=FX m r) (τ':=QC 4400 r.val) (FX.qcv (nn_ok (gv_ok (n:=n) (l:=l) (r:=r) (by omega)).2).1 hp) ?_|clear hK K|clear hu|exact True.intro|exact Nat.le_trans (by clear hp;omega) hp|exact Nat.le_trans (by clear hp;omega) hp.1|exact Nat.le_trans (by clear hp;omega) hp.2|(clear hp;omega)|apply And.intro|refine GI.i fun _=>?_|with_reducible rfl|decide|(simp only [List.length_cons,List.length_nil];omega))
  all_goals (try have hg0 : gvC n l r = 0:=by omega)
  all_goals (try have hz:=nnz (gv_ok hg0).1)
  all_goals (try simp only [List.length_map] at *)
  all_goals first
    | omega
    | exact (st_e (by assumption)).1.symm
    | exact (st_e (by assumption)).2
    | exact hz.2.2.2.2.1
    | exact hz.2.2.2.2.2
    | exact (st_n hg0 (List.length_eq_zero_iff.1 (by omega))).1.symm
    | exact (st_n hg0 (List.length_eq_zero_iff.1 (by omega))).2
    | exact st_y hg0 (fun e0=>by have e1 : (rxF n.toNat l r.val (n.toNat + 1) 0).1.length = 0:=congrArg List.length e0;omega)
    | exact (st_y hg0 (fun e0=>by have e1 : (rxF n.toNat l r.val (n.toNat + 1) 0).1.length = 0:=congrArg List.length e0;omega)).symm
    | exact (st_g hg0).symm
    | exact st_g hg0
    | rfl
    | skip
instance {n : Int} {m : Nat} {l : List WT} {r : FR} {τ3 : MT} [j3 : NF τ3 (FX m r)] : Con Try.prog 15 [IT n,WTS l,τ3] (m ≤ 4400) (MT.tup2 (QNS NB (stL n l r)) (.ex (errV 47 (stC n l r)))):=.o3 fun hok h1 h2 h3 hp=>w15.c3 hok h1 h2 (j3.h h3) hp
theorem w16 {n : Int} {m : Nat} {l : List WT} {r : FR} : Con Try.prog 16 [IT n,WTS l,FX m r] (m ≤ 4400) (MT.tup2 (QNS (NB + NB + 1 + 4800 + 1) (skL n l r)) (.ex (errV 47 (stC n l r)))):=.o3 fun hok h1 h2 h3 hp=>by
  refine St.enter (N:=49) Try.func16 rfl rfl rfl hok (enter3 h1 h2 h3) fun a=>?_
  have hlim:=LS.lenM h2
  simp only [LIM] at hlim
  have own46 : OwnAt 46:=⟨⟩
  repeat' (first|((with_reducible refine gS_ ?_);first|((with_reducible refine gL_ ?_);first|refine W.run ?_ fun a w G=>?_|refine W.mv fun a w G=>?_|refine W.asg fun a w G=>?_|refine W.bx fun b a w G=>?_|(refine W.nn hK ?_;clear hK K)|refine W.nl ?_|refine W.al fun b a w G=>?_|refine W.st fun w=>?_|refine W.stp fun w=>?_|refine W.ste ?_ fun w=>?_)|((with_reducible refine gC_ ?_);first|refine W.reg fun K hK=>?_|refine W.reg1 ?_|refine W.sq fun K hK=>?_|refine W.ds ?_ (fun β a w G hu=>W.fin ?_ hu) mixedOrders (by kernel_rfl)|refine W.sk ?_|refine W.cd (fun hc=>?_) (fun hc=>?_)|refine W.cb (fun hc=>?_) (fun hc=>?_)|refine W.bl ?_|refine W.ex ?_|refine W.rt ?_)|((with_reducible refine W.kn hK ?_);clear hK K)|(with_reducible first|refine W.bn ?_|refine W.xt ?_|refine W.xb ?_|refine W.xo ?_|refine W.tr ?_|refine W.br ?_)|refine W.rt1 rfl ?_|refine W.rt2 rfl ?_ ?_|refine W.rt3 rfl ?_ ?_ ?_)|refine W.casth (x:=⟨_,_,_,FX m r⟩) (τ':=QC 4400 r.val) (FX.qcv (nn_ok (gv_ok (n:=n) (l:=l) (r:=r) (st_0 (n:=n) (l:=l) (r:=r) (by omega)).1).2).1 hp) ?_|refine W.lpo 26 (OWNS.nil (k:=some 3) (e:=25)) (T:=QC (NB + NB + 1 + 4800 + 1)) (xs0:=[]) (fun j=>l.length - j) (fun j=>j ≤ l.length) (fun j=>skT l r.val (stL n l r) j) [10,12,25,26,27,28,29,30,31,32,33,34,35,36,37,38,39,40,41,42,43,44,45,46,47] (fun j V=>[(25,NT j),(10,.ex V)]) (fun j=>[]) 0 ?_ ?_ ?_ ?_ fun j hj V own a w G hO=>?_|refine W.ds ?_ (fun β a w G hu=>W.fing ?_) mixedOrders (by kernel_rfl)|refine W.ap (mt:=FX 1 default) (T:=QC (NB + NB + 1 + 4800 + 1)) hO ?_ fun V own a w G hO=>?_|refine W.ago (K:=fun _ _=>True) (T:=QC (NB + NB + 1 + 4800 + 1)) hO (x:=j) (j+1) ?_ ?_ ?_ ?_ ?_|refine W.fzo (T:=QC (NB + NB + 1 + 4800 + 1)) 6 hO ?_ fun G=>?_|clear hK K|clear hu|exact True.intro|exact Nat.le_trans (by clear hp;omega) hp|exact Nat.le_trans (by clear hp;omega) hp.1|exact Nat.le_trans (by clear hp;omega) hp.2|(clear hp;omega)|apply And.intro|refine GI.i fun _=>?_|with_reducible rfl|decide|(simp only [List.length_cons,List.length_nil];omega))
  all_goals (try have hs0 : stC n l r = 0:=by omega)
  all_goals (try have hst:=st_0 hs0)
  all_goals (try have hz:=nnz (gv_ok hst.1).1)
  all_goals (try have hoi:=hz.2.2.2.2.1 j (by omega))
  all_goals (try have htu:=hz.2.2.2.2.2 j (by omega))
  all_goals (try unfold okW at hoi)
  all_goals (try simp only [List.length_map,skT_len,LIM,List.length_cons,List.length_nil] at *)
  all_goals first
    | omega
    | rfl
    | exact sk_e (by assumption)
    | exact skT_go
    | exact skT_go.symm
    | (rw [sk_y hs0]; have e9 : j = l.length := by omega
       rw [e9])
    | skip
instance {n : Int} {m : Nat} {l : List WT} {r : FR} {τ3 : MT} [j3 : NF τ3 (FX m r)] : Con Try.prog 16 [IT n,WTS l,τ3] (m ≤ 4400) (MT.tup2 (QNS (NB + NB + 1 + 4800 + 1) (skL n l r)) (.ex (errV 47 (stC n l r)))):=.o3 fun hok h1 h2 h3 hp=>w16.c3 hok h1 h2 (j3.h h3) hp
end Go.Proofs.Ytjphllpnhjemjaa
