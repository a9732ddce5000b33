import Derived.Laws.Cover3
import Derived.Sort.Row
import Derived.Test.YtjphllpnhjemjaaQd
set_option linter.unusedVariables false
set_option linter.unusedSimpArgs false
set_option linter.unusedVariables false
set_option linter.unusedSimpArgs false
namespace Go.Proofs.Ytjphllpnhjemjaa
theorem sc_get0 {a : Rat} {l : List WT} (j : Nat) : (scL a l).getD j default = if j < l.length then scW a (l.getD j default) else default:=by
  by_cases h : j < l.length
  · rw [if_pos h,sc_get h]
  · rw [if_neg h,List.getD_eq_getElem?_getD,List.getElem?_eq_none (by rw [sc_len];omega)];rfl
theorem bkF_sc {a : Rat} {l : List WT} {b : List Int} {v : Nat} : bkF (scL a l) b v = bkF l b v:=by
  unfold bkF
  rw [sc_get0]
  split
  · rfl
  · rename_i h
    rw [List.getD_eq_getElem?_getD (l:=l),List.getElem?_eq_none (by omega)];rfl
theorem bkn_sc {a : Rat} {l : List WT} {b : List Int} {v : Nat} : ∀ m,bknF (scL a l) b v m = bknF l b v m:=by
  intro m
  induction m with
  | zero=>rfl
  | succ m ih=>show bkF (scL a l) b (bknF (scL a l) b v m) = _;rw [ih,bkF_sc];rfl
theorem cok_sc {a : Rat} {l : List WT} {b : List Int} {n v : Nat} : cokF (scL a l) b n v = cokF l b n v:=by
  unfold cokF;simp only [bkn_sc]
theorem cy_sc {a : Rat} {l : List WT} {b : List Int} {n v : Nat} : cyF (scL a l) b n v = cyF l b n v:=by
  unfold cyF prF e0F;rw [cok_sc];simp only [bkn_sc]
theorem rx_sc {a p : Rat} (ha : 0 < a) {n : Nat} {l : List WT} : ∀ m k,rxF n (scL a l) (p * a) m k = ((rxF n l p m k).1.map (· * a),(rxF n l p m k).2):=by
  intro m
  induction m with
  | zero=>intro k;rfl
  | succ m ih =>
    intro k
    unfold rxF
    rw [la_sc ha,ro_sc ha,cok_sc,cy_sc,ih]
    split
    · rfl
    · split <;> rfl
theorem sm_sc {a : Rat} {l : List WT} {lo : List Int} : smt (scL a l) lo = smt l lo * a ∧ sut (scL a l) lo = sut l lo:=by
  induction lo with
  | nil=>exact ⟨by show (0 : Rat) = 0 * a;grind,rfl⟩
  | cons x lo ih =>
    have e : ((scL a l).getD x.toNat default).2.2.1.val = (l.getD x.toNat default).2.2.1.val * a ∧ ((scL a l).getD x.toNat default).2.2.2 = (l.getD x.toNat default).2.2.2:=by
      rw [sc_get0]
      split
      · exact ⟨FR.of_val _,rfl⟩
      · rename_i h
        rw [List.getD_eq_getElem?_getD (l:=l),List.getElem?_eq_none (by omega)]
        exact ⟨by show (0 : Rat) = 0 * a;grind,rfl⟩
    exact ⟨by show _ + smt (scL a l) lo = (_ + smt l lo) * a;rw [ih.1,e.1];grind,by show _ + sut (scL a l) lo = _ + sut l lo;rw [ih.2,e.2]⟩
theorem qt_sc {a : Rat} {l : List WT} {lo : List Int} : qtF (scL a l) lo = qtF l lo * a:=by
  unfold qtF;rw [sm_sc.1,sm_sc.2,Rat.div_def,Rat.div_def];grind
theorem it_sc {a : Rat} (ha : 0 < a) {n : Nat} {l : List WT} (j : Nat) : itF n (scL a l) j = ((itF n l j).1 * a,(itF n l j).2):=by
  induction j with
  | zero=>show ((0 : Rat),([] : List Int)) = (0 * a,[]);rw [show (0 : Rat) * a = 0 by grind]
  | succ j ih =>
    show (qtF (scL a l) (rxF n (scL a l) (itF n (scL a l) j).1 (n + 1) 0).2,(rxF n (scL a l) (itF n (scL a l) j).1 (n + 1) 0).2) = (qtF l (rxF n l (itF n l j).1 (n + 1) 0).2 * a,(rxF n l (itF n l j).1 (n + 1) 0).2)
    rw [ih,rx_sc ha,qt_sc]
theorem map_nil {α β : Type} {f : α → β} {l : List α} : l.map f = [] ↔ l = []:=List.map_eq_nil_iff
theorem go_sc {a : Rat} (ha : 0 < a) {n : Nat} {l : List WT} (j : Nat) : goF n (scL a l) j = goF n l j:=by
  unfold goF
  rw [it_sc ha,rx_sc ha,sm_sc.2]
  simp only [map_nil]
theorem js_sc {a : Rat} (ha : 0 < a) {n : Nat} {l : List WT} (hl : OKL n l) (ht : TNN l) (hn : 0 < n) : jsF n (scL a l) = jsF n l:=by
  have h:=js_ok hl ht hn
  exact js_eq (sc_ok hl) (sc_tn ht) hn (by rw [go_sc ha];exact h.1) fun i hi=>by rw [go_sc ha];exact h.2 i hi
noncomputable def lsE (n : Nat) (l : List WT) : Int:=if (rxF n l (itF n l (jsF n l)).1 (n + 1) 0).1 = [] then 16 else 0
noncomputable def lsP (n : Nat) (l : List WT) : Rat:=if lsE n l = 0 then (itF n l (jsF n l)).1 else 0
noncomputable def lsS (n : Nat) (l : List WT) : List Rat:=if lsE n l = 0 then (rxF n l (itF n l (jsF n l)).1 (n + 1) 0).1 else []
noncomputable def lsL (n : Nat) (l : List WT) : List Int:=if lsE n l = 0 then (itF n l (jsF n l)).2 else []
theorem ls_sc {a : Rat} (ha : 0 < a) {n : Nat} {l : List WT} (hl : OKL n l) (ht : TNN l) (hn : 0 < n) : lsE n (scL a l) = lsE n l ∧ lsP n (scL a l) = lsP n l * a ∧ lsS n (scL a l) = (lsS n l).map (· * a):=by
  have e : lsE n (scL a l) = lsE n l:=by
    unfold lsE
    rw [js_sc ha hl ht hn,it_sc ha,rx_sc ha]
    simp only [map_nil]
  refine ⟨e,?_,?_⟩
  · unfold lsP
    rw [e,js_sc ha hl ht hn,it_sc ha]
    split
    · rfl
    · grind
  · unfold lsS
    rw [e,js_sc ha hl ht hn,it_sc ha,rx_sc ha]
    split
    · rfl
    · rfl
def gdW (n : Int) (w : WT) : Int:=if w.1 < 0 ∨ w.2.1 < 0 ∨ n ≤ w.1 ∨ n ≤ w.2.1 then 9 else if w.2.2.1.ok = true ∧ 0 ≤ w.2.2.2 ∧ w.2.2.2 ≤ 8 then 0 else 3
def fsW (n : Int) : List WT → Int
  | []=>0
  | w :: l=>if gdW n w = 0 then fsW n l else gdW n w
def chW (n : Int) (l : List WT) : Int:=if n < 1 ∨ 16 < n then 3 else if 64 < l.length then 4 else fsW n l
theorem fs_drop {n : Int} {l : List WT} {j : Nat} (h : j < l.length) (h0 : gdW n (l.getD j default) = 0) : fsW n (l.drop j) = fsW n (l.drop (j + 1)):=by
  rw [List.drop_eq_getElem_cons h]
  have e : l.getD j default = l[j]:=by rw [List.getD_eq_getElem?_getD,List.getElem?_eq_getElem h];rfl
  rw [e] at h0
  show (if gdW n l[j] = 0 then _ else _) = _
  rw [if_pos h0]
theorem fs_stop {n : Int} {l : List WT} {j : Nat} (h : j < l.length) (h0 : gdW n (l.getD j default) ≠ 0) : fsW n (l.drop j) = gdW n (l.getD j default):=by
  rw [List.drop_eq_getElem_cons h]
  have e : l.getD j default = l[j]:=by rw [List.getD_eq_getElem?_getD,List.getElem?_eq_getElem h];rfl
  rw [e] at h0 ⊢
  show (if gdW n l[j] = 0 then _ else _) = _
  rw [if_neg h0]
theorem fs_end {n : Int} {l : List WT} {j : Nat} (h : ¬ j < l.length) : fsW n (l.drop j) = 0:=by
  rw [List.drop_eq_nil_of_le (by omega)];rfl
theorem fs_all {n : Int} {l : List WT} (h : fsW n l = 0) : ∀ i,i < l.length → gdW n (l.getD i default) = 0:=by
  induction l with
  | nil=>intro i hi;exact absurd hi (Nat.not_lt_zero i)
  | cons w l ih =>
    have h0 : gdW n w = 0:=by
      apply Classical.byContradiction
      intro e
      have : fsW n (w :: l) = gdW n w:=if_neg e
      rw [this] at h;exact e h
    have h1 : fsW n l = 0:=by
      have : fsW n (w :: l) = fsW n l:=if_pos h0
      rwa [this] at h
    intro i hi
    cases i with
    | zero=>exact h0
    | succ i=>exact ih h1 i (by simpa using hi)
theorem ch_ok {n : Int} {l : List WT} (h : chW n l = 0) : 1 ≤ n ∧ n ≤ 16 ∧ l.length ≤ 64 ∧ OKL n.toNat l ∧ TNN l ∧ (∀ i,i < l.length → (l.getD i default).2.2.1.ok = true ∧ (l.getD i default).2.2.2 ≤ 8):=by
  unfold chW at h
  split at h
  · cases h
  · split at h
    · cases h
    · rename_i h1 h2
      have h3:=fs_all h
      have h4 : ∀ i,i < l.length → (0 ≤ (l.getD i default).1 ∧ (l.getD i default).1 < n ∧ 0 ≤ (l.getD i default).2.1 ∧ (l.getD i default).2.1 < n) ∧ (l.getD i default).2.2.1.ok = true ∧ 0 ≤ (l.getD i default).2.2.2 ∧ (l.getD i default).2.2.2 ≤ 8:=fun i hi=>by
        have h5:=h3 i hi
        unfold gdW at h5
        split at h5
        · cases h5
        · split at h5
          · rename_i h6 h7
            exact ⟨by omega,h7⟩
          · cases h5
      refine ⟨by omega,by omega,by omega,fun i hi=>?_,fun i hi=>(h4 i hi).2.2.1,fun i hi=>⟨(h4 i hi).2.1,(h4 i hi).2.2.2⟩⟩
      have:=(h4 i hi).1
      unfold okW
      omega
end Go.Proofs.Ytjphllpnhjemjaa
set_option linter.unusedVariables false
set_option linter.unusedSimpArgs false
namespace Go.Proofs.Ytjphllpnhjemjaa
def nnR (r : FR) : Bool:=r.ok && decide (0 ≤ r.val)
def inB (m : Nat) (i : Int) : Bool:=decide (0 ≤ i) && decide (i < (m : Int))
def vlC (n : Int) (l : List WT) (per : FR) (st : List FR) (lo : List Int) : Int :=
  if chW n l = 0 then (if (st.length : Int) ≠ n then 10 else if (per :: st).all nnR = false then 3 else if lo.all (inB l.length) = false then 9 else 0) else chW n l
def slB (l : List WT) (p : Rat) (s : List Rat) : Bool:=(List.range l.length).all fun i=>decide (0 ≤ slF l p s i)
def lpB (l : List WT) (lo : List Int) : Bool:=((List.range lo.length).all fun k=>decide ((l.getD (lo.getD k default).toNat default).2.1 = (l.getD (lo.getD ((k + 1) % lo.length) default).toNat default).1)) && decide (0 < lo.length)
def vfB (l : List WT) (p : Rat) (s : List Rat) (lo : List Int) : Bool:=slB l p s && (if p = 0 then decide (lo.length = 0) else lpB l lo && decide (0 < tuF l lo lo.length) && decide (tiF l lo lo.length = p * (tuF l lo lo.length : Rat)))
theorem slB_fea {l : List WT} {p : Rat} {s : List Rat} (h : slB l p s = true) : FEA l p fun v=>s.getD v default:=fun i hi=>by
  unfold slB at h
  have:=of_decide_eq_true (List.all_eq_true.1 h i (List.mem_range.2 hi))
  unfold slF at this
  grind
theorem lpB_d {l : List WT} {lo : List Int} (h : lpB l lo = true) : LPD l lo ∧ 0 < lo.length:=by
  unfold lpB at h
  rw [Bool.and_eq_true,decide_eq_true_eq] at h
  exact ⟨fun k hk=>of_decide_eq_true (List.all_eq_true.1 h.1 k (List.mem_range.2 hk)),h.2⟩
theorem inB_l {l : List WT} {lo : List Int} (h : lo.all (inB l.length) = true) : INL l lo:=fun k hk=>by
  have hm : lo.getD k default ∈ lo:=by rw [List.getD_eq_getElem?_getD,List.getElem?_eq_getElem hk];exact List.getElem_mem hk
  have:=List.all_eq_true.1 h _ hm
  unfold inB at this
  rw [Bool.and_eq_true,decide_eq_true_eq,decide_eq_true_eq] at this
  exact this
theorem vl_ok {n : Int} {l : List WT} {per : FR} {st : List FR} {lo : List Int} (h : vlC n l per st lo = 0) : chW n l = 0 ∧ (st.length : Int) = n ∧ nnR per = true ∧ st.all nnR = true ∧ INL l lo:=by
  unfold vlC at h
  split at h
  · rename_i h0
    split at h
    · cases h
    · split at h
      · cases h
      · split at h
        · cases h
        · rename_i h1 h2 h3
          have h2' : (per :: st).all nnR = true:=by simpa using h2
          rw [List.all_cons,Bool.and_eq_true] at h2'
          exact ⟨h0,by omega,h2'.1,h2'.2,inB_l (by simpa using h3)⟩
  · rename_i h0;exact absurd h h0
theorem prv_up {n : Nat} {l : List WT} {p d : Rat} {s : List Rat} {lo : List Int} (hl : OKL n l) (ht : TNN l) (hn : 0 < n) (hv : vfB l p s lo = true) (hd : 0 < d) : rsF n l (p + d) (n + 1) 0 ≠ []:=by
  unfold vfB at hv
  rw [Bool.and_eq_true] at hv
  exact (rs_iff hl hn).2 ⟨_,fea_up ht (slB_fea hv.1) (by grind)⟩
theorem prv_dn {n : Nat} {l : List WT} {p d : Rat} {s : List Rat} {lo : List Int} (hl : OKL n l) (hn : 0 < n) (hi : INL l lo) (hv : vfB l p s lo = true) (hd : 0 < d) (hp : 0 ≤ p - d) : rsF n l (p - d) (n + 1) 0 = []:=by
  unfold vfB at hv
  rw [Bool.and_eq_true,if_neg (show ¬ p = 0 by grind),Bool.and_eq_true,Bool.and_eq_true,decide_eq_true_eq,decide_eq_true_eq] at hv
  obtain ⟨_,⟨h1,h2⟩,h3⟩:=hv
  apply Classical.byContradiction
  intro e
  obtain ⟨P,hP⟩:=(rs_iff hl hn).1 e
  exact acc_below hi (lpB_d h1).1 (lpB_d h1).2 h2 h3 hd hP
def exA : List WT:=[(0,1,⟨false,[3],[1]⟩,0),(1,0,⟨false,[2],[1]⟩,1)]
theorem exA_ok : OKL 2 exA ∧ TNN exA:=by
  constructor
  · intro i hi
    match i,hi with
    | 0,_=>exact ⟨by decide,by decide,by decide,by decide⟩
    | 1,_=>exact ⟨by decide,by decide,by decide,by decide⟩
  · intro i hi
    match i,hi with
    | 0,_=>show (0 : Int) ≤ 0;decide
    | 1,_=>show (0 : Int) ≤ 1;decide
theorem exA_j : jsF 2 exA = 1:=js_eq exA_ok.1 exA_ok.2 (by decide) (by decide +kernel) fun i hi=>by
  obtain rfl : i = 0:=by omega
  decide +kernel
theorem exA_p : (itF 2 exA 1).1 = 5 ∧ (rxF 2 exA (itF 2 exA 1).1 3 0).1 = [0,3]:=by decide +kernel
theorem exA_l : lsE 2 exA = 0 ∧ lsP 2 exA = 5 ∧ lsS 2 exA = [0,3]:=by
  have e : lsE 2 exA = 0:=by unfold lsE;rw [exA_j,exA_p.2];exact if_neg (by simp)
  refine ⟨e,?_,?_⟩
  · unfold lsP;rw [if_pos e,exA_j];exact exA_p.1
  · unfold lsS;rw [if_pos e,exA_j];exact exA_p.2
theorem exA_4 : rsF 2 exA 4 3 0 = []:=by decide +kernel
end Go.Proofs.Ytjphllpnhjemjaa
set_option linter.unusedVariables false
set_option linter.unusedSimpArgs false
namespace Go.Proofs.Ytjphllpnhjemjaa
open Go.RowKit (Below)
class Gnd (ρ : MT) : Prop where
  h : ∀ {v : Value} {G G' : Gh},ρ.t v G → ρ.t v G'
instance Gnd.e {x : Value} : Gnd (.ex x):=⟨fun h=>h⟩
instance Gnd.t2 {τ σ : MT} [h : Gnd τ] [k : Gnd σ] : Gnd (.tup2 τ σ):=⟨fun ⟨x,y,e,h1,h2⟩=>⟨x,y,e,h.h h1,k.h h2⟩⟩
instance Gnd.t3 {τ σ ρ : MT} [h : Gnd τ] [k : Gnd σ] [l : Gnd ρ] : Gnd (.tup3 τ σ ρ):=⟨fun ⟨x,y,z,e,h1,h2,h3⟩=>⟨x,y,z,e,h.h h1,k.h h2,l.h h3⟩⟩
section
variable {P : Program} {W0 : World} {a : Act} {w : World} {G : Gh} {o : Oper} {ρ : MT}
theorem OpR.lendG {f b : Nat} {ty : TypeId} {k : Option Nat} {τ : MT} {args : Array Operand} {ats : Array TypeId} (hok : Gok w G) (ho : o.op = .call { callee := .value (.func f), args := args, argTypes := ats }) (hc : callable P f = true) (hg : Gnd ρ)
    (hb : BX.ok ⟨b,ty,k,τ⟩ W0 w G) (h : ∀ G1 v,Gle G G1 → Gok w G1 → Shaped k v → τ.t v G → G1 b = some (.cells v.cells ty (0,0)) → Calls P f (args.map a.eval) w (Ret w G1 ρ)) : OpR P o a w G ρ:=by
  obtain ⟨h1,h2,v,hv,hs,hvt⟩:=hb
  simp only at h1 h2 hv hs hvt
  have hle : Gle G (Gput G b (.cells v.cells ty (0,0))):=fun c x hc=>by
    unfold Gput;split
    · rename_i e;subst e;rw [h2] at hc;cases hc
    · exact hc
  have hok1 : Gok w (Gput G b (.cells v.cells ty (0,0))):=fun c x hc=>by
    unfold Gput at hc;split at hc
    · rename_i e;subst e;cases hc;exact hv
    · exact hok c x hc
  have hcall:=h _ v hle hok1 hs hvt (by simp [Gput])
  intro Q K hK
  have hr : (execOp a.eval o).run P w = .ok (.enter f (args.map a.eval)) w:=by
    simp [execOp,ho,resolve,Act.eval,Deferred.ofValue,invoke,run_callFunc hc]
  unfold Oper.wp
  rw [hr]
  refine Calls.mono hcall fun e w' he=>?_
  obtain ⟨u,G',rfl,hu,hN⟩:=he
  refine hK u w' (fun c=>if c = b then none else G' c) (hg.h hu) ⟨hN.below,fun c hc=>?_,fun c x hc=>?_,fun c x hc=>?_⟩
  · by_cases e : c = b
    · subst e;simp [h2]
    · simp only [if_neg e];rw [hN.agree c hc];unfold Gput;rw [if_neg e]
  · have e : c ≠ b:=fun e=>by rw [e,h2] at hc;cases hc
    simp only [if_neg e]
    exact hN.le c x (hle c x hc)
  · by_cases e : c = b
    · subst e;simp at hc
    · simp only [if_neg e] at hc;exact hN.ok c x hc
end
theorem Args.mono {G G' : Gh} (hle : Gle G G') : ∀ {vs : List Value} {τs : List MT},Args vs τs G → Args vs τs G'
  | [],[],_=>trivial
  | _ :: _,τ :: _,h=>⟨τ.mono hle h.1,Args.mono hle h.2⟩
  | [],_ :: _,h=>h.elim
  | _ :: _,[],h=>h.elim
class OpdX (L : List (Nat × MT)) (B : List BX) (xs : List Operand) (τs : outParam (List MT)) (u : outParam (List Nat)) (i : outParam Nat) (pre : outParam Prop) : Prop where
  h : ∃ xb,B[i]? = some xb ∧ ∀ {a : Act} {G G1 : Gh} {v : Value},pre → Env L u a G → Gle G G1 → Shaped xb.k v → xb.τ.t v G → G1 xb.b = some (.cells v.cells xb.ty (0,0)) → Args (xs.map a.eval) τs G1
section
variable {P : Program} {L : List (Nat × MT)} {B : List BX} {x : Operand} {ys : List Operand} {u v : List Nat} {t ty : TypeId} {τ τb ρ : MT} {τs : List MT} {n nn c b i f : Nat} {k : Option Nat} {α : Type} {T : α → MT} {xs : List α} {pre p2 : Prop} {ats : Array TypeId}
instance OpdX.hd [h : Opd L x (OSL b n c) u] [hb : Bx B b i ty (some nn) τb] [r : AsR τb k α T xs] [l : OpdL L ys τs v] : OpdX L B (x :: ys) (LS k (xs.map T) :: τs) (u ++ v) i (n = xs.length ∧ n ≤ c ∧ n ≤ LIM):=⟨_,hb.m,fun hp e hle hs ht hG =>
  ⟨ROWS.sl (r.h (MT.mono _ hle ht)) hG (by rw [List.length_map];exact hp.1) hp.2.1 hp.2.2 (h.h e.l),Args.mono hle (l.h e.r)⟩⟩
instance OpdX.tl [h : Opd L x τ u] [l : OpdX L B ys τs v i pre] : OpdX L B (x :: ys) (τ :: τs) (u ++ v) i pre:=by
  obtain ⟨xb,h1,h2⟩:=l.h
  exact ⟨xb,h1,fun hp e hle hs ht hG=>⟨τ.mono hle (h.h e.l),h2 hp e.r hle hs ht hG⟩⟩
instance (priority:=400) Op1.lend [h : OpdX L B ys τs u i p2] [c : Con P f τs pre ρ] [g : Gnd ρ] [kb : Cb P f] : Op1 P L B (.call { callee:=.value (.func f),args:=ys.toArray,argTypes:=ats }) (p2 ∧ pre) ρ (u ++ [1000000 + i]):=⟨fun ho hok e hB hp=>by
  obtain ⟨xb,h1,h2⟩:=h.h
  exact .lendG hok ho kb.h g (hB i xb (by simp) h1) fun G1 v hle hok1 hs ht hG=>by
    rw [List.map_toArray]
    exact c.h hok1 (h2 hp.1 e.l hle hs ht hG) hp.2⟩
instance Op1.sla [e : ArE P t n k] [h : Opd L x (PB b) u] : Op1 P L B (.slice t x none none none) (0 < n) (OSL b n n) u:=⟨fun ho hok e' _ hp=>by
  obtain ⟨e0,h3,h4⟩:=e.h
  exact .slAr hok ho h3 h4 (h.h e') (decide_eq_true hp) rfl⟩
instance LitN.add {z z' : Int} {m m' : Nat} [h : LitN z m] [h' : LitN z' m'] : LitN (z + z') (m + m'):=⟨by rw [h.h,h'.h];omega⟩
instance LitN.mul {z z' : Int} {m m' : Nat} [h : LitN z m] [h' : LitN z' m'] : LitN (z * z') (m * m'):=⟨by rw [h.h,h'.h];exact (Int.natCast_mul _ _).symm⟩
variable {y : Operand} {t' : TypeId} {z z' : Int} {m m' j : Nat}
instance Op1.quoN [h : Opd L x (IT z) u] [h2 : Opd L y (IT z') v] [l : LitN z m] [l' : LitN z' m'] : Op1 P L B (.binOp .quo t x y t') (m' ≠ 0 ∧ m ≤ 9223372036854775807) (NT (m / m')) (u ++ v):=⟨fun ho hok e _ hp=>by
  obtain rfl:=l.h;obtain rfl:=l'.h
  exact .nquo hok ho (h.h e.l) (h2.h e.r) hp.1 (i64_w ⟨Int.le_trans (by decide) (Int.natCast_nonneg _),Int.ofNat_le.2 (Nat.le_trans (Nat.div_le_self m m') hp.2)⟩) rfl⟩
instance Op1.remN [h : Opd L x (IT z) u] [h2 : Opd L y (IT z') v] [l : LitN z m] [l' : LitN z' m'] : Op1 P L B (.binOp .rem t x y t') (m' ≠ 0) (NT (m % m')) (u ++ v):=⟨fun ho hok e _ hp=>by
  obtain rfl:=l.h;obtain rfl:=l'.h
  exact .nrem hok ho (h.h e.l) (h2.h e.r) hp rfl⟩
instance Op1.shlN [h : Opd L x (IT z) u] [h2 : Opd L y (IT z') v] [l : LitN z m] [l' : LitN z' m'] : Op1 P L B (.binOp .shl t x y t') (m' < 64 ∧ m * 2 ^ m' ≤ 9223372036854775807) (NT (m * 2 ^ m')) (u ++ v):=⟨fun ho hok e _ hp=>by
  obtain rfl:=l.h;obtain rfl:=l'.h
  refine .shl hok ho (h.h e.l) (h2.h e.r) (by omega) ?_
  have e1 : (min ((m' : Int).toNat) IntKind.i64.bits) = m':=by simp only [Int.toNat_natCast,IntKind.bits];omega
  have e2 : ((m : Int) * 2 ^ m') = ((m * 2 ^ m' : Nat) : Int):=by simp
  rw [e1,e2,i64_w ⟨by omega,by omega⟩];rfl⟩
instance Op1.maxN [h : Opd L x (IT z) u] [h2 : Opd L y (IT z') v] [l : LitN z m] [l' : LitN z' m'] : Op1 P L B (.call { callee:=.builtin .max,args:=#[x,y],argTypes:=ats }) True (NT (max m m')) (u ++ v):=⟨fun ho hok e _ hp=>by
  obtain rfl:=l.h;obtain rfl:=l'.h
  exact .nmax hok ho (h.h e.l) (h2.h e.r) rfl⟩
class LsOf (τ : MT) (k : Option Nat) (α : outParam Type) (T : outParam (α → MT)) (xs : outParam (List α)) : Prop where
  h : ∀ {v : Value} {G : Gh},τ.t v G → (LS k (xs.map T)).t v G
instance LsOf.ll : LsOf (LS k (xs.map T)) k α T xs:=⟨fun h=>h⟩
instance LsOf.lc : LsOf (LSC k (xs.map T)) k α T xs:=⟨fun h=>h.1⟩
instance Op1.cutHiM [s : SlE P t k] [h : Opd L x τ u] [l : LsOf τ k α T xs] [h2 : Opd L y (IT z) v] [lz : LitN z j] : Op1 P L B (.slice t x none (some y) none) (j ≤ xs.length) (LS k ((xs.take j).map T)) (u ++ v):=⟨fun ho hok e _ hp=>by
  obtain ⟨e',h3,h4⟩:=s.h
  exact .cutHiM hok ho h3 h4 (l.h (h.h e.l)) (h2.h e.r) lz.h hp⟩
instance Op1.cutLoM [s : SlE P t k] [h : Opd L x τ u] [l : LsOf τ k α T xs] [h2 : Opd L y (IT z) v] [lz : LitN z j] : Op1 P L B (.slice t x (some y) none none) (j ≤ xs.length) (LS k ((xs.drop j).map T)) (u ++ v):=⟨fun ho hok e _ hp=>by
  obtain ⟨e',h3,h4⟩:=s.h
  exact .cutLoM hok ho h3 h4 (l.h (h.h e.l)) (h2.h e.r) lz.h hp⟩
instance Op1.cutLHM {y2 : Operand} {z2 : Int} {j2 : Nat} {v2 : List Nat} [s : SlE P t k] [h : Opd L x τ u] [l : LsOf τ k α T xs] [h2 : Opd L y (IT z) v] [lz : LitN z j] [h3 : Opd L y2 (IT z2) v2] [lz2 : LitN z2 j2] : Op1 P L B (.slice t x (some y) (some y2) none) (j ≤ j2 ∧ j2 ≤ xs.length) (LS k (((xs.take j2).drop j).map T)) (u ++ (v ++ v2)):=⟨fun ho hok e _ hp=>by
  obtain ⟨e',h4,h5⟩:=s.h
  exact .cutLHM hok ho h4 h5 (l.h (h.h e.l)) (h2.h e.r.l) lz.h (h3.h e.r.r) lz2.h hp.1 hp.2⟩
instance (priority:=1100) Op1.lenC [s : SlE P t k] [h : Opd L x (LSC k (xs.map T)) u] : Op1 P L B (.call { callee:=.builtin .len,args:=#[x],argTypes:=#[t] }) True (NT xs.length) u:=⟨fun ho hok e _ _=>by obtain ⟨e',h1,h2⟩:=s.h;exact .lenM hok ho h1 (h.h e).1 rfl⟩
instance Op1.ixMC [Inhabited α] [s : SlE P t k] [h : Opd L x (LSC k (xs.map T)) u] [h2 : Opd L y (IT z) v] : Op1 P L B (.indexAddr t x y) (0 ≤ z ∧ z < xs.length) (PE k (T (xs.getD z.toNat default))) (u ++ v):=⟨fun ho hok e _ hp=>by
  obtain ⟨e',h3,h4⟩:=s.h
  exact .ixM hok ho h3 h4 (h.h e.l).1 (h2.h e.r) (i:=z.toNat) (by omega) (by omega)⟩
instance (priority:=1100) Op1.ixMCN [Inhabited α] [s : SlE P t k] [h : Opd L x (LSC k (xs.map T)) u] [h2 : Opd L y (NT j) v] : Op1 P L B (.indexAddr t x y) (j < xs.length) (PE k (T (xs.getD j default))) (u ++ v):=⟨fun ho hok e _ hp=>by
  obtain ⟨e',h3,h4⟩:=s.h
  exact .ixM hok ho h3 h4 (h.h e.l).1 (h2.h e.r) rfl hp⟩
end
section
variable {fs : List (Option Nat × MT)} {n i : Nat} {τ τ' : MT} {k kt : Option Nat}
instance (priority:=500) PrtL.s5 [h : PrtL fs i kt τ] : PrtL ((some 5,τ') :: fs) (i + 5) kt τ:=h.skip rfl
instance (priority:=500) UpdL.s5 {fs' : List (Option Nat × MT)} [h : UpdL fs i kt τ fs'] : UpdL ((some 5,τ') :: fs) (i + 5) kt τ ((some 5,τ') :: fs'):=h.skip rfl
instance ShN.s7 [h : ShN fs n] : ShN ((some 7,τ) :: fs) (n + 7):=⟨by rw [offs_cons,h.h];simp;omega⟩
instance (priority:=500) PrtL.s7 [h : PrtL fs i kt τ] : PrtL ((some 7,τ') :: fs) (i + 7) kt τ:=h.skip rfl
instance (priority:=500) UpdL.s7 {fs' : List (Option Nat × MT)} [h : UpdL fs i kt τ fs'] : UpdL ((some 7,τ') :: fs) (i + 7) kt τ ((some 7,τ') :: fs'):=h.skip rfl
instance ShN.s8 [h : ShN fs n] : ShN ((some 8,τ) :: fs) (n + 8):=⟨by rw [offs_cons,h.h];simp;omega⟩
instance (priority:=500) PrtL.s8 [h : PrtL fs i kt τ] : PrtL ((some 8,τ') :: fs) (i + 8) kt τ:=h.skip rfl
instance (priority:=500) UpdL.s8 {fs' : List (Option Nat × MT)} [h : UpdL fs i kt τ fs'] : UpdL ((some 8,τ') :: fs) (i + 8) kt τ ((some 8,τ') :: fs'):=h.skip rfl
instance ShN.s9 [h : ShN fs n] : ShN ((some 9,τ) :: fs) (n + 9):=⟨by rw [offs_cons,h.h];simp;omega⟩
instance (priority:=500) PrtL.s9 [h : PrtL fs i kt τ] : PrtL ((some 9,τ') :: fs) (i + 9) kt τ:=h.skip rfl
instance (priority:=500) UpdL.s9 {fs' : List (Option Nat × MT)} [h : UpdL fs i kt τ fs'] : UpdL ((some 9,τ') :: fs) (i + 9) kt τ ((some 9,τ') :: fs'):=h.skip rfl
instance ShN.s10 [h : ShN fs n] : ShN ((some 10,τ) :: fs) (n + 10):=⟨by rw [offs_cons,h.h];simp;omega⟩
instance (priority:=500) PrtL.s10 [h : PrtL fs i kt τ] : PrtL ((some 10,τ') :: fs) (i + 10) kt τ:=h.skip rfl
instance (priority:=500) UpdL.s10 {fs' : List (Option Nat × MT)} [h : UpdL fs i kt τ fs'] : UpdL ((some 10,τ') :: fs) (i + 10) kt τ ((some 10,τ') :: fs'):=h.skip rfl
instance ShN.s12 [h : ShN fs n] : ShN ((some 12,τ) :: fs) (n + 12):=⟨by rw [offs_cons,h.h];simp;omega⟩
instance (priority:=500) PrtL.s12 [h : PrtL fs i kt τ] : PrtL ((some 12,τ') :: fs) (i + 12) kt τ:=h.skip rfl
instance (priority:=500) UpdL.s12 {fs' : List (Option Nat × MT)} [h : UpdL fs i kt τ fs'] : UpdL ((some 12,τ') :: fs) (i + 12) kt τ ((some 12,τ') :: fs'):=h.skip rfl
instance ShN.s13 [h : ShN fs n] : ShN ((some 13,τ) :: fs) (n + 13):=⟨by rw [offs_cons,h.h];simp;omega⟩
instance (priority:=500) PrtL.s13 [h : PrtL fs i kt τ] : PrtL ((some 13,τ') :: fs) (i + 13) kt τ:=h.skip rfl
instance (priority:=500) UpdL.s13 {fs' : List (Option Nat × MT)} [h : UpdL fs i kt τ fs'] : UpdL ((some 13,τ') :: fs) (i + 13) kt τ ((some 13,τ') :: fs'):=h.skip rfl
instance ShN.s14 [h : ShN fs n] : ShN ((some 14,τ) :: fs) (n + 14):=⟨by rw [offs_cons,h.h];simp;omega⟩
instance (priority:=500) PrtL.s14 [h : PrtL fs i kt τ] : PrtL ((some 14,τ') :: fs) (i + 14) kt τ:=h.skip rfl
instance (priority:=500) UpdL.s14 {fs' : List (Option Nat × MT)} [h : UpdL fs i kt τ fs'] : UpdL ((some 14,τ') :: fs) (i + 14) kt τ ((some 14,τ') :: fs'):=h.skip rfl
instance ShN.s15 [h : ShN fs n] : ShN ((some 15,τ) :: fs) (n + 15):=⟨by rw [offs_cons,h.h];simp;omega⟩
instance (priority:=500) PrtL.s15 [h : PrtL fs i kt τ] : PrtL ((some 15,τ') :: fs) (i + 15) kt τ:=h.skip rfl
instance (priority:=500) UpdL.s15 {fs' : List (Option Nat × MT)} [h : UpdL fs i kt τ fs'] : UpdL ((some 15,τ') :: fs) (i + 15) kt τ ((some 15,τ') :: fs'):=h.skip rfl
instance ShN.s16 [h : ShN fs n] : ShN ((some 16,τ) :: fs) (n + 16):=⟨by rw [offs_cons,h.h];simp;omega⟩
instance (priority:=500) PrtL.s16 [h : PrtL fs i kt τ] : PrtL ((some 16,τ') :: fs) (i + 16) kt τ:=h.skip rfl
instance (priority:=500) UpdL.s16 {fs' : List (Option Nat × MT)} [h : UpdL fs i kt τ fs'] : UpdL ((some 16,τ') :: fs) (i + 16) kt τ ((some 16,τ') :: fs'):=h.skip rfl
instance ShN.s18 [h : ShN fs n] : ShN ((some 18,τ) :: fs) (n + 18):=⟨by rw [offs_cons,h.h];simp;omega⟩
instance (priority:=500) PrtL.s18 [h : PrtL fs i kt τ] : PrtL ((some 18,τ') :: fs) (i + 18) kt τ:=h.skip rfl
instance (priority:=500) UpdL.s18 {fs' : List (Option Nat × MT)} [h : UpdL fs i kt τ fs'] : UpdL ((some 18,τ') :: fs) (i + 18) kt τ ((some 18,τ') :: fs'):=h.skip rfl
instance ShN.s20 [h : ShN fs n] : ShN ((some 20,τ) :: fs) (n + 20):=⟨by rw [offs_cons,h.h];simp;omega⟩
instance (priority:=500) PrtL.s20 [h : PrtL fs i kt τ] : PrtL ((some 20,τ') :: fs) (i + 20) kt τ:=h.skip rfl
instance (priority:=500) UpdL.s20 {fs' : List (Option Nat × MT)} [h : UpdL fs i kt τ fs'] : UpdL ((some 20,τ') :: fs) (i + 20) kt τ ((some 20,τ') :: fs'):=h.skip rfl
end
end Go.Proofs.Ytjphllpnhjemjaa
set_option linter.unusedVariables false
set_option linter.unusedSimpArgs false
namespace Go.Proofs.Ytjphllpnhjemjaa
open Go.RowKit (Below)
abbrev NM (n : Nat) (l : List Rat) : MT:=LS (some 3) (l.map (QC n))
abbrev TWR (n : Nat) (rs : List (List Rat)) : MT:=PTS [(none,LS none (rs.map (NM n)))]
abbrev BPT (n : Nat) (x : Int × List Rat × List Rat) : MT:=PTS [(none,IT x.1),(some 2,PTS [(none,NM n x.2.1),(none,NM n x.2.2)])]
theorem LS.shn {k : Option Nat} {τs : List MT} {v : Value} {G : Gh} (h : (LS k τs).t v G) : Shaped none v:=by obtain ⟨A,c,rfl,_⟩:=h;exact ⟨rfl,rfl⟩
instance {k : Option Nat} {τs : List MT} : ShK (LS k τs) none:=⟨LS.shn⟩
instance {k : Option Nat} {τs : List MT} : ShK (LSC k τs) none:=⟨fun h=>LS.shn h.1⟩
class Fit {α : Type} (τ : MT) (T : α → MT) (x : outParam α) (p : outParam Prop) : Prop where
  h : p → ∀ {v : Value} {G : Gh},τ.t v G → (T x).t v G
class FitL {α : Type} (τs : List MT) (T : α → MT) (xs : outParam (List α)) (p : outParam Prop) : Prop where
  h : p → τs.length = xs.length ∧ ∀ (i : Nat) (τ : MT),τs[i]? = some τ → ∃ x,xs[i]? = some x ∧ ∀ {v : Value} {G : Gh},τ.t v G → (T x).t v G
section
variable {α : Type} {T : α → MT} {τ τ' : MT} {τs : List MT} {x : α} {xs ys : List α} {p p' : Prop} {b c : Nat} {k : Option Nat}
instance (priority:=500) Fit.of [h : AsT τ T x] : Fit τ T x True:=⟨fun _ _ _ hv=>h.h hv⟩
instance Fit.q {z : Rat} : Fit (QC c z) (QC b) z (c ≤ b):=⟨fun e _ _ h=>QC.up h e⟩
instance FitL.nil : FitL [] T [] True:=⟨fun _=>⟨rfl,fun i τ h=>by simp at h⟩⟩
instance FitL.cons [h : Fit τ T x p] [l : FitL τs T xs p'] : FitL (τ :: τs) T (x :: xs) (p ∧ p'):=⟨fun e=>⟨by simp [(l.h e.2).1],fun i σ hi=>by
  cases i with
  | zero=>cases hi;exact ⟨x,rfl,h.h e.1⟩
  | succ i=>exact (l.h e.2).2 i σ (by simpa using hi)⟩⟩
class FitM {β : Type} (U : β → MT) (T : α → MT) (f : outParam (β → α)) (p : outParam Prop) : Prop where
  h : p → ∀ {y : β} {v : Value} {G : Gh},(U y).t v G → (T (f y)).t v G
instance (priority:=600) FitL.m {β : Type} {U : β → MT} {f : β → α} {zs : List β} [h : FitM U T f p] : FitL (zs.map U) T (zs.map f) p:=⟨fun e=>⟨by simp,fun i τ hi=>by
  rw [List.getElem?_map] at hi
  cases hz : zs[i]? with
  | none=>rw [hz] at hi;cases hi
  | some z=>rw [hz] at hi;cases hi;exact ⟨f z,by simp [hz],fun hv=>h.h e hv⟩⟩⟩
instance FitL.q {zs : List Rat} : FitL (zs.map (QC c)) (QC b) zs (c ≤ b):=⟨fun e=>⟨by simp,fun i τ hi=>by
  rw [List.getElem?_map] at hi
  cases hz : zs[i]? with
  | none=>rw [hz] at hi;cases hi
  | some z=>rw [hz] at hi;cases hi;exact ⟨z,rfl,fun hv=>QC.up hv e⟩⟩⟩
theorem FitL.ls (l : FitL τs T xs p) (e : p) {v : Value} {G : Gh} (h : (LS k τs).t v G) : (LS k (xs.map T)).t v G:=AsTL.ls ⟨(l.h e).1,fun i τ hi=>(l.h e).2 i τ hi⟩ h
class LsQ (τ : MT) (τs : outParam (List MT)) : Prop where
  h : ∀ {v : Value} {G : Gh},τ.t v G → (LS (some 3) τs).t v G
instance LsQ.l : LsQ (LS (some 3) τs) τs:=⟨fun h=>h⟩
instance LsQ.lc : LsQ (LSC (some 3) τs) τs:=⟨fun h=>h.1⟩
instance LsQ.n : LsQ (.ex (.slice none 0 0)) []:=⟨fun h=>by cases h;exact LS.nil⟩
instance Fit.nm {l : List Rat} [a : LsQ τ τs] [h : FitL τs (QC b) l p] : Fit τ (NM b) l p:=⟨fun e _ _ hv=>h.ls e (a.h hv)⟩
instance Fit.bp {z : Int} {τ1 τ2 : MT} {l1 l2 : List Rat} {p1 p2 : Prop} [h1 : Fit τ1 (NM b) l1 p1] [h2 : Fit τ2 (NM b) l2 p2] : Fit (PTS [(none,IT z),(some 2,PTS [(none,τ1),(none,τ2)])]) (BPT b) (z,l1,l2) (p1 ∧ p2):=⟨fun e v G hv=>by
  obtain ⟨us,e1,a1,a2⟩:=hv
  refine ⟨us,e1,a1,fun i f u hf hu=>?_⟩
  match i,hf with
  | 0,hf=>exact a2 0 _ u (by cases hf;rfl) hu
  | 1,hf =>
    cases hf
    obtain ⟨b1,us2,e2,c1,c2⟩:=a2 1 _ u rfl hu
    refine ⟨b1,us2,e2,c1,fun j g y hg hy=>?_⟩
    match j,hg with
    | 0,hg=>cases hg;obtain ⟨d1,d2⟩:=c2 0 _ y rfl hy;exact ⟨d1,h1.h e.1 d2⟩
    | 1,hg=>cases hg;obtain ⟨d1,d2⟩:=c2 1 _ y rfl hy;exact ⟨d1,h2.h e.2 d2⟩⟩
instance (priority:=900) Cv.fit {xs ys : List α} [h : FitL τs T xs p] : Cv (LSC k τs) (LS k (ys.map T)) (p ∧ xs = ys):=⟨fun e v G hv=>by
  obtain ⟨e1,rfl⟩:=e;exact h.ls e1 hv.1⟩
instance (priority:=900) Cv.fitl {xs ys : List α} [h : FitL τs T xs p] : Cv (LS k τs) (LS k (ys.map T)) (p ∧ xs = ys):=⟨fun e v G hv=>by
  obtain ⟨e1,rfl⟩:=e;exact h.ls e1 hv⟩
class NU (τ : MT) (τ' : outParam MT) : Prop where
  h : ∀ {v : Value} {G : Gh},τ.t v G → τ'.t v G
theorem LS.els {v : Value} {G : Gh} (h : (LS k τs).t v G) {σs : List MT} (hl : τs.length = σs.length) (f : ∀ (i : Nat) (τ σ : MT),τs[i]? = some τ → σs[i]? = some σ → ∀ {v : Value},τ.t v G → σ.t v G) : (LS k σs).t v G:=by
  obtain ⟨A,c',h1,h2,h3,h4⟩:=h
  refine ⟨A,c',by rw [h1,hl],by rw [← hl];exact h2,by rw [← hl];exact h3,fun i σ hi=>?_⟩
  have hlt : i < τs.length:=by rw [hl];exact (List.getElem?_eq_some_iff.1 hi).1
  obtain ⟨b,off,e3,e4⟩:=h4 i τs[i] (List.getElem?_eq_getElem hlt)
  exact ⟨b,off,e3,e4.cv (f i _ σ (List.getElem?_eq_getElem hlt) hi)⟩
class Grow {α : Type} (T : Nat → α → MT) : Prop where
  h : ∀ {n m : Nat} {x : α} {v : Value} {G : Gh},(T n x).t v G → n ≤ m → (T m x).t v G
instance : Grow QC:=⟨QC.up⟩
class Rdn {α : Type} (τ : MT) (T : Nat → α → MT) (n : outParam Nat) (x : outParam α) : Prop where
  h : ∀ {v : Value} {G : Gh},τ.t v G → (T n x).t v G
class RdnL {α : Type} (τs : List MT) (T : Nat → α → MT) (n : outParam Nat) (xs : outParam (List α)) : Prop where
  h : τs.length = xs.length ∧ ∀ (i : Nat) (τ σ : MT),τs[i]? = some τ → (xs.map (T n))[i]? = some σ → ∀ {v : Value} {G : Gh},τ.t v G → σ.t v G
instance Rdn.q {z : Rat} : Rdn (QC b z) QC b z:=⟨fun h=>h⟩
instance RdnL.nil {T : Nat → α → MT} : RdnL [] T 0 []:=⟨rfl,fun i τ σ h=>by simp at h⟩
instance RdnL.m {T : Nat → α → MT} : RdnL (xs.map (T b)) T b xs:=⟨by simp,fun i τ σ h1 h2 {v G} h=>by rw [h1] at h2;cases h2;exact h⟩
instance (priority:=800) RdnL.cons {T : Nat → α → MT} [g : Grow T] [h : Rdn τ T b x] [l : RdnL τs T c xs] : RdnL (τ :: τs) T (max b c) (x :: xs):=⟨by simp [l.h.1],fun i σ ρ h1 h2 {v G} hv=>by
  cases i with
  | zero=>cases h1;cases h2;exact g.h (h.h hv) (Nat.le_max_left _ _)
  | succ i =>
    simp only [List.map_cons,List.getElem?_cons_succ,List.getElem?_map] at h1 h2
    cases hx : xs[i]? with
    | none=>rw [hx] at h2;cases h2
    | some y=>rw [hx] at h2;cases h2;exact g.h (l.h.2 i σ _ h1 (by rw [List.getElem?_map,hx];rfl) hv) (Nat.le_max_right _ _)⟩
theorem RdnL.ls {T : Nat → α → MT} (l : RdnL τs T b xs) {v : Value} {G : Gh} (h : (LS k τs).t v G) : (LS k (xs.map (T b))).t v G:=LS.els h (by rw [l.h.1,List.length_map]) fun i τ σ h1 h2 _ hv=>l.h.2 i τ σ h1 h2 hv
theorem NM.up {l : List Rat} {v : Value} {G : Gh} (h : (NM b l).t v G) (e : b ≤ c) : (NM c l).t v G:=LS.convM (T:=QC b) (U:=QC c) (f:=fun r=>r) h (by simp) fun _ _ _ _ hv=>QC.up hv e
instance : Grow NM:=⟨NM.up⟩
instance Rdn.nm {l : List Rat} [a : LsQ τ τs] [h : RdnL τs QC b l] : Rdn τ NM b l:=⟨fun hv=>h.ls (a.h hv)⟩
instance NU.of {l : List Rat} [h : Rdn τ NM b l] : NU τ (NM b l):=⟨fun hv=>h.h hv⟩
class LsN (τ : MT) (τs : outParam (List MT)) : Prop where
  h : ∀ {v : Value} {G : Gh},τ.t v G → (LS none τs).t v G
instance LsN.l : LsN (LS none τs) τs:=⟨fun h=>h⟩
instance LsN.lc : LsN (LSC none τs) τs:=⟨fun h=>h.1⟩
instance LsN.n : LsN (.ex (.slice none 0 0)) []:=⟨fun h=>by cases h;exact LS.nil⟩
abbrev RTS (n : Nat) (rs : List (List Rat)) : MT:=LS none (rs.map (NM n))
instance Rdn.rts {rs : List (List Rat)} [a : LsN τ τs] [h : RdnL τs NM b rs] : Rdn τ RTS b rs:=⟨fun hv=>h.ls (a.h hv)⟩
instance NU.rts {rs : List (List Rat)} [h : Rdn τ RTS b rs] : NU τ (RTS b rs):=⟨fun hv=>h.h hv⟩
theorem pts1 (f : ∀ {v : Value} {G : Gh},τ.t v G → τ'.t v G) {v : Value} {G : Gh} (h : (PTS [(k,τ)]).t v G) : (PTS [(k,τ')]).t v G:=by
  obtain ⟨us,e,a1,a2⟩:=h
  refine ⟨us,e,a1,fun i p u hp hu=>?_⟩
  match i,hp with
  | 0,hp=>cases hp;obtain ⟨d1,d2⟩:=a2 0 _ u rfl hu;exact ⟨d1,f d2⟩
instance NU.tw {rs : List (List Rat)} [h : Rdn τ RTS b rs] : NU (PTS [(none,τ)]) (TWR b rs):=⟨fun hv=>pts1 (τ':=RTS b rs) h.h hv⟩
instance Fit.rts {rs : List (List Rat)} [a : LsN τ τs] [h : FitL τs (NM b) rs p] : Fit τ (RTS b) rs p:=⟨fun e _ _ hv=>h.ls e (a.h hv)⟩
instance (priority:=900) Cv.tw {rs rs' : List (List Rat)} [h : Fit τ (RTS b) rs p] : Cv (PTS [(none,τ)]) (TWR b rs') (p ∧ rs = rs'):=⟨fun e _ _ hv=>by
  obtain ⟨e1,rfl⟩:=e;exact pts1 (τ':=RTS b rs) (h.h e1) hv⟩
end
end Go.Proofs.Ytjphllpnhjemjaa
set_option linter.unusedVariables false
set_option linter.unusedSimpArgs false
namespace Go.Proofs.Ytjphllpnhjemjaa
open Go.RowKit (Below)
def RetW {α : Type} (w : World) (G : Gh) (k : Option Nat) (e : TypeId) (T : α → MT) (xs : List α) : Ending → World → Prop:=fun en w' =>
  ∃ b c G',en = .returned (.slice (some ⟨b,0,none⟩) xs.length c) ∧ Nxt w G w' G' ∧ BX.ok ⟨b,e,some (c * k.getD 1),ROWS k (xs.map T)⟩ w w' G' ∧ xs.length ≤ c
class ConO {α : outParam Type} (P : Program) (f : Nat) (τs : List MT) (pre : outParam Prop) (k : outParam (Option Nat)) (e : outParam TypeId) (T : outParam (α → MT)) (xs : outParam (List α)) : Prop where
  h : ∀ {vs : List Value} {w : World} {G : Gh},Gok w G → Args vs τs G → pre → Calls P f vs.toArray w (RetW w G k e T xs)
section
variable {P : Program} {f : Nat} {τ1 τ2 τ3 : MT} {pre : Prop} {k : Option Nat} {e : TypeId} {α : Type} {T : α → MT} {xs : List α}
theorem ConO.o1 (h : ∀ {v1 : Value} {w : World} {G : Gh},Gok w G → τ1.t v1 G → pre → Calls P f #[v1] w (RetW w G k e T xs)) : ConO P f [τ1] pre k e T xs:=⟨fun {vs _ _} hok ha hp=>match vs,ha with | [_],ha=>h hok ha.1 hp⟩
theorem ConO.o2 (h : ∀ {v1 v2 : Value} {w : World} {G : Gh},Gok w G → τ1.t v1 G → τ2.t v2 G → pre → Calls P f #[v1,v2] w (RetW w G k e T xs)) : ConO P f [τ1,τ2] pre k e T xs:=⟨fun {vs _ _} hok ha hp=>match vs,ha with | [_,_],ha=>h hok ha.1 ha.2.1 hp⟩
theorem ConO.o3 (h : ∀ {v1 v2 v3 : Value} {w : World} {G : Gh},Gok w G → τ1.t v1 G → τ2.t v2 G → τ3.t v3 G → pre → Calls P f #[v1,v2,v3] w (RetW w G k e T xs)) : ConO P f [τ1,τ2,τ3] pre k e T xs:=⟨fun {vs _ _} hok ha hp=>match vs,ha with | [_,_,_],ha=>h hok ha.1 ha.2.1 ha.2.2.1 hp⟩
section
variable {w : World} {G : Gh} {v1 v2 v3 : Value}
theorem ConO.c1 (c : ConO P f [τ1] pre k e T xs) (hok : Gok w G) (h1 : τ1.t v1 G) (hp : pre) : Calls P f #[v1] w (RetW w G k e T xs):=c.h (vs:=[v1]) hok ⟨h1,trivial⟩ hp
theorem ConO.c2 (c : ConO P f [τ1,τ2] pre k e T xs) (hok : Gok w G) (h1 : τ1.t v1 G) (h2 : τ2.t v2 G) (hp : pre) : Calls P f #[v1,v2] w (RetW w G k e T xs):=c.h (vs:=[v1,v2]) hok ⟨h1,h2,trivial⟩ hp
theorem ConO.c3 (c : ConO P f [τ1,τ2,τ3] pre k e T xs) (hok : Gok w G) (h1 : τ1.t v1 G) (h2 : τ2.t v2 G) (h3 : τ3.t v3 G) (hp : pre) : Calls P f #[v1,v2,v3] w (RetW w G k e T xs):=c.h (vs:=[v1,v2,v3]) hok ⟨h1,h2,h3,trivial⟩ hp
end
end
section
variable {P : Program} {L L' : List (Nat × MT)} {B B' Bh : List BX} {ys : List Operand} {u v : List Nat} {t ty e : TypeId} {τ τ' τb : MT} {τs : List MT} {n c b i j f d : Nat} {k : Option Nat} {α : Type} {T : α → MT} {xs : List α}
variable {W0 : World} {G0 : Gh} {N : Nat} {a : Act} {w : World} {G : Gh} {Q : Exit → Act → World → Prop} {pre : Prop} {rest ops : List Oper} {arr : Array Oper} {pos : String} {aft : Array Edge} {ats : Array TypeId} {fn : Func} {σs : List MT}
theorem W.co [h : OpdL L ys τs u] [cn : ConO P f τs pre k e T xs] [kb : Cb P f] (hp : pre) (K : ∀ b c a w G, xs.length ≤ c → St W0 G0 N ((d, OSL b xs.length c) :: L) (⟨b, e, some (c * k.getD 1), ROWS k (xs.map T)⟩ :: B) a w G → wpList P arr Q rest a w) (hdN : (decide (d < N)) = true := by rfl) (hf : fresh d L = true := by rfl) :
    St W0 G0 N L B a w G → wpList P arr Q (⟨some d,.call { callee:=.value (.func f),args:=ys.toArray,argTypes:=ats },ty,pos,aft,none⟩ :: rest) a w:=fun S =>
  wpList_plain rfl fun K' hK=>by
    have hr : (execOp a.eval ⟨some d,.call { callee:=.value (.func f),args:=ys.toArray,argTypes:=ats },ty,pos,aft,none⟩).run P w = .ok (.enter f (ys.toArray.map a.eval)) w:=by
      simp [execOp,resolve,Act.eval,Deferred.ofValue,invoke,run_callFunc kb.h]
    unfold Oper.wp
    rw [hr]
    have hc : Calls P f (ys.toArray.map a.eval) w (RetW w G k e T xs):=by rw [List.map_toArray];exact cn.h S.ok (h.h (S.env u)) hp
    refine Calls.mono hc fun en w' he=>?_
    obtain ⟨b,c,G',rfl,hn,hb,hle⟩:=he
    have S1 : St W0 G0 N L (⟨b,e,some (c * k.getD 1),ROWS k (xs.map T)⟩ :: B) a w' G':={
      nxt:=S.nxt.trans hn
      size:=S.size
      dfr:=S.dfr
      ty:=fun i p h=>p.2.mono hn.le (S.ty i p h)
      bx:=fun i y h=>by
        cases i with
        | zero=>cases h;exact ⟨Nat.le_trans S.nxt.below.size hb.1,hb.2⟩
        | succ i=>exact (S.bx i y h).nxt hn
      nd:=fun i j y z hy hz hij=>by
        have h1:=hb.1
        cases i with
        | zero =>
          cases hy
          cases j with
          | zero=>exact absurd rfl hij
          | succ j=>have:=(S.bx j z hz).lt;show b ≠ z.b;simp only at h1;omega
        | succ i =>
          cases j with
          | zero=>cases hz;have:=(S.bx i y hy).lt;show y.b ≠ b;simp only at h1;omega
          | succ j=>exact S.nd i j y z hy hz (by omega) }
    exact hK _ _ (K b c _ _ G' hle (S1.put (of_decide_eq_true hdN) hf rfl (Nxt.refl S1.ok)))
theorem W.rto {xs' : List α} (t : Nat) [hl : Lk L t (OSL b n c)] [hb : Bx B b i e (some j) τb] [r : AsR τb k α T xs] (hr : fn.results = #[.tmp t]) (hp : xs = xs' ∧ n = xs.length ∧ j = c * k.getD 1 ∧ n ≤ c) : St W0 G0 N L B a w G → bodyPost P fn (RetW W0 G0 k e T xs') .ret a w:=fun S=>by
  obtain ⟨rfl,rfl,rfl,hle⟩:=hp
  obtain ⟨h1,h2,v,hv,hs,ht⟩:=S.bx i _ hb.m
  have hm : tm a t = .slice (some ⟨b,0,none⟩) xs.length c:=S.mem hl.m
  exact bodyPost_ret (v:=.slice (some ⟨b,0,none⟩) xs.length c) (by have:=results_tmp hr a.tmps P w;rw [this];exact congrArg (fun v=>Result.ok v w) hm) S.dfr ⟨b,c,G,rfl,S.nxt,⟨h1,h2,v,hv,hs,r.h ht⟩,hle⟩
theorem W.casth {x : BX} {q : Prop} (f : ∀ {v : Value} {G : Gh},x.τ.t v G → τ'.t v G) (K : St W0 G0 N L (⟨x.b,x.ty,x.k,τ'⟩ :: B) a w G → q) : St W0 G0 N L (x :: B) a w G → q:=fun S=>K (S.castBox 0 rfl fun v hv _=>f hv)
class Rot (B : List BX) (x : BX) (B' : outParam (List BX)) : Prop where
  h : B' = B ++ [x]
instance Rot.nil {x : BX} : Rot [] x [x]:=⟨rfl⟩
instance Rot.cons {x y : BX} {B B' : List BX} [h : Rot B x B'] : Rot (y :: B) x (y :: B'):=⟨by rw [h.h];rfl⟩
instance (priority:=1200) RunS.own {all ops : List Oper} {i : Nat} {als : List (Nat × Nat × Option Nat)} {sd : List Nat} {op : Op} [OwnAt d] : RunS P B all i L als sd (⟨some d,op,ty,pos,aft,none⟩ :: ops) True [] (⟨some d,op,ty,pos,aft,none⟩ :: ops):=⟨.stop⟩
abbrev QP (p : Nat × Rat) : MT:=QC p.1 p.2
instance AsT.qp {n : Nat} {z : Rat} : AsT (QC n z) QP (n,z):=⟨fun h=>h⟩
instance (priority:=900) Cv.qpr {l : List Rat} {ys : List (Nat × Rat)} {n : Nat} {k : Option Nat} : Cv (ROWS k (l.map (QC n))) (ROWS k (ys.map QP)) (ys = l.map fun x=>(n,x)):=⟨fun e v G h=>by subst e;rw [List.map_map];exact h⟩
instance FitL.qp {ps : List (Nat × Rat)} {n : Nat} : FitL (ps.map QP) (QC n) (ps.map Prod.snd) (∀ p ∈ ps,p.1 ≤ n):=⟨fun e=>⟨by simp,fun i τ hi=>by
  rw [List.getElem?_map] at hi
  cases hz : ps[i]? with
  | none=>rw [hz] at hi;cases hi
  | some z=>rw [hz] at hi;cases hi;exact ⟨z.2,by simp [hz],fun hv=>QC.up hv (e z (List.mem_of_getElem? hz))⟩⟩⟩
instance {n : Nat} : AsT (FX 1 default) (QC (n + 1)) 0:=⟨fun h=>(Cv.fq (n:=1) (k:=n + 1)).h ⟨by omega,rfl,rfl⟩ h⟩
instance {n : Nat} : Rdn (FX n default) QC n 0:=⟨fun h=>(Cv.fq (n:=n) (k:=n)).h ⟨Nat.le_refl _,rfl,rfl⟩ h⟩
instance {n m : Nat} : Fit (FX n default) (QC m) 0 (n ≤ m):=⟨fun e _ _ h=>(Cv.fq (n:=n) (k:=m)).h ⟨e,rfl,rfl⟩ h⟩
def SBq (n : Nat) (l : List Nat) : MT:=⟨fun v G=>1 ≤ n ∧ (SB n l).t v G,fun hle h=>⟨h.1,(SB n l).mono hle h.2⟩⟩
instance {n : Nat} {l : List Nat} : ShK (SBq n l) none:=⟨fun h=>SL.shp h.2.2⟩
instance AsW.sbq {n : Nat} {l : List Nat} : AsW (SBq n l) l:=⟨fun h=>h.2.2⟩
theorem QC.one {n : Nat} {z : Rat} {v : Value} {G : Gh} (h : (QC n z).t v G) : 1 ≤ n:=one_le_of_lt z.den_nz h.1.2
instance (priority:=800) Prt.qc0 {n : Nat} {z : Rat} : Prt (QC n z) 0 none (BT (FR.of z).s):=⟨fun h' hs=>(Prt.fx0 (nn:=n) (r:=FR.of z)).h (QC.toFX h' (QC.one h')) hs⟩
instance (priority:=800) Prt.qc1 {n : Nat} {z : Rat} : Prt (QC n z) 1 none (SBq n (FR.of z).p):=⟨fun h' hs=>by obtain ⟨u,h1,h2,h3⟩:=(Prt.fx1 (nn:=n) (r:=FR.of z)).h (QC.toFX h' (QC.one h')) hs;exact ⟨u,h1,⟨QC.one h',h2⟩,h3⟩⟩
instance (priority:=800) Prt.qc2 {n : Nat} {z : Rat} : Prt (QC n z) 2 none (SBq n (FR.of z).q):=⟨fun h' hs=>by obtain ⟨u,h1,h2,h3⟩:=(Prt.fx2 (nn:=n) (r:=FR.of z)).h (QC.toFX h' (QC.one h')) hs;exact ⟨u,h1,⟨QC.one h',h2⟩,h3⟩⟩
instance Op1.apq {x y : Operand} {n : Nat} {l : List Nat} [e : ElW P t] [h : Opd L x EMP u] [k : Opd L y (SBq n l) v] : Op1 P L B (.call { callee:=.builtin .append,args:=#[x,y],argTypes:=#[t,t] }) True (SBq n l) (u ++ v):=⟨fun {W0 w a G o} ho hok e' _ _=>by
  obtain ⟨e0,h1,h2⟩:=e.h
  have hy:=k.h e'.r
  exact fun Q K hK=>OpR.appNew hok ho h1 h2 (h.h e'.l) hy.2.2 Q K fun v w' G' hv hn=>hK v w' G' ⟨hy.1,hy.2.1,hv⟩ hn⟩
instance AsT.qcp {n : Nat} {z : Rat} : AsT (PTS [(none,BT (FR.of z).s),(none,SBq n (FR.of z).p),(none,SBq n (FR.of z).q)]) (QC n) z:=⟨fun {v G} h=>by
  obtain ⟨us,e0,hl,hE⟩:=h
  have h' : (PTS [(none,BT (FR.of z).s),(none,SBq n (FR.of z).p),(none,SBq n (FR.of z).q)]).t v G:=⟨us,e0,hl,hE⟩
  have hcd : ∃ c d,(SBq n (FR.of z).p).t c G ∧ (SBq n (FR.of z).q).t d G:=by
    match us,hl,hE with
    | [a,c,d],_,hE=>exact ⟨c,d,(hE 1 _ c rfl rfl).2,(hE 2 _ d rfl rfl).2⟩
  obtain ⟨c,d,⟨h1,h2,_⟩,_,h5,_⟩:=hcd
  refine ⟨⟨by have : Go.Proofs.Ytjphllpnhjemjaa.val (words z.num.natAbs) < 2 ^ n := h2
              rwa [val_words] at this,?_⟩,qr_pts h' (fun v hv=>hv.2.2) fun v hv=>hv.2.2⟩
  have hq : Go.Proofs.Ytjphllpnhjemjaa.val (dwords z) < 2 ^ n:=h5
  unfold dwords at hq
  split at hq
  · rename_i e0
    have : z.den = 1:=by
      have h0 : z = 0:=by first | exact e0 | exact Rat.num_eq_zero.1 e0
      rw [h0];rfl
    rw [this];exact Nat.lt_of_lt_of_le (show (1 : Nat) < 2 ^ 1 by decide) (Nat.pow_le_pow_right (by decide) h1)
  · rwa [val_words] at hq⟩
class AllG (es : List SE) : Prop where
  h : ∀ e ∈ es,∃ d τ u,e = SE.g d τ u
instance AllG.nil : AllG []:=⟨fun e h=>by simp at h⟩
instance AllG.cons {d : Nat} {τ : MT} {u : List Nat} {es : List SE} [h : AllG es] : AllG (.g d τ u :: es):=⟨fun e he=>by
  rcases List.mem_cons.1 he with e1 | e1
  · exact ⟨d,τ,u,e1⟩
  · exact h.h e e1⟩
theorem AllG.sto {nB v : Nat} {all : List SE} : ∀ {es : List SE} {o : Nat},(∀ e ∈ es,∃ d τ u,e = SE.g d τ u) → storeOf (es.map (poS nB all)) o v = none
  | [],_,_=>rfl
  | x :: es,o,h=>by
    obtain ⟨d,τ,u,rfl⟩:=h x (.head _)
    exact AllG.sto (es:=es) fun e he=>h e (.tail _ he)
theorem BZ3_id {PL : List PO3} (h : ∀ v,storeOf PL 0 v = none) : ∀ {u : Nat} {B : List BX},BZ3 PL u B = B
  | _,[]=>rfl
  | u,x :: r=>by
    unfold BZ3 finT
    rw [h u,BZ3_id h]
theorem BF3_id {PL : List PO3} {β : Nat → Nat} (h : ∀ v,storeOf PL 0 v = none) (hg : ∀ (m : Nat) (po : PO3),PL[m]? = some po → ∃ τ,po.τ = .g τ) : ∀ {m : Nat},BF3 PL β B m = B
  | 0=>BZ3_id h
  | m + 1=>by
    unfold BF3
    cases hm : PL[m]? with
    | none=>exact BF3_id h hg
    | some po =>
      obtain ⟨τ,e⟩:=hg m po hm
      simp only [e];exact BF3_id h hg
theorem W.fing {β : Nat → Nat} {ss : List SE} {q : Prop} [ag : AllG ss] [hl : FinL β 0 ss L L'] (K : St W0 G0 N L' B a w G → q) : St W0 G0 N (fL β 0 ss L) (BF3 (plS B.length ss) β B ss.length) a w G → q:=fun S=>K (by
  have e:=BF3_id (PL:=plS B.length ss) (β:=β) (B:=B) (fun v=>AllG.sto ag.h) (fun m po hm=>by
    unfold plS at hm
    rw [List.getElem?_map] at hm
    cases he : ss[m]? with
    | none=>rw [he] at hm;cases hm
    | some e =>
      rw [he] at hm;cases hm
      obtain ⟨d,τ,u,rfl⟩:=ag.h e (List.mem_of_getElem? he)
      exact ⟨τ,rfl⟩) (m:=ss.length)
  rw [e] at S
  rw [hl.h]
  exact S)
end
end Go.Proofs.Ytjphllpnhjemjaa
set_option linter.unusedVariables false
set_option linter.unusedSimpArgs false
namespace Go.Proofs.Ytjphllpnhjemjaa
open Go.RowKit (Below)
def LSN (k : Option Nat) (τs : List MT) : MT:=⟨fun v G=>(LS k τs).t v G ∧ (τs = [] → v = .slice none 0 0),fun hle h=>⟨(LS k τs).mono hle h.1,h.2⟩⟩
instance {k : Option Nat} {τs : List MT} : Shp (LSN k τs) none:=⟨fun h=>Shp.sh h.1⟩
theorem LS.base {k : Option Nat} {τs : List MT} {v : Value} {G : Gh} (h : (LS k τs).t v G) (hn : τs ≠ []) : ∃ b off c,v = .slice (some ⟨b,off,none⟩) τs.length c:=by
  obtain ⟨A,c,h1,_,_,h4⟩:=h
  match τs,hn with
  | τ :: τs,_ =>
    obtain ⟨b,off,e,_⟩:=h4 0 τ rfl
    exact ⟨b,off,c,by rw [h1,e]⟩
theorem LSN.isnil {k : Option Nat} {τs : List MT} {v : Value} {G : Gh} (h : (LSN k τs).t v G) : ∃ A n c,v = .slice A n c ∧ A.isNone = decide ((τs.length : Int) = 0):=by
  by_cases e : τs = []
  · refine ⟨none,0,0,h.2 e,?_⟩
    subst e;rfl
  · obtain ⟨b,off,c,hv⟩:=LS.base h.1 e
    refine ⟨_,_,_,hv,?_⟩
    have : τs.length ≠ 0:=fun h0=>e (List.length_eq_zero_iff.1 h0)
    rw [decide_eq_false (by omega)];rfl
section
variable {P : Program} {L : List (Nat × MT)} {B : List BX} {x : Operand} {u : List Nat} {t t' e : TypeId} {k : Option Nat} {τs : List MT}
theorem run_eql_sln (w : World) (t e : TypeId) (A : Option Addr) (n c : Nat) (h : P.underlying t = some (.slice e)) : (binOp .eql t (.slice A n c) (.slice none 0 0)).run P w = .ok (.bool A.isNone) w:=by
  simp only [binOp]
  simp [run_equal_slice_nil w t e A n c h]
class SlTy (P : Program) (t : TypeId) : Prop where
  h : ∃ e,P.underlying t = some (.slice e)
instance SlTy.of {bytes : Nat} {z : Value} [s : ElS P t e k bytes z] : SlTy P t:=⟨⟨e,s.h1⟩⟩
instance Op1.slE [s : SlTy P t] [h : Opd L x (LSN k τs) u] : Op1 P L B (.binOp .eql t x (.const (.slice none 0 0)) t') True (BT (decide ((τs.length : Int) = 0))) u:=⟨fun {W0 w a G o} ho hok e _ _=>by
  obtain ⟨e0,hu⟩:=s.h
  obtain ⟨A,n,c,hv,hA⟩:=LSN.isnil (h.h e)
  refine .run hok (v:=.bool (decide ((τs.length : Int) = 0))) ?_ rfl
  have hc : a.eval (.const (.slice none 0 0)) = .slice none 0 0:=rfl
  rw [← hA]
  simp only [execOp,ho,hv,hc,eqGuard,Sem.run_bind]
  simp [run_eql_sln w t e0 A n c hu]⟩
instance Op1.slN [s : SlTy P t] [h : Opd L x (LSN k τs) u] : Op1 P L B (.binOp .neq t x (.const (.slice none 0 0)) t') True (BT (decide ((τs.length : Int) ≠ 0))) u:=⟨fun {W0 w a G o} ho hok e _ _=>by
  obtain ⟨e0,hu⟩:=s.h
  obtain ⟨A,n,c,hv,hA⟩:=LSN.isnil (h.h e)
  refine .run hok (v:=.bool (decide ((τs.length : Int) ≠ 0))) ?_ rfl
  have hc : a.eval (.const (.slice none 0 0)) = .slice none 0 0:=rfl
  rw [decide_not,← hA]
  simp only [execOp,ho,hv,hc,eqGuard,Sem.run_bind]
  simp [run_neq_slice_nil (w:=w) t e0 A n c hu]⟩
end
section
variable {α : Type} {T : α → MT} {xs ys : List α} {k : Option Nat} {τs : List MT} {τ : MT} {p : Prop}
instance (priority:=850) Cv.lsn [h : Cv (LS k τs) τ p] : Cv (LSN k τs) τ p:=⟨fun e _ _ hv=>h.h e hv.1⟩
instance (priority:=900) Cv.nn : Cv (LSN k (xs.map T)) (LSN k (ys.map T)) (xs = ys):=⟨fun e _ _ hv=>e ▸ hv⟩
instance (priority:=900) Cv.n0 : Cv (.ex (.slice none 0 0)) (LSN k (ys.map T)) (ys = []):=⟨fun e v G hv=>by cases hv;subst e;exact ⟨LS.nil,fun _=>rfl⟩⟩
instance (priority:=800) Cv.nl [h : Cv (LS k τs) (LS k (ys.map T)) p] : Cv (LS k τs) (LSN k (ys.map T)) (p ∧ ys ≠ []):=⟨fun e v G hv=>⟨h.h e.1 hv,fun h0=>absurd (List.map_eq_nil_iff.1 h0) e.2⟩⟩
instance (priority:=800) Cv.nc [h : Cv (LSC k τs) (LS k (ys.map T)) p] : Cv (LSC k τs) (LSN k (ys.map T)) (p ∧ ys ≠ []):=⟨fun e v G hv=>⟨h.h e.1 hv,fun h0=>absurd (List.map_eq_nil_iff.1 h0) e.2⟩⟩
end
end Go.Proofs.Ytjphllpnhjemjaa
set_option linter.unusedVariables false
set_option linter.unusedSimpArgs false
namespace Go.Proofs.Ytjphllpnhjemjaa
open Go.RowKit (Below)
class RevC (P : Program) (f : Nat) : Prop where
  c : callable P f = true
  h : ∀ (blk off cap : Nat) (zs : List Int) (w : World),Go.Sort.Holds (Value.int .i64) w blk off zs.toArray → zs.length ≤ 9223372036854775807 →
    Calls P f #[.slice (some ⟨blk,off,none⟩) zs.length cap] w fun e w'=>e = .returned (.tuple #[]) ∧ ∃ n,w' = Go.Sort.putRow (Value.int .i64) (Go.Sort.ahead w n) blk off zs.reverse.toArray
section
variable {P : Program} {W0 : World} {G0 : Gh} {N : Nat} {L : List (Nat × MT)} {B Bh own : List BX} {a : Act} {w : World} {G : Gh}
theorem St.aheadS (S : St W0 G0 N L B a w G) (n : Nat) : St W0 G0 N L B a (Go.Sort.ahead w n) G :=
  { nxt:=⟨⟨S.nxt.below.os,S.nxt.below.tape,S.nxt.below.output,S.nxt.below.size,S.nxt.below.block⟩,S.nxt.agree,S.nxt.le,S.nxt.ok⟩,size:=S.size,dfr:=S.dfr,ty:=S.ty,bx:=S.bx,nd:=S.nd }
theorem els_int : ∀ {xs : List Int} {us : List Value},Els none (xs.map fun z=>IT z) us G → us = xs.map (Value.int .i64)
  | [],us,h=>List.length_eq_zero_iff.1 h.1
  | z :: xs,[],h=>by have:=h.1;simp at this
  | z :: xs,u :: us,h=>by
    have h0:=(h.2 0 (IT z) u rfl rfl).2
    have h1 : u = Value.int .i64 z:=h0
    rw [h1,els_int (xs:=xs) (us:=us) ⟨by simpa using h.1,fun i τ x hi hx=>h.2 (i + 1) τ x hi hx⟩];rfl
theorem int_els {xs : List Int} : Els none (xs.map fun z=>IT z) (xs.map (Value.int .i64)) G:=⟨by simp,fun i τ u h1 h2=>by
  rw [List.getElem?_map] at h1 h2
  cases hx : xs[i]? with
  | none=>rw [hx] at h1;cases h1
  | some z=>rw [hx] at h1 h2;cases h1;cases h2;exact ⟨⟨rfl,rfl⟩,rfl⟩⟩
theorem flat_int {xs : List Int} : flat (xs.map (Value.int .i64)) = xs.map (Value.int .i64):=by
  induction xs with
  | nil=>rfl
  | cons x xs ih=>show [Value.int .i64 x] ++ flat (xs.map (Value.int .i64)) = _;rw [ih];rfl
theorem mapBlock_row {blk : Nat} {f : Array Value → Array Value} {cs : Array Value} {ty : TypeId} {fr : Nat × Nat} (h : w.heap[blk]? = some (.cells cs ty fr)) : Go.Sort.mapBlock w blk f = w.setRow blk (f cs):=by
  have e : w.setRow blk (f cs) = Go.Sort.mapBlock w blk fun _=>f cs:=by
    unfold World.setRow Go.Sort.mapBlock
    congr 1
  rw [e]
  exact Go.Sort.mapBlock_congr w blk f _ fun c e fr' h'=>by rw [h] at h';cases h';rfl
theorem putCells_int {xs ys : List Int} {r : List Value} (hl : ys.length = xs.length) : Go.Sort.putCells (Value.int .i64) 0 ys.toArray (xs.map (Value.int .i64) ++ r).toArray = (ys.map (Value.int .i64) ++ r).toArray:=by
  apply Array.ext
  · simp [Go.Sort.putCells,hl]
  · intro i h1 h2
    have h1' : i < xs.length + r.length:=by simpa [Go.Sort.putCells] using h1
    simp only [Go.Sort.putCells,Array.getElem_mapIdx,Nat.zero_le,true_and,Nat.zero_add,Nat.sub_zero,List.size_toArray]
    by_cases hi : i < ys.length
    · rw [if_pos hi]
      simp [List.getElem_append,hi]
    · rw [if_neg hi]
      have hi2 : ¬ i < xs.length:=by omega
      simp [List.getElem_append,hi,hi2,hl]
variable {Q : Exit → Act → World → Prop} {rest : List Oper} {arr : Array Oper} {pos : String} {aft : Array Edge} {V : Value} {e f : Nat} {x : Operand} {u : List Nat} {ats : Array TypeId}
theorem W.rev {d : Nat} {B2 : List BX → List BX} {xs : List Int} [rc : RevC P f] (hO : OWNS none e V own (xs.map fun z => IT z)) [tl : Tl B own Bh] [hx : Opd L x (.ex V) u] [ap : ∀ own', AppX Bh own' (B2 own')] (hp : 0 < xs.length ∧ xs.length ≤ 9223372036854775807)
    (K : ∀ own a w G,OWNS none e V own (xs.reverse.map fun z=>IT z) → St W0 G0 N ((d,.ex (.tuple #[])) :: L) (B2 own) a w G → wpList P arr Q rest a w) (hdN : (decide (d < N)) = true:=by rfl) (hf : fresh d L = true:=by rfl) {ty' : TypeId} :
    St W0 G0 N L B a w G → wpList P arr Q (⟨some d,.call { callee:=.value (.func f),args:=#[x],argTypes:=ats },ty',pos,aft,none⟩ :: rest) a w:=fun S=>by
  have S':=S
  have hV : a.eval x = V:=hx.h (S.env u)
  rcases hO with ⟨rfl,rfl,h0⟩ | ⟨b,c,rfl,rfl,hc⟩
  · have : xs = []:=List.map_eq_nil_iff.1 h0
    subst this;exact absurd hp.1 (Nat.lt_irrefl 0)
  · rw [tl.h] at S'
    have hg : (Bh ++ [(⟨b,e,some (c * (none : Option Nat).getD 1),ROWS none (xs.map fun z=>IT z)⟩ : BX)])[Bh.length]? = some ⟨b,e,some (c * (none : Option Nat).getD 1),ROWS none (xs.map fun z=>IT z)⟩:=by simp
    obtain ⟨h1,h2,v,hv,hs,us,r,hvr,hE⟩:=S'.bx _ _ hg
    have hus:=els_int hE
    subst hus
    rw [flat_int] at hvr
    have hcells : v.cells = (xs.map (Value.int .i64) ++ r).toArray:=by rw [hvr];rfl
    have hcell : ∀ j,j < xs.length → w.cell? ⟨b,0 + j,none⟩ = some (Value.int .i64 xs.toArray[j]!) ∧ w.frozen? ⟨b,0 + j,none⟩ = false:=fun j hj=>by
      constructor
      · unfold World.cell?
        rw [hv]
        simp only [Nat.zero_add,Option.isSome_none]
        rw [hcells]
        simp [List.getElem?_append,hj,getElem!_pos]
      · unfold World.frozen?
        rw [hv]
        simp
    have hlen : (xs.map fun z=>IT z).length = xs.length:=List.length_map ..
    rw [hlen] at hc
    rw [hlen] at hV
    refine wpList_plain rfl (fun K' hK=>?_)
    unfold Oper.wp
    have hr : ∀ o : Oper,o.op = .call { callee:=.value (.func f),args:=#[x],argTypes:=ats } → (execOp a.eval o).run P w = .ok (.enter f #[.slice (some ⟨b,0,none⟩) xs.length c]) w:=fun o ho=>by
      have h0 : (execOp a.eval o).run P w = .ok (.enter f (#[x].map a.eval)) w:=by
        simp [execOp,ho,resolve,Act.eval,Deferred.ofValue,invoke,run_callFunc rc.c]
      rw [h0,show #[x].map a.eval = #[a.eval x] by simp,hV]
    rw [hr _ rfl]
    refine Calls.mono (rc.h b 0 c xs w (fun j hj=>hcell j (by simpa using hj)) hp.2) fun ex w' he=>?_
    obtain ⟨rfl,n,rfl⟩:=he
    have hv' : (Go.Sort.ahead w n).heap[b]? = some (.cells v.cells e (0,0)):=hv
    have hrev : Go.Sort.putRow (Value.int .i64) (Go.Sort.ahead w n) b 0 xs.reverse.toArray = (Go.Sort.ahead w n).setRow b ((xs.reverse.map (Value.int .i64) ++ r).toArray):=by
      unfold Go.Sort.putRow
      rw [mapBlock_row hv',hcells,putCells_int (by simp)]
    rw [hrev]
    have hsh : Shaped (some (c * (none : Option Nat).getD 1)) (.agg (xs.reverse.map (Value.int .i64) ++ r).toArray):=by
      obtain ⟨cs,hcs,hsz,hone⟩:=hs
      have hcs2 : cs = (xs.map (Value.int .i64) ++ r).toArray:=by rw [hvr] at hcs;injection hcs with hcs;exact hcs.symm
      subst hcs2
      refine ⟨_,rfl,by simpa using hsz,fun y hy=>?_⟩
      have hy : y ∈ xs.reverse.map (Value.int .i64) ++ r:=by simpa using hy
      rcases List.mem_append.1 hy with hy | hy
      · obtain ⟨z,_,rfl⟩:=List.mem_map.1 hy;rfl
      · exact hone y (by simp [hy])
    have S2:=(S'.aheadS n).setVar Bh.length hg (v:=.agg (xs.reverse.map (Value.int .i64) ++ r).toArray) (τ:=ROWS none (xs.reverse.map fun z=>IT z)) hsh ⟨xs.reverse.map (Value.int .i64),r,by rw [flat_int],int_els⟩
    have hset : (Bh ++ [(⟨b,e,some (c * (none : Option Nat).getD 1),ROWS none (xs.map fun z=>IT z)⟩ : BX)]).set Bh.length ⟨b,e,some (c * (none : Option Nat).getD 1),ROWS none (xs.reverse.map fun z=>IT z)⟩ = Bh ++ [⟨b,e,some (c * (none : Option Nat).getD 1),ROWS none (xs.reverse.map fun z=>IT z)⟩]:=by simp
    rw [hset] at S2
    exact hK _ _ (K [⟨b,e,some (c * (none : Option Nat).getD 1),ROWS none (xs.reverse.map fun z=>IT z)⟩] _ _ _ (.inr ⟨b,c,by simp,rfl,by simpa using hc⟩) ((ap _).h ▸ S2.put (of_decide_eq_true hdN) hf (τ:=.ex (.tuple #[])) rfl (Nxt.refl S2.ok)))
theorem W.oln {d : Nat} {t ty : TypeId} {k k' : Option Nat} {τs : List MT} (hO : OWNS k e V own τs) [s : SlE P t k'] [hx : Opd L x (.ex V) u] (K : ∀ a w G, St W0 G0 N ((d, NT τs.length) :: L) B a w G → wpList P arr Q rest a w) (hdN : (decide (d < N)) = true := by rfl) (hf : fresh d L = true := by rfl) :
    St W0 G0 N L B a w G → wpList P arr Q (⟨some d,.call { callee:=.builtin .len,args:=#[x],argTypes:=#[t] },ty,pos,aft,none⟩ :: rest) a w:=fun S =>
  wpList_plain rfl fun K' hK=>by
    have hv : OpR P ⟨some d,.call { callee:=.builtin .len,args:=#[x],argTypes:=#[t] },ty,pos,aft,none⟩ a w G (NT τs.length):=by
      obtain ⟨e',h1,h2⟩:=s.h
      have hV : a.eval x = V:=hx.h (S.env u)
      rcases hO with ⟨h3,_,h4⟩ | ⟨b,c,h3,_⟩
      · subst h4;exact .lenA S.ok rfl h1 (hV.trans h3) rfl
      · exact .lenA S.ok rfl h1 (hV.trans h3) rfl
    exact hv Q K' fun v w' G' hv hn=>hK _ _ (K _ _ _ (S.put (of_decide_eq_true hdN) hf hv hn))
end
end Go.Proofs.Ytjphllpnhjemjaa
