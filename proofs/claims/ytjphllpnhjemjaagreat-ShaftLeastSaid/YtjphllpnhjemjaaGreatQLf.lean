import Derived.Laws.Cover3
import Derived.Sort.Row
import Derived.MapKept
import Derived.Laws.IdiomRangeMap
import Derived.Test.YtjphllpnhjemjaaGreatQLe
set_option linter.unusedVariables false
set_option linter.unusedSimpArgs false
set_option linter.unusedVariables false
set_option linter.unusedSimpArgs false
namespace Go.Proofs.YtjphllpnhjemjaaGreat
open Go.RowKit (Below)
abbrev NM (n : Nat) (l : List Rat) : MT:=LS (some 3) (l.map (QC n))
abbrev TWR (n : Nat) (rs : List (List Rat)) : MT:=PTS [(none,LS none (rs.map (NM n)))]
abbrev BPT (n : Nat) (x : Int × List Rat × List Rat) : MT:=PTS [(none,IT x.1),(some 2,PTS [(none,NM n x.2.1),(none,NM n x.2.2)])]
theorem LS.shn {k : Option Nat} {τs : List MT} {v : Value} {G : Gh} (h : (LS k τs).t v G) : Shaped none v:=by obtain ⟨A,c,rfl,_⟩:=h;exact ⟨rfl,rfl⟩
instance {k : Option Nat} {τs : List MT} : ShK (LS k τs) none:=⟨LS.shn⟩
instance {k : Option Nat} {τs : List MT} : ShK (LSC k τs) none:=⟨fun h=>LS.shn h.1⟩
class Fit {α : Type} (τ : MT) (T : α → MT) (x : outParam α) (p : outParam Prop) : Prop where
  h : p → ∀ {v : Value} {G : Gh},τ.t v G → (T x).t v G
class FitL {α : Type} (τs : List MT) (T : α → MT) (xs : outParam (List α)) (p : outParam Prop) : Prop where
  h : p → τs.length = xs.length ∧ ∀ (i : Nat) (τ : MT),τs[i]? = some τ → ∃ x,xs[i]? = some x ∧ ∀ {v : Value} {G : Gh},τ.t v G → (T x).t v G
section
variable {α : Type} {T : α → MT} {τ τ' : MT} {τs : List MT} {x : α} {xs ys : List α} {p p' : Prop} {b c : Nat} {k : Option Nat}
instance (priority:=500) Fit.of [h : AsT τ T x] : Fit τ T x True:=⟨fun _ _ _ hv=>h.h hv⟩
instance Fit.q {z : Rat} : Fit (QC c z) (QC b) z (c ≤ b):=⟨fun e _ _ h=>QC.up h e⟩
instance FitL.nil : FitL [] T [] True:=⟨fun _=>⟨rfl,fun i τ h=>by simp at h⟩⟩
instance FitL.cons [h : Fit τ T x p] [l : FitL τs T xs p'] : FitL (τ :: τs) T (x :: xs) (p ∧ p'):=⟨fun e=>⟨by simp [(l.h e.2).1],fun i σ hi=>by
  cases i with
  | zero=>cases hi;exact ⟨x,rfl,h.h e.1⟩
  | succ i=>exact (l.h e.2).2 i σ (by simpa using hi)⟩⟩
class FitM {β : Type} (U : β → MT) (T : α → MT) (f : outParam (β → α)) (p : outParam Prop) : Prop where
  h : p → ∀ {y : β} {v : Value} {G : Gh},(U y).t v G → (T (f y)).t v G
instance (priority:=600) FitL.m {β : Type} {U : β → MT} {f : β → α} {zs : List β} [h : FitM U T f p] : FitL (zs.map U) T (zs.map f) p:=⟨fun e=>⟨by simp,fun i τ hi=>by
  rw [List.getElem?_map] at hi
  cases hz : zs[i]? with
  | none=>rw [hz] at hi;cases hi
  | some z=>rw [hz] at hi;cases hi;exact ⟨f z,by simp [hz],fun hv=>h.h e hv⟩⟩⟩
instance FitL.q {zs : List Rat} : FitL (zs.map (QC c)) (QC b) zs (c ≤ b):=⟨fun e=>⟨by simp,fun i τ hi=>by
  rw [List.getElem?_map] at hi
  cases hz : zs[i]? with
  | none=>rw [hz] at hi;cases hi
  | some z=>rw [hz] at hi;cases hi;exact ⟨z,rfl,fun hv=>QC.up hv e⟩⟩⟩
theorem FitL.ls (l : FitL τs T xs p) (e : p) {v : Value} {G : Gh} (h : (LS k τs).t v G) : (LS k (xs.map T)).t v G:=AsTL.ls ⟨(l.h e).1,fun i τ hi=>(l.h e).2 i τ hi⟩ h
class LsQ (τ : MT) (τs : outParam (List MT)) : Prop where
  h : ∀ {v : Value} {G : Gh},τ.t v G → (LS (some 3) τs).t v G
instance LsQ.l : LsQ (LS (some 3) τs) τs:=⟨fun h=>h⟩
instance LsQ.lc : LsQ (LSC (some 3) τs) τs:=⟨fun h=>h.1⟩
instance LsQ.n : LsQ (.ex (.slice none 0 0)) []:=⟨fun h=>by cases h;exact LS.nil⟩
instance Fit.nm {l : List Rat} [a : LsQ τ τs] [h : FitL τs (QC b) l p] : Fit τ (NM b) l p:=⟨fun e _ _ hv=>h.ls e (a.h hv)⟩
instance Fit.bp {z : Int} {τ1 τ2 : MT} {l1 l2 : List Rat} {p1 p2 : Prop} [h1 : Fit τ1 (NM b) l1 p1] [h2 : Fit τ2 (NM b) l2 p2] : Fit (PTS [(none,IT z),(some 2,PTS [(none,τ1),(none,τ2)])]) (BPT b) (z,l1,l2) (p1 ∧ p2):=⟨fun e v G hv=>by
  obtain ⟨us,e1,a1,a2⟩:=hv
  refine ⟨us,e1,a1,fun i f u hf hu=>?_⟩
  match i,hf with
  | 0,hf=>exact a2 0 _ u (by cases hf;rfl) hu
  | 1,hf =>
    cases hf
    obtain ⟨b1,us2,e2,c1,c2⟩:=a2 1 _ u rfl hu
    refine ⟨b1,us2,e2,c1,fun j g y hg hy=>?_⟩
    match j,hg with
    | 0,hg=>cases hg;obtain ⟨d1,d2⟩:=c2 0 _ y rfl hy;exact ⟨d1,h1.h e.1 d2⟩
    | 1,hg=>cases hg;obtain ⟨d1,d2⟩:=c2 1 _ y rfl hy;exact ⟨d1,h2.h e.2 d2⟩⟩
instance (priority:=900) Cv.fit {xs ys : List α} [h : FitL τs T xs p] : Cv (LSC k τs) (LS k (ys.map T)) (p ∧ xs = ys):=⟨fun e v G hv=>by
  obtain ⟨e1,rfl⟩:=e;exact h.ls e1 hv.1⟩
instance (priority:=900) Cv.fitl {xs ys : List α} [h : FitL τs T xs p] : Cv (LS k τs) (LS k (ys.map T)) (p ∧ xs = ys):=⟨fun e v G hv=>by
  obtain ⟨e1,rfl⟩:=e;exact h.ls e1 hv⟩
class NU (τ : MT) (τ' : outParam MT) : Prop where
  h : ∀ {v : Value} {G : Gh},τ.t v G → τ'.t v G
theorem LS.els {v : Value} {G : Gh} (h : (LS k τs).t v G) {σs : List MT} (hl : τs.length = σs.length) (f : ∀ (i : Nat) (τ σ : MT),τs[i]? = some τ → σs[i]? = some σ → ∀ {v : Value},τ.t v G → σ.t v G) : (LS k σs).t v G:=by
  obtain ⟨A,c',h1,h2,h3,h4⟩:=h
  refine ⟨A,c',by rw [h1,hl],by rw [← hl];exact h2,by rw [← hl];exact h3,fun i σ hi=>?_⟩
  have hlt : i < τs.length:=by rw [hl];exact (List.getElem?_eq_some_iff.1 hi).1
  obtain ⟨b,off,e3,e4⟩:=h4 i τs[i] (List.getElem?_eq_getElem hlt)
  exact ⟨b,off,e3,e4.cv (f i _ σ (List.getElem?_eq_getElem hlt) hi)⟩
class Grow {α : Type} (T : Nat → α → MT) : Prop where
  h : ∀ {n m : Nat} {x : α} {v : Value} {G : Gh},(T n x).t v G → n ≤ m → (T m x).t v G
instance : Grow QC:=⟨QC.up⟩
class Rdn {α : Type} (τ : MT) (T : Nat → α → MT) (n : outParam Nat) (x : outParam α) : Prop where
  h : ∀ {v : Value} {G : Gh},τ.t v G → (T n x).t v G
class RdnL {α : Type} (τs : List MT) (T : Nat → α → MT) (n : outParam Nat) (xs : outParam (List α)) : Prop where
  h : τs.length = xs.length ∧ ∀ (i : Nat) (τ σ : MT),τs[i]? = some τ → (xs.map (T n))[i]? = some σ → ∀ {v : Value} {G : Gh},τ.t v G → σ.t v G
instance Rdn.q {z : Rat} : Rdn (QC b z) QC b z:=⟨fun h=>h⟩
instance RdnL.nil {T : Nat → α → MT} : RdnL [] T 0 []:=⟨rfl,fun i τ σ h=>by simp at h⟩
instance RdnL.m {T : Nat → α → MT} : RdnL (xs.map (T b)) T b xs:=⟨by simp,fun i τ σ h1 h2 {v G} h=>by rw [h1] at h2;cases h2;exact h⟩
instance (priority:=800) RdnL.cons {T : Nat → α → MT} [g : Grow T] [h : Rdn τ T b x] [l : RdnL τs T c xs] : RdnL (τ :: τs) T (max b c) (x :: xs):=⟨by simp [l.h.1],fun i σ ρ h1 h2 {v G} hv=>by
  cases i with
  | zero=>cases h1;cases h2;exact g.h (h.h hv) (Nat.le_max_left _ _)
  | succ i =>
    simp only [List.map_cons,List.getElem?_cons_succ,List.getElem?_map] at h1 h2
    cases hx : xs[i]? with
    | none=>rw [hx] at h2;cases h2
    | some y=>rw [hx] at h2;cases h2;exact g.h (l.h.2 i σ _ h1 (by rw [List.getElem?_map,hx];rfl) hv) (Nat.le_max_right _ _)⟩
theorem RdnL.ls {T : Nat → α → MT} (l : RdnL τs T b xs) {v : Value} {G : Gh} (h : (LS k τs).t v G) : (LS k (xs.map (T b))).t v G:=LS.els h (by rw [l.h.1,List.length_map]) fun i τ σ h1 h2 _ hv=>l.h.2 i τ σ h1 h2 hv
theorem NM.up {l : List Rat} {v : Value} {G : Gh} (h : (NM b l).t v G) (e : b ≤ c) : (NM c l).t v G:=LS.convM (T:=QC b) (U:=QC c) (f:=fun r=>r) h (by simp) fun _ _ _ _ hv=>QC.up hv e
instance : Grow NM:=⟨NM.up⟩
instance Rdn.nm {l : List Rat} [a : LsQ τ τs] [h : RdnL τs QC b l] : Rdn τ NM b l:=⟨fun hv=>h.ls (a.h hv)⟩
instance NU.of {l : List Rat} [h : Rdn τ NM b l] : NU τ (NM b l):=⟨fun hv=>h.h hv⟩
class LsN (τ : MT) (τs : outParam (List MT)) : Prop where
  h : ∀ {v : Value} {G : Gh},τ.t v G → (LS none τs).t v G
instance LsN.l : LsN (LS none τs) τs:=⟨fun h=>h⟩
instance LsN.lc : LsN (LSC none τs) τs:=⟨fun h=>h.1⟩
instance LsN.n : LsN (.ex (.slice none 0 0)) []:=⟨fun h=>by cases h;exact LS.nil⟩
abbrev RTS (n : Nat) (rs : List (List Rat)) : MT:=LS none (rs.map (NM n))
instance Rdn.rts {rs : List (List Rat)} [a : LsN τ τs] [h : RdnL τs NM b rs] : Rdn τ RTS b rs:=⟨fun hv=>h.ls (a.h hv)⟩
instance NU.rts {rs : List (List Rat)} [h : Rdn τ RTS b rs] : NU τ (RTS b rs):=⟨fun hv=>h.h hv⟩
theorem pts1 (f : ∀ {v : Value} {G : Gh},τ.t v G → τ'.t v G) {v : Value} {G : Gh} (h : (PTS [(k,τ)]).t v G) : (PTS [(k,τ')]).t v G:=by
  obtain ⟨us,e,a1,a2⟩:=h
  refine ⟨us,e,a1,fun i p u hp hu=>?_⟩
  match i,hp with
  | 0,hp=>cases hp;obtain ⟨d1,d2⟩:=a2 0 _ u rfl hu;exact ⟨d1,f d2⟩
instance NU.tw {rs : List (List Rat)} [h : Rdn τ RTS b rs] : NU (PTS [(none,τ)]) (TWR b rs):=⟨fun hv=>pts1 (τ':=RTS b rs) h.h hv⟩
instance Fit.rts {rs : List (List Rat)} [a : LsN τ τs] [h : FitL τs (NM b) rs p] : Fit τ (RTS b) rs p:=⟨fun e _ _ hv=>h.ls e (a.h hv)⟩
instance (priority:=900) Cv.tw {rs rs' : List (List Rat)} [h : Fit τ (RTS b) rs p] : Cv (PTS [(none,τ)]) (TWR b rs') (p ∧ rs = rs'):=⟨fun e _ _ hv=>by
  obtain ⟨e1,rfl⟩:=e;exact pts1 (τ':=RTS b rs) (h.h e1) hv⟩
end
end Go.Proofs.YtjphllpnhjemjaaGreat
set_option linter.unusedVariables false
set_option linter.unusedSimpArgs false
namespace Go.Proofs.YtjphllpnhjemjaaGreat
open Go.RowKit (Below)
def RetW {α : Type} (w : World) (G : Gh) (k : Option Nat) (e : TypeId) (T : α → MT) (xs : List α) : Ending → World → Prop:=fun en w' =>
  ∃ b c G',en = .returned (.slice (some ⟨b,0,none⟩) xs.length c) ∧ Nxt w G w' G' ∧ BX.ok ⟨b,e,some (c * k.getD 1),ROWS k (xs.map T)⟩ w w' G' ∧ xs.length ≤ c
class ConO {α : outParam Type} (P : Program) (f : Nat) (τs : List MT) (pre : outParam Prop) (k : outParam (Option Nat)) (e : outParam TypeId) (T : outParam (α → MT)) (xs : outParam (List α)) : Prop where
  h : ∀ {vs : List Value} {w : World} {G : Gh},Gok w G → Args vs τs G → pre → Calls P f vs.toArray w (RetW w G k e T xs)
section
variable {P : Program} {f : Nat} {τ1 τ2 τ3 : MT} {pre : Prop} {k : Option Nat} {e : TypeId} {α : Type} {T : α → MT} {xs : List α}
theorem ConO.o1 (h : ∀ {v1 : Value} {w : World} {G : Gh},Gok w G → τ1.t v1 G → pre → Calls P f #[v1] w (RetW w G k e T xs)) : ConO P f [τ1] pre k e T xs:=⟨fun {vs _ _} hok ha hp=>match vs,ha with | [_],ha=>h hok ha.1 hp⟩
theorem ConO.o2 (h : ∀ {v1 v2 : Value} {w : World} {G : Gh},Gok w G → τ1.t v1 G → τ2.t v2 G → pre → Calls P f #[v1,v2] w (RetW w G k e T xs)) : ConO P f [τ1,τ2] pre k e T xs:=⟨fun {vs _ _} hok ha hp=>match vs,ha with | [_,_],ha=>h hok ha.1 ha.2.1 hp⟩
theorem ConO.o3 (h : ∀ {v1 v2 v3 : Value} {w : World} {G : Gh},Gok w G → τ1.t v1 G → τ2.t v2 G → τ3.t v3 G → pre → Calls P f #[v1,v2,v3] w (RetW w G k e T xs)) : ConO P f [τ1,τ2,τ3] pre k e T xs:=⟨fun {vs _ _} hok ha hp=>match vs,ha with | [_,_,_],ha=>h hok ha.1 ha.2.1 ha.2.2.1 hp⟩
section
variable {w : World} {G : Gh} {v1 v2 v3 : Value}
theorem ConO.c1 (c : ConO P f [τ1] pre k e T xs) (hok : Gok w G) (h1 : τ1.t v1 G) (hp : pre) : Calls P f #[v1] w (RetW w G k e T xs):=c.h (vs:=[v1]) hok ⟨h1,trivial⟩ hp
theorem ConO.c2 (c : ConO P f [τ1,τ2] pre k e T xs) (hok : Gok w G) (h1 : τ1.t v1 G) (h2 : τ2.t v2 G) (hp : pre) : Calls P f #[v1,v2] w (RetW w G k e T xs):=c.h (vs:=[v1,v2]) hok ⟨h1,h2,trivial⟩ hp
theorem ConO.c3 (c : ConO P f [τ1,τ2,τ3] pre k e T xs) (hok : Gok w G) (h1 : τ1.t v1 G) (h2 : τ2.t v2 G) (h3 : τ3.t v3 G) (hp : pre) : Calls P f #[v1,v2,v3] w (RetW w G k e T xs):=c.h (vs:=[v1,v2,v3]) hok ⟨h1,h2,h3,trivial⟩ hp
end
end
section
variable {P : Program} {L L' : List (Nat × MT)} {B B' Bh : List BX} {ys : List Operand} {u v : List Nat} {t ty e : TypeId} {τ τ' τb : MT} {τs : List MT} {n c b i j f d : Nat} {k : Option Nat} {α : Type} {T : α → MT} {xs : List α}
variable {W0 : World} {G0 : Gh} {N : Nat} {a : Act} {w : World} {G : Gh} {Q : Exit → Act → World → Prop} {pre : Prop} {rest ops : List Oper} {arr : Array Oper} {pos : String} {aft : Array Edge} {ats : Array TypeId} {fn : Func} {σs : List MT}
theorem W.co [h : OpdL L ys τs u] [cn : ConO P f τs pre k e T xs] [kb : Cb P f] (hp : pre) (K : ∀ b c a w G, xs.length ≤ c → St W0 G0 N ((d, OSL b xs.length c) :: L) (⟨b, e, some (c * k.getD 1), ROWS k (xs.map T)⟩ :: B) a w G → wpList P arr Q rest a w) (hdN : (decide (d < N)) = true := by rfl) (hf : fresh d L = true := by rfl) :
    St W0 G0 N L B a w G → wpList P arr Q (⟨some d,.call { callee:=.value (.func f),args:=ys.toArray,argTypes:=ats },ty,pos,aft,none⟩ :: rest) a w:=fun S =>
  wpList_plain rfl fun K' hK=>by
    have hr : (execOp a.eval ⟨some d,.call { callee:=.value (.func f),args:=ys.toArray,argTypes:=ats },ty,pos,aft,none⟩).run P w = .ok (.enter f (ys.toArray.map a.eval)) w:=by
      simp [execOp,resolve,Act.eval,Deferred.ofValue,invoke,run_callFunc kb.h]
    unfold Oper.wp
    rw [hr]
    have hc : Calls P f (ys.toArray.map a.eval) w (RetW w G k e T xs):=by rw [List.map_toArray];exact cn.h S.ok (h.h (S.env u)) hp
    refine Calls.mono hc fun en w' he=>?_
    obtain ⟨b,c,G',rfl,hn,hb,hle⟩:=he
    have S1 : St W0 G0 N L (⟨b,e,some (c * k.getD 1),ROWS k (xs.map T)⟩ :: B) a w' G':={
      nxt:=S.nxt.trans hn
      size:=S.size
      dfr:=S.dfr
      ty:=fun i p h=>p.2.mono hn.le (S.ty i p h)
      bx:=fun i y h=>by
        cases i with
        | zero=>cases h;exact ⟨Nat.le_trans S.nxt.below.size hb.1,hb.2⟩
        | succ i=>exact (S.bx i y h).nxt hn
      nd:=fun i j y z hy hz hij=>by
        have h1:=hb.1
        cases i with
        | zero =>
          cases hy
          cases j with
          | zero=>exact absurd rfl hij
          | succ j=>have:=(S.bx j z hz).lt;show b ≠ z.b;simp only at h1;omega
        | succ i =>
          cases j with
          | zero=>cases hz;have:=(S.bx i y hy).lt;show y.b ≠ b;simp only at h1;omega
          | succ j=>exact S.nd i j y z hy hz (by omega) }
    exact hK _ _ (K b c _ _ G' hle (S1.put (of_decide_eq_true hdN) hf rfl (Nxt.refl S1.ok)))
theorem W.rto {xs' : List α} (t : Nat) [hl : Lk L t (OSL b n c)] [hb : Bx B b i e (some j) τb] [r : AsR τb k α T xs] (hr : fn.results = #[.tmp t]) (hp : xs = xs' ∧ n = xs.length ∧ j = c * k.getD 1 ∧ n ≤ c) : St W0 G0 N L B a w G → bodyPost P fn (RetW W0 G0 k e T xs') .ret a w:=fun S=>by
  obtain ⟨rfl,rfl,rfl,hle⟩:=hp
  obtain ⟨h1,h2,v,hv,hs,ht⟩:=S.bx i _ hb.m
  have hm : tm a t = .slice (some ⟨b,0,none⟩) xs.length c:=S.mem hl.m
  exact bodyPost_ret (v:=.slice (some ⟨b,0,none⟩) xs.length c) (by have:=results_tmp hr a.tmps P w;rw [this];exact congrArg (fun v=>Result.ok v w) hm) S.dfr ⟨b,c,G,rfl,S.nxt,⟨h1,h2,v,hv,hs,r.h ht⟩,hle⟩
theorem W.casth {x : BX} {q : Prop} (f : ∀ {v : Value} {G : Gh},x.τ.t v G → τ'.t v G) (K : St W0 G0 N L (⟨x.b,x.ty,x.k,τ'⟩ :: B) a w G → q) : St W0 G0 N L (x :: B) a w G → q:=fun S=>K (S.castBox 0 rfl fun v hv _=>f hv)
class Rot (B : List BX) (x : BX) (B' : outParam (List BX)) : Prop where
  h : B' = B ++ [x]
instance Rot.nil {x : BX} : Rot [] x [x]:=⟨rfl⟩
instance Rot.cons {x y : BX} {B B' : List BX} [h : Rot B x B'] : Rot (y :: B) x (y :: B'):=⟨by rw [h.h];rfl⟩
instance (priority:=1200) RunS.own {all ops : List Oper} {i : Nat} {als : List (Nat × Nat × Option Nat)} {sd : List Nat} {op : Op} [OwnAt d] : RunS P B all i L als sd (⟨some d,op,ty,pos,aft,none⟩ :: ops) True [] (⟨some d,op,ty,pos,aft,none⟩ :: ops):=⟨.stop⟩
abbrev QP (p : Nat × Rat) : MT:=QC p.1 p.2
instance AsT.qp {n : Nat} {z : Rat} : AsT (QC n z) QP (n,z):=⟨fun h=>h⟩
instance (priority:=900) Cv.qpr {l : List Rat} {ys : List (Nat × Rat)} {n : Nat} {k : Option Nat} : Cv (ROWS k (l.map (QC n))) (ROWS k (ys.map QP)) (ys = l.map fun x=>(n,x)):=⟨fun e v G h=>by subst e;rw [List.map_map];exact h⟩
instance FitL.qp {ps : List (Nat × Rat)} {n : Nat} : FitL (ps.map QP) (QC n) (ps.map Prod.snd) (∀ p ∈ ps,p.1 ≤ n):=⟨fun e=>⟨by simp,fun i τ hi=>by
  rw [List.getElem?_map] at hi
  cases hz : ps[i]? with
  | none=>rw [hz] at hi;cases hi
  | some z=>rw [hz] at hi;cases hi;exact ⟨z.2,by simp [hz],fun hv=>QC.up hv (e z (List.mem_of_getElem? hz))⟩⟩⟩
instance {n : Nat} : AsT (FX 1 default) (QC (n + 1)) 0:=⟨fun h=>(Cv.fq (n:=1) (k:=n + 1)).h ⟨by omega,rfl,rfl⟩ h⟩
instance {n : Nat} : Rdn (FX n default) QC n 0:=⟨fun h=>(Cv.fq (n:=n) (k:=n)).h ⟨Nat.le_refl _,rfl,rfl⟩ h⟩
instance {n m : Nat} : Fit (FX n default) (QC m) 0 (n ≤ m):=⟨fun e _ _ h=>(Cv.fq (n:=n) (k:=m)).h ⟨e,rfl,rfl⟩ h⟩
def SBq (n : Nat) (l : List Nat) : MT:=⟨fun v G=>1 ≤ n ∧ (SB n l).t v G,fun hle h=>⟨h.1,(SB n l).mono hle h.2⟩⟩
instance {n : Nat} {l : List Nat} : ShK (SBq n l) none:=⟨fun h=>SL.shp h.2.2⟩
instance AsW.sbq {n : Nat} {l : List Nat} : AsW (SBq n l) l:=⟨fun h=>h.2.2⟩
theorem QC.one {n : Nat} {z : Rat} {v : Value} {G : Gh} (h : (QC n z).t v G) : 1 ≤ n:=one_le_of_lt z.den_nz h.1.2
instance (priority:=800) Prt.qc0 {n : Nat} {z : Rat} : Prt (QC n z) 0 none (BT (FR.of z).s):=⟨fun h' hs=>(Prt.fx0 (nn:=n) (r:=FR.of z)).h (QC.toFX h' (QC.one h')) hs⟩
instance (priority:=800) Prt.qc1 {n : Nat} {z : Rat} : Prt (QC n z) 1 none (SBq n (FR.of z).p):=⟨fun h' hs=>by obtain ⟨u,h1,h2,h3⟩:=(Prt.fx1 (nn:=n) (r:=FR.of z)).h (QC.toFX h' (QC.one h')) hs;exact ⟨u,h1,⟨QC.one h',h2⟩,h3⟩⟩
instance (priority:=800) Prt.qc2 {n : Nat} {z : Rat} : Prt (QC n z) 2 none (SBq n (FR.of z).q):=⟨fun h' hs=>by obtain ⟨u,h1,h2,h3⟩:=(Prt.fx2 (nn:=n) (r:=FR.of z)).h (QC.toFX h' (QC.one h')) hs;exact ⟨u,h1,⟨QC.one h',h2⟩,h3⟩⟩
instance Op1.apq {x y : Operand} {n : Nat} {l : List Nat} [e : ElW P t] [h : Opd L x EMP u] [k : Opd L y (SBq n l) v] : Op1 P L B (.call { callee:=.builtin .append,args:=#[x,y],argTypes:=#[t,t] }) True (SBq n l) (u ++ v):=⟨fun {W0 w a G o} ho hok e' _ _=>by
  obtain ⟨e0,h1,h2⟩:=e.h
  have hy:=k.h e'.r
  exact fun Q K hK=>OpR.appNew hok ho h1 h2 (h.h e'.l) hy.2.2 Q K fun v w' G' hv hn=>hK v w' G' ⟨hy.1,hy.2.1,hv⟩ hn⟩
instance AsT.qcp {n : Nat} {z : Rat} : AsT (PTS [(none,BT (FR.of z).s),(none,SBq n (FR.of z).p),(none,SBq n (FR.of z).q)]) (QC n) z:=⟨fun {v G} h=>by
  obtain ⟨us,e0,hl,hE⟩:=h
  have h' : (PTS [(none,BT (FR.of z).s),(none,SBq n (FR.of z).p),(none,SBq n (FR.of z).q)]).t v G:=⟨us,e0,hl,hE⟩
  have hcd : ∃ c d,(SBq n (FR.of z).p).t c G ∧ (SBq n (FR.of z).q).t d G:=by
    match us,hl,hE with
    | [a,c,d],_,hE=>exact ⟨c,d,(hE 1 _ c rfl rfl).2,(hE 2 _ d rfl rfl).2⟩
  obtain ⟨c,d,⟨h1,h2,_⟩,_,h5,_⟩:=hcd
  refine ⟨⟨by have : Go.Proofs.YtjphllpnhjemjaaGreat.val (words z.num.natAbs) < 2 ^ n := h2
              rwa [val_words] at this,?_⟩,qr_pts h' (fun v hv=>hv.2.2) fun v hv=>hv.2.2⟩
  have hq : Go.Proofs.YtjphllpnhjemjaaGreat.val (dwords z) < 2 ^ n:=h5
  unfold dwords at hq
  split at hq
  · rename_i e0
    have : z.den = 1:=by
      have h0 : z = 0:=by first | exact e0 | exact Rat.num_eq_zero.1 e0
      rw [h0];rfl
    rw [this];exact Nat.lt_of_lt_of_le (show (1 : Nat) < 2 ^ 1 by decide) (Nat.pow_le_pow_right (by decide) h1)
  · rwa [val_words] at hq⟩
class AllG (es : List SE) : Prop where
  h : ∀ e ∈ es,∃ d τ u,e = SE.g d τ u
instance AllG.nil : AllG []:=⟨fun e h=>by simp at h⟩
instance AllG.cons {d : Nat} {τ : MT} {u : List Nat} {es : List SE} [h : AllG es] : AllG (.g d τ u :: es):=⟨fun e he=>by
  rcases List.mem_cons.1 he with e1 | e1
  · exact ⟨d,τ,u,e1⟩
  · exact h.h e e1⟩
theorem AllG.sto {nB v : Nat} {all : List SE} : ∀ {es : List SE} {o : Nat},(∀ e ∈ es,∃ d τ u,e = SE.g d τ u) → storeOf (es.map (poS nB all)) o v = none
  | [],_,_=>rfl
  | x :: es,o,h=>by
    obtain ⟨d,τ,u,rfl⟩:=h x (.head _)
    exact AllG.sto (es:=es) fun e he=>h e (.tail _ he)
theorem BZ3_id {PL : List PO3} (h : ∀ v,storeOf PL 0 v = none) : ∀ {u : Nat} {B : List BX},BZ3 PL u B = B
  | _,[]=>rfl
  | u,x :: r=>by
    unfold BZ3 finT
    rw [h u,BZ3_id h]
theorem BF3_id {PL : List PO3} {β : Nat → Nat} (h : ∀ v,storeOf PL 0 v = none) (hg : ∀ (m : Nat) (po : PO3),PL[m]? = some po → ∃ τ,po.τ = .g τ) : ∀ {m : Nat},BF3 PL β B m = B
  | 0=>BZ3_id h
  | m + 1=>by
    unfold BF3
    cases hm : PL[m]? with
    | none=>exact BF3_id h hg
    | some po =>
      obtain ⟨τ,e⟩:=hg m po hm
      simp only [e];exact BF3_id h hg
theorem W.fing {β : Nat → Nat} {ss : List SE} {q : Prop} [ag : AllG ss] [hl : FinL β 0 ss L L'] (K : St W0 G0 N L' B a w G → q) : St W0 G0 N (fL β 0 ss L) (BF3 (plS B.length ss) β B ss.length) a w G → q:=fun S=>K (by
  have e:=BF3_id (PL:=plS B.length ss) (β:=β) (B:=B) (fun v=>AllG.sto ag.h) (fun m po hm=>by
    unfold plS at hm
    rw [List.getElem?_map] at hm
    cases he : ss[m]? with
    | none=>rw [he] at hm;cases hm
    | some e =>
      rw [he] at hm;cases hm
      obtain ⟨d,τ,u,rfl⟩:=ag.h e (List.mem_of_getElem? he)
      exact ⟨τ,rfl⟩) (m:=ss.length)
  rw [e] at S
  rw [hl.h]
  exact S)
end
end Go.Proofs.YtjphllpnhjemjaaGreat
set_option linter.unusedVariables false
set_option linter.unusedSimpArgs false
namespace Go.Proofs.YtjphllpnhjemjaaGreat
open Go.RowKit (Below)
def LSN (k : Option Nat) (τs : List MT) : MT:=⟨fun v G=>(LS k τs).t v G ∧ (τs = [] → v = .slice none 0 0),fun hle h=>⟨(LS k τs).mono hle h.1,h.2⟩⟩
instance {k : Option Nat} {τs : List MT} : Shp (LSN k τs) none:=⟨fun h=>Shp.sh h.1⟩
theorem LS.base {k : Option Nat} {τs : List MT} {v : Value} {G : Gh} (h : (LS k τs).t v G) (hn : τs ≠ []) : ∃ b off c,v = .slice (some ⟨b,off,none⟩) τs.length c:=by
  obtain ⟨A,c,h1,_,_,h4⟩:=h
  match τs,hn with
  | τ :: τs,_ =>
    obtain ⟨b,off,e,_⟩:=h4 0 τ rfl
    exact ⟨b,off,c,by rw [h1,e]⟩
theorem LSN.isnil {k : Option Nat} {τs : List MT} {v : Value} {G : Gh} (h : (LSN k τs).t v G) : ∃ A n c,v = .slice A n c ∧ A.isNone = decide ((τs.length : Int) = 0):=by
  by_cases e : τs = []
  · refine ⟨none,0,0,h.2 e,?_⟩
    subst e;rfl
  · obtain ⟨b,off,c,hv⟩:=LS.base h.1 e
    refine ⟨_,_,_,hv,?_⟩
    have : τs.length ≠ 0:=fun h0=>e (List.length_eq_zero_iff.1 h0)
    rw [decide_eq_false (by omega)];rfl
section
variable {P : Program} {L : List (Nat × MT)} {B : List BX} {x : Operand} {u : List Nat} {t t' e : TypeId} {k : Option Nat} {τs : List MT}
theorem run_eql_sln (w : World) (t e : TypeId) (A : Option Addr) (n c : Nat) (h : P.underlying t = some (.slice e)) : (binOp .eql t (.slice A n c) (.slice none 0 0)).run P w = .ok (.bool A.isNone) w:=by
  simp only [binOp]
  simp [run_equal_slice_nil w t e A n c h]
class SlTy (P : Program) (t : TypeId) : Prop where
  h : ∃ e,P.underlying t = some (.slice e)
instance SlTy.of {bytes : Nat} {z : Value} [s : ElS P t e k bytes z] : SlTy P t:=⟨⟨e,s.h1⟩⟩
instance Op1.slE [s : SlTy P t] [h : Opd L x (LSN k τs) u] : Op1 P L B (.binOp .eql t x (.const (.slice none 0 0)) t') True (BT (decide ((τs.length : Int) = 0))) u:=⟨fun {W0 w a G o} ho hok e _ _=>by
  obtain ⟨e0,hu⟩:=s.h
  obtain ⟨A,n,c,hv,hA⟩:=LSN.isnil (h.h e)
  refine .run hok (v:=.bool (decide ((τs.length : Int) = 0))) ?_ rfl
  have hc : a.eval (.const (.slice none 0 0)) = .slice none 0 0:=rfl
  rw [← hA]
  simp only [execOp,ho,hv,hc,eqGuard,Sem.run_bind]
  simp [run_eql_sln w t e0 A n c hu]⟩
instance Op1.slN [s : SlTy P t] [h : Opd L x (LSN k τs) u] : Op1 P L B (.binOp .neq t x (.const (.slice none 0 0)) t') True (BT (decide ((τs.length : Int) ≠ 0))) u:=⟨fun {W0 w a G o} ho hok e _ _=>by
  obtain ⟨e0,hu⟩:=s.h
  obtain ⟨A,n,c,hv,hA⟩:=LSN.isnil (h.h e)
  refine .run hok (v:=.bool (decide ((τs.length : Int) ≠ 0))) ?_ rfl
  have hc : a.eval (.const (.slice none 0 0)) = .slice none 0 0:=rfl
  rw [decide_not,← hA]
  simp only [execOp,ho,hv,hc,eqGuard,Sem.run_bind]
  simp [run_neq_slice_nil (w:=w) t e0 A n c hu]⟩
end
section
variable {α : Type} {T : α → MT} {xs ys : List α} {k : Option Nat} {τs : List MT} {τ : MT} {p : Prop}
instance (priority:=850) Cv.lsn [h : Cv (LS k τs) τ p] : Cv (LSN k τs) τ p:=⟨fun e _ _ hv=>h.h e hv.1⟩
instance (priority:=900) Cv.nn : Cv (LSN k (xs.map T)) (LSN k (ys.map T)) (xs = ys):=⟨fun e _ _ hv=>e ▸ hv⟩
instance (priority:=900) Cv.n0 : Cv (.ex (.slice none 0 0)) (LSN k (ys.map T)) (ys = []):=⟨fun e v G hv=>by cases hv;subst e;exact ⟨LS.nil,fun _=>rfl⟩⟩
instance (priority:=800) Cv.nl [h : Cv (LS k τs) (LS k (ys.map T)) p] : Cv (LS k τs) (LSN k (ys.map T)) (p ∧ ys ≠ []):=⟨fun e v G hv=>⟨h.h e.1 hv,fun h0=>absurd (List.map_eq_nil_iff.1 h0) e.2⟩⟩
instance (priority:=800) Cv.nc [h : Cv (LSC k τs) (LS k (ys.map T)) p] : Cv (LSC k τs) (LSN k (ys.map T)) (p ∧ ys ≠ []):=⟨fun e v G hv=>⟨h.h e.1 hv,fun h0=>absurd (List.map_eq_nil_iff.1 h0) e.2⟩⟩
end
end Go.Proofs.YtjphllpnhjemjaaGreat
set_option linter.unusedVariables false
set_option linter.unusedSimpArgs false
namespace Go.Proofs.YtjphllpnhjemjaaGreat
open Go.RowKit (Below)
class RevC (P : Program) (f : Nat) : Prop where
  c : callable P f = true
  h : ∀ (blk off cap : Nat) (zs : List Int) (w : World),Go.Sort.Holds (Value.int .i64) w blk off zs.toArray → zs.length ≤ 9223372036854775807 →
    Calls P f #[.slice (some ⟨blk,off,none⟩) zs.length cap] w fun e w'=>e = .returned (.tuple #[]) ∧ ∃ n,w' = Go.Sort.putRow (Value.int .i64) (Go.Sort.ahead w n) blk off zs.reverse.toArray
section
variable {P : Program} {W0 : World} {G0 : Gh} {N : Nat} {L : List (Nat × MT)} {B Bh own : List BX} {a : Act} {w : World} {G : Gh}
theorem St.aheadS (S : St W0 G0 N L B a w G) (n : Nat) : St W0 G0 N L B a (Go.Sort.ahead w n) G :=
  { nxt:=⟨⟨S.nxt.below.os,S.nxt.below.tape,S.nxt.below.output,S.nxt.below.size,S.nxt.below.block⟩,S.nxt.agree,S.nxt.le,S.nxt.ok⟩,size:=S.size,dfr:=S.dfr,ty:=S.ty,bx:=S.bx,nd:=S.nd }
theorem els_int : ∀ {xs : List Int} {us : List Value},Els none (xs.map fun z=>IT z) us G → us = xs.map (Value.int .i64)
  | [],us,h=>List.length_eq_zero_iff.1 h.1
  | z :: xs,[],h=>by have:=h.1;simp at this
  | z :: xs,u :: us,h=>by
    have h0:=(h.2 0 (IT z) u rfl rfl).2
    have h1 : u = Value.int .i64 z:=h0
    rw [h1,els_int (xs:=xs) (us:=us) ⟨by simpa using h.1,fun i τ x hi hx=>h.2 (i + 1) τ x hi hx⟩];rfl
theorem int_els {xs : List Int} : Els none (xs.map fun z=>IT z) (xs.map (Value.int .i64)) G:=⟨by simp,fun i τ u h1 h2=>by
  rw [List.getElem?_map] at h1 h2
  cases hx : xs[i]? with
  | none=>rw [hx] at h1;cases h1
  | some z=>rw [hx] at h1 h2;cases h1;cases h2;exact ⟨⟨rfl,rfl⟩,rfl⟩⟩
theorem flat_int {xs : List Int} : flat (xs.map (Value.int .i64)) = xs.map (Value.int .i64):=by
  induction xs with
  | nil=>rfl
  | cons x xs ih=>show [Value.int .i64 x] ++ flat (xs.map (Value.int .i64)) = _;rw [ih];rfl
theorem mapBlock_row {blk : Nat} {f : Array Value → Array Value} {cs : Array Value} {ty : TypeId} {fr : Nat × Nat} (h : w.heap[blk]? = some (.cells cs ty fr)) : Go.Sort.mapBlock w blk f = w.setRow blk (f cs):=by
  have e : w.setRow blk (f cs) = Go.Sort.mapBlock w blk fun _=>f cs:=by
    unfold World.setRow Go.Sort.mapBlock
    congr 1
  rw [e]
  exact Go.Sort.mapBlock_congr w blk f _ fun c e fr' h'=>by rw [h] at h';cases h';rfl
theorem putCells_int {xs ys : List Int} {r : List Value} (hl : ys.length = xs.length) : Go.Sort.putCells (Value.int .i64) 0 ys.toArray (xs.map (Value.int .i64) ++ r).toArray = (ys.map (Value.int .i64) ++ r).toArray:=by
  apply Array.ext
  · simp [Go.Sort.putCells,hl]
  · intro i h1 h2
    have h1' : i < xs.length + r.length:=by simpa [Go.Sort.putCells] using h1
    simp only [Go.Sort.putCells,Array.getElem_mapIdx,Nat.zero_le,true_and,Nat.zero_add,Nat.sub_zero,List.size_toArray]
    by_cases hi : i < ys.length
    · rw [if_pos hi]
      simp [List.getElem_append,hi]
    · rw [if_neg hi]
      have hi2 : ¬ i < xs.length:=by omega
      simp [List.getElem_append,hi,hi2,hl]
variable {Q : Exit → Act → World → Prop} {rest : List Oper} {arr : Array Oper} {pos : String} {aft : Array Edge} {V : Value} {e f : Nat} {x : Operand} {u : List Nat} {ats : Array TypeId}
theorem W.rev {d : Nat} {B2 : List BX → List BX} {xs : List Int} [rc : RevC P f] (hO : OWNS none e V own (xs.map fun z => IT z)) [tl : Tl B own Bh] [hx : Opd L x (.ex V) u] [ap : ∀ own', AppX Bh own' (B2 own')] (hp : 0 < xs.length ∧ xs.length ≤ 9223372036854775807)
    (K : ∀ own a w G,OWNS none e V own (xs.reverse.map fun z=>IT z) → St W0 G0 N ((d,.ex (.tuple #[])) :: L) (B2 own) a w G → wpList P arr Q rest a w) (hdN : (decide (d < N)) = true:=by rfl) (hf : fresh d L = true:=by rfl) {ty' : TypeId} :
    St W0 G0 N L B a w G → wpList P arr Q (⟨some d,.call { callee:=.value (.func f),args:=#[x],argTypes:=ats },ty',pos,aft,none⟩ :: rest) a w:=fun S=>by
  have S':=S
  have hV : a.eval x = V:=hx.h (S.env u)
  rcases hO with ⟨rfl,rfl,h0⟩ | ⟨b,c,rfl,rfl,hc⟩
  · have : xs = []:=List.map_eq_nil_iff.1 h0
    subst this;exact absurd hp.1 (Nat.lt_irrefl 0)
  · rw [tl.h] at S'
    have hg : (Bh ++ [(⟨b,e,some (c * (none : Option Nat).getD 1),ROWS none (xs.map fun z=>IT z)⟩ : BX)])[Bh.length]? = some ⟨b,e,some (c * (none : Option Nat).getD 1),ROWS none (xs.map fun z=>IT z)⟩:=by simp
    obtain ⟨h1,h2,v,hv,hs,us,r,hvr,hE⟩:=S'.bx _ _ hg
    have hus:=els_int hE
    subst hus
    rw [flat_int] at hvr
    have hcells : v.cells = (xs.map (Value.int .i64) ++ r).toArray:=by rw [hvr];rfl
    have hcell : ∀ j,j < xs.length → w.cell? ⟨b,0 + j,none⟩ = some (Value.int .i64 xs.toArray[j]!) ∧ w.frozen? ⟨b,0 + j,none⟩ = false:=fun j hj=>by
      constructor
      · unfold World.cell?
        rw [hv]
        simp only [Nat.zero_add,Option.isSome_none]
        rw [hcells]
        simp [List.getElem?_append,hj,getElem!_pos]
      · unfold World.frozen?
        rw [hv]
        simp
    have hlen : (xs.map fun z=>IT z).length = xs.length:=List.length_map ..
    rw [hlen] at hc
    rw [hlen] at hV
    refine wpList_plain rfl (fun K' hK=>?_)
    unfold Oper.wp
    have hr : ∀ o : Oper,o.op = .call { callee:=.value (.func f),args:=#[x],argTypes:=ats } → (execOp a.eval o).run P w = .ok (.enter f #[.slice (some ⟨b,0,none⟩) xs.length c]) w:=fun o ho=>by
      have h0 : (execOp a.eval o).run P w = .ok (.enter f (#[x].map a.eval)) w:=by
        simp [execOp,ho,resolve,Act.eval,Deferred.ofValue,invoke,run_callFunc rc.c]
      rw [h0,show #[x].map a.eval = #[a.eval x] by simp,hV]
    rw [hr _ rfl]
    refine Calls.mono (rc.h b 0 c xs w (fun j hj=>hcell j (by simpa using hj)) hp.2) fun ex w' he=>?_
    obtain ⟨rfl,n,rfl⟩:=he
    have hv' : (Go.Sort.ahead w n).heap[b]? = some (.cells v.cells e (0,0)):=hv
    have hrev : Go.Sort.putRow (Value.int .i64) (Go.Sort.ahead w n) b 0 xs.reverse.toArray = (Go.Sort.ahead w n).setRow b ((xs.reverse.map (Value.int .i64) ++ r).toArray):=by
      unfold Go.Sort.putRow
      rw [mapBlock_row hv',hcells,putCells_int (by simp)]
    rw [hrev]
    have hsh : Shaped (some (c * (none : Option Nat).getD 1)) (.agg (xs.reverse.map (Value.int .i64) ++ r).toArray):=by
      obtain ⟨cs,hcs,hsz,hone⟩:=hs
      have hcs2 : cs = (xs.map (Value.int .i64) ++ r).toArray:=by rw [hvr] at hcs;injection hcs with hcs;exact hcs.symm
      subst hcs2
      refine ⟨_,rfl,by simpa using hsz,fun y hy=>?_⟩
      have hy : y ∈ xs.reverse.map (Value.int .i64) ++ r:=by simpa using hy
      rcases List.mem_append.1 hy with hy | hy
      · obtain ⟨z,_,rfl⟩:=List.mem_map.1 hy;rfl
      · exact hone y (by simp [hy])
    have S2:=(S'.aheadS n).setVar Bh.length hg (v:=.agg (xs.reverse.map (Value.int .i64) ++ r).toArray) (τ:=ROWS none (xs.reverse.map fun z=>IT z)) hsh ⟨xs.reverse.map (Value.int .i64),r,by rw [flat_int],int_els⟩
    have hset : (Bh ++ [(⟨b,e,some (c * (none : Option Nat).getD 1),ROWS none (xs.map fun z=>IT z)⟩ : BX)]).set Bh.length ⟨b,e,some (c * (none : Option Nat).getD 1),ROWS none (xs.reverse.map fun z=>IT z)⟩ = Bh ++ [⟨b,e,some (c * (none : Option Nat).getD 1),ROWS none (xs.reverse.map fun z=>IT z)⟩]:=by simp
    rw [hset] at S2
    exact hK _ _ (K [⟨b,e,some (c * (none : Option Nat).getD 1),ROWS none (xs.reverse.map fun z=>IT z)⟩] _ _ _ (.inr ⟨b,c,by simp,rfl,by simpa using hc⟩) ((ap _).h ▸ S2.put (of_decide_eq_true hdN) hf (τ:=.ex (.tuple #[])) rfl (Nxt.refl S2.ok)))
theorem W.oln {d : Nat} {t ty : TypeId} {k k' : Option Nat} {τs : List MT} (hO : OWNS k e V own τs) [s : SlE P t k'] [hx : Opd L x (.ex V) u] (K : ∀ a w G, St W0 G0 N ((d, NT τs.length) :: L) B a w G → wpList P arr Q rest a w) (hdN : (decide (d < N)) = true := by rfl) (hf : fresh d L = true := by rfl) :
    St W0 G0 N L B a w G → wpList P arr Q (⟨some d,.call { callee:=.builtin .len,args:=#[x],argTypes:=#[t] },ty,pos,aft,none⟩ :: rest) a w:=fun S =>
  wpList_plain rfl fun K' hK=>by
    have hv : OpR P ⟨some d,.call { callee:=.builtin .len,args:=#[x],argTypes:=#[t] },ty,pos,aft,none⟩ a w G (NT τs.length):=by
      obtain ⟨e',h1,h2⟩:=s.h
      have hV : a.eval x = V:=hx.h (S.env u)
      rcases hO with ⟨h3,_,h4⟩ | ⟨b,c,h3,_⟩
      · subst h4;exact .lenA S.ok rfl h1 (hV.trans h3) rfl
      · exact .lenA S.ok rfl h1 (hV.trans h3) rfl
    exact hv Q K' fun v w' G' hv hn=>hK _ _ (K _ _ _ (S.put (of_decide_eq_true hdN) hf hv hn))
end
end Go.Proofs.YtjphllpnhjemjaaGreat
set_option linter.unusedVariables false
set_option linter.unusedSimpArgs false
namespace Go.Proofs.YtjphllpnhjemjaaGreat
open Go.RowKit (Below)
open Go.MapKept
def MPE (arr : Array MapEntry) (c : Nat) (es : List (Int × Int)) : Prop:=Stamped arr c ∧ (arr.toList.map fun e=>(e.key,e.val)).Perm (es.map fun p=>(Value.int .i64 p.1,Value.int .i64 p.2))
def MP (es : List (Int × Int)) : MT:=⟨fun v G=>∃ r arr c,v = .map (some r) ∧ G r = some (.map arr c) ∧ MPE arr c es,fun hle ⟨r,arr,c,h1,h2,h3⟩=>⟨r,arr,c,h1,hle _ _ h2,h3⟩⟩
instance {es : List (Int × Int)} : ShK (MP es) none:=⟨fun h=>by obtain ⟨r,arr,c,rfl,_⟩:=h;exact ⟨rfl,rfl⟩⟩
structure StX (r : Nat) (o : Obj) (W0 : World) (G0 : Gh) (N : Nat) (L : List (Nat × MT)) (B : List BX) (a : Act) (w : World) (G : Gh) : Prop where
  s : St W0 G0 N L B a w G
  h0 : W0.heap.size ≤ r
  hG : G r = none
  hB : ∀ x ∈ B,x.b ≠ r
  hm : w.heap[r]? = some o
section
variable {P : Program} {W0 : World} {G0 : Gh} {N : Nat} {L L' : List (Nat × MT)} {B B' : List BX} {a : Act} {w : World} {G : Gh} {r : Nat} {ob : Obj}
theorem St.touch (S : St W0 G0 N L B a w G) {w' : World} (h0 : W0.heap.size ≤ r) (hG : G r = none) (hB : ∀ x ∈ B,x.b ≠ r) (hos : w'.os = w.os ∧ w'.tape = w.tape ∧ w'.output = w.output) (hsz : w'.heap.size = w.heap.size) (hbl : ∀ k,k ≠ r → w'.heap[k]? = w.heap[k]?) : St W0 G0 N L B a w' G where
  nxt:=⟨⟨hos.1.trans S.nxt.below.os,hos.2.1.trans S.nxt.below.tape,hos.2.2.trans S.nxt.below.output,by rw [hsz];exact S.nxt.below.size,fun k hk=>(hbl k (by omega)).trans (S.nxt.below.block k hk)⟩,S.nxt.agree,S.nxt.le,fun b o hb=>(hbl b (fun e=>by rw [e,hG] at hb;cases hb)).trans (S.ok b o hb)⟩
  size:=S.size
  dfr:=S.dfr
  ty:=S.ty
  bx:=fun i x h=>by
    obtain ⟨h1,h2,u,hu,hs,ht⟩:=S.bx i x h
    exact ⟨h1,h2,u,(hbl _ (hB x (List.mem_of_getElem? h))).trans hu,hs,ht⟩
  nd:=S.nd
theorem StX.lt (S : StX r ob W0 G0 N L B a w G) : r < w.heap.size:=(Array.getElem?_eq_some_iff.1 S.hm).1
theorem StX.set (S : StX r ob W0 G0 N L B a w G) (o' : Obj) : StX r o' W0 G0 N L B a { w with heap:=w.heap.setIfInBounds r o' } G :=
  ⟨S.s.touch S.h0 S.hG S.hB ⟨rfl,rfl,rfl⟩ (by simp) fun k hk=>(heap_set S.hm).2 k hk,S.h0,S.hG,S.hB,(heap_set S.hm).1⟩
theorem StX.drew (S : StX r ob W0 G0 N L B a w G) : StX r ob W0 G0 N L B a w.drew G :=
  ⟨S.s.touch S.h0 S.hG S.hB ⟨rfl,rfl,rfl⟩ rfl fun k hk=>rfl,S.h0,S.hG,S.hB,S.hm⟩
theorem StX.put (S : StX r ob W0 G0 N L B a w G) {d : Nat} {v : Value} {w' : World} {G' : Gh} {τ : MT} (hd : d < N) (hf : fresh d L = true) (hv : τ.t v G') (hn : Nxt w G w' G') : StX r ob W0 G0 N ((d,τ) :: L) B (a.put (some d) v) w' G' :=
  ⟨S.s.put hd hf hv hn,S.h0,(hn.agree _ S.lt).trans S.hG,S.hB,(hn.below.block _ S.lt).trans S.hm⟩
theorem StX.fz (S : StX r ob W0 G0 N L B a w G) : ∃ G',G' r = some ob ∧ Gle G G' ∧ St W0 G0 N L B a w G':=by
  have hle : Gle G (Gput G r ob):=fun k o hk=>by
    unfold Gput;split
    · rename_i e;subst e;rw [S.hG] at hk;cases hk
    · exact hk
  refine ⟨Gput G r ob,by simp [Gput],hle,⟨S.s.nxt.below,fun b hb=>?_,S.s.nxt.le.trans hle,fun b o hb=>?_⟩,S.s.size,S.s.dfr,fun i p h=>p.2.mono hle (S.s.ty i p h),fun i x h=>?_,S.s.nd⟩
  · have h0:=S.h0
    rw [← S.s.nxt.agree b hb];unfold Gput;rw [if_neg (by omega)]
  · unfold Gput at hb;split at hb
    · rename_i e;subst e;cases hb;exact S.hm
    · exact S.s.ok b o hb
  · obtain ⟨h1,h2,u,hu,hs,ht⟩:=S.s.bx i x h
    refine ⟨h1,?_,u,hu,hs,x.τ.mono hle ht⟩
    unfold Gput;rw [if_neg (S.hB x (List.mem_of_getElem? h))];exact h2
theorem StX.weak (S : StX r ob W0 G0 N L B a w G) (h : ∀ p ∈ L',p ∈ L) : StX r ob W0 G0 N L' B a w G :=
  ⟨S.s.weak fun i p hi=>by obtain ⟨j,hj⟩:=List.mem_iff_getElem?.1 (h p (List.mem_of_getElem? hi));exact S.s.ty j p hj,S.h0,S.hG,S.hB,S.hm⟩
end
class ApM (l m : List MT) (r : outParam (List MT)) : Prop where
  h : l ++ m = r
instance ApM.nil {m : List MT} : ApM [] m m:=⟨rfl⟩
instance ApM.cons {x : MT} {l m r : List MT} [h : ApM l m r] : ApM (x :: l) m (x :: r):=⟨by rw [← h.h];rfl⟩
instance Op1.apc {P : Program} {L : List (Nat × MT)} {B : List BX} {x y : Operand} {u v : List Nat} {t e by0 : Nat} {τ : MT} {τs σs ρs : List MT} [el : ElS P t e none by0 (.slice none 0 0)] [hx : Opd L x (LSC none τs) u] [hy : Opd L y τ v] [ay : AsLS τ none σs] [ap : ApM τs σs ρs] : Op1 P L B (.call { callee:=.builtin .append,args:=#[x,y],argTypes:=#[t,t] }) (τs.length + σs.length ≤ LIM ∧ (τs.length + σs.length) * by0 ≤ 140737488355328) (LS none ρs) (u ++ v):=⟨fun ho hok e' _ hp=>by
  have h:=OpR.appSC hok ho el.h1 el.h2 ⟨rfl,rfl⟩ (hx.h e'.l) (ay.h (hy.h e'.r)) hp.1 hp.2
  rw [ap.h] at h;exact h⟩
namespace X
section
variable {P : Program} {L L' : List (Nat × MT)} {B B' : List BX} {x y : Operand} {u v : List Nat} {t ty : TypeId} {τ τ' : MT} {n c b i j d : Nat} {k : Option Nat}
variable {W0 : World} {G0 : Gh} {N : Nat} {a : Act} {w : World} {G : Gh} {Q : Exit → Act → World → Prop} {pre : Prop} {rest : List Oper} {arr : Array Oper} {pos : String} {aft : Array Edge} {r : Nat} {ob : Obj} {p : Prop}
theorem op {op : Op} [h : Op1 P L B op pre τ u] (hp : pre) (K : ∀ a w G, StX r ob W0 G0 N ((d, τ) :: L) B a w G → wpList P arr Q rest a w) (hdN : (decide (d < N)) = true := by rfl) (hf : fresh d L = true := by rfl) :
    StX r ob W0 G0 N L B a w G → wpList P arr Q (⟨some d,op,ty,pos,aft,none⟩ :: rest) a w:=fun S =>
  wpList_plain rfl fun K' hK=>h.ok rfl S.s.ok (S.s.env u) (S.s.bok u) hp Q K' fun v w' G' hv hn=>hK _ _ (K _ _ _ (S.put (of_decide_eq_true hdN) hf hv hn))
theorem asg [h : Opd L x τ u] (K : ∀ a w G, StX r ob W0 G0 N ((d, τ) :: L) B a w G → wpList P arr Q rest a w) (hdN : (decide (d < N)) = true := by rfl) (hf : fresh d L = true := by rfl) :
    StX r ob W0 G0 N L B a w G → wpList P arr Q (⟨some d,.assign x,ty,pos,aft,none⟩ :: rest) a w:=fun S =>
  wpList_plain rfl fun K' hK=>by
    unfold Oper.wp
    have hr : (execOp a.eval ⟨some d,.assign x,ty,pos,aft,none⟩).run P w = .ok (.value (a.eval x)) w:=by simp [execOp]
    rw [hr]
    exact hK _ _ (K _ _ _ (S.put (of_decide_eq_true hdN) hf (h.h (S.s.env u)) (Nxt.refl S.s.ok)))
theorem cb {e : Bool} {c c' : Code} [h : Lk L t (BT e)] (h1 : e = true → StX r ob W0 G0 N L B a w G → c.wp P Q a w) (h2 : e = false → StX r ob W0 G0 N L B a w G → c'.wp P Q a w) : StX r ob W0 G0 N L B a w G → (Code.cond (.tmp t) c c').wp P Q a w:=fun S=>S.s.cb (fun e=>h1 e S) (fun e=>h2 e S)
theorem ste [s : Sto P L B t x y j τ pre u] [hB : BAt B j τ B'] (hp : pre) (K : ∀ w,StX r ob W0 G0 N L B' a w G → wpList P arr Q rest a w) {ty' : TypeId} : StX r ob W0 G0 N L B a w G → wpList P arr Q (⟨none,.store t x y,ty',pos,aft,none⟩ :: rest) a w:=fun S =>
  wpList_plain rfl fun K' hK=>by
    obtain ⟨xb,h1,h2⟩:=s.h
    obtain ⟨x0,h3,h4⟩:=hB.h
    rw [h1] at h3;cases h3
    obtain ⟨_,_,v,hv,hs,ht⟩:=S.s.bx j _ h1
    obtain ⟨v1,h5,h6,h7⟩:=h2 hp (S.s.env u) hv hs ht
    have hne : xb.b ≠ r:=S.hB xb (List.mem_of_getElem? h1)
    refine h7 Q K' rfl rfl (hK _ _ (K _ ⟨h4 ▸ S.s.setVar j h1 h5 h6,S.h0,S.hG,fun y hy=>?_,?_⟩))
    · rw [h4] at hy
      obtain ⟨m,hm⟩:=List.mem_iff_getElem?.1 hy
      rw [List.getElem?_set] at hm
      split at hm
      · split at hm
        · cases hm;exact hne
        · cases hm
      · exact S.hB y (List.mem_of_getElem? hm)
    · rw [setRow_other _ _ _ _ hne];exact S.hm
theorem mk (K : ∀ r a w G, StX r (.map #[] 0) W0 G0 N ((d, .ex (.map (some r))) :: L) B a w G → wpList P arr Q rest a w) (hdN : (decide (d < N)) = true := by rfl) (hf : fresh d L = true := by rfl) :
    St W0 G0 N L B a w G → wpList P arr Q (⟨some d,.makeMap t none,ty,pos,aft,none⟩ :: rest) a w:=fun S =>
  wpList_plain rfl fun K' hK=>by
    unfold Oper.wp
    have hr : (execOp a.eval ⟨some d,.makeMap t none,ty,pos,aft,none⟩).run P w = .ok (.value (.map (some w.heap.size))) (w.alloc (.map #[] 0)):=by simp [execOp,Instr.makeMap,Result.andThen]
    rw [hr]
    have hn:=Nxt.alloc S.ok (.map #[] 0)
    refine hK _ _ (K w.heap.size _ _ _ ⟨S.put (of_decide_eq_true hdN) hf rfl hn,S.nxt.below.size,S.ok.none (Nat.le_refl _),fun x hx e=>?_,heap_alloc_new w _⟩)
    obtain ⟨m,hm⟩:=List.mem_iff_getElem?.1 hx
    have:=(S.bx m x hm).lt
    omega
class MapI (P : Program) (t : TypeId) : Prop where
  h : ∃ kt et,P.underlying t = some (.map kt et) ∧ P.underlying kt = some (.int .i64)
theorem fz {es : Array MapEntry} {cl : Nat} {q : Prop} (d : Nat) (ps : List (Int × Int)) [h : Lk L d (.ex (.map (some r)))] [rm : Rm L d L'] (he : MPE es cl ps) (K : ∀ G,St W0 G0 N ((d,MP ps) :: L') B a w G → q) : StX r (.map es cl) W0 G0 N L B a w G → q:=fun S=>by
  obtain ⟨G',h1,h2,S'⟩:=S.fz
  refine K G' (S'.weak fun i p hi=>?_)
  rcases List.mem_cons.1 (List.mem_of_getElem? hi) with e | e
  · subst e;exact ⟨r,es,cl,S'.mem h.m,h1,he⟩
  · exact S'.mem (rm.h p e)
end
section
variable {P : Program} {w : World}
end
section
variable {P : Program} {L L' : List (Nat × MT)} {B B' : List BX} {x y : Operand} {u v : List Nat} {t ty : TypeId} {τ τ' : MT} {n b i j d : Nat} {k : Option Nat}
variable {W0 : World} {G0 : Gh} {N : Nat} {a : Act} {w : World} {G : Gh} {Q : Exit → Act → World → Prop} {pre : Prop} {rest : List Oper} {arr : Array Oper} {pos : String} {aft : Array Edge} {r ib c : Nat} {es : Array MapEntry} {seen : Array Nat} {e : MapEntry}
abbrev ITP (ib : Nat) : MT:=.ex (.pointer (some ⟨ib,0,none⟩))
theorem range [mi : MapI P t] [h : Lk L d (.ex (.map (some r)))] {d' : Nat} (hG : G0 r = some (.map es c)) (K : ∀ ib a w G, StX ib (.mapIter (some r) c #[] c) W0 G0 N ((d', ITP ib) :: L) B a w G → wpList P arr Q rest a w) (hdN : (decide (d' < N)) = true := by rfl) (hf : fresh d' L = true := by rfl) :
    St W0 G0 N L B a w G → wpList P arr Q (⟨some d',.range t (.tmp d),ty,pos,aft,none⟩ :: rest) a w:=fun S =>
  wpList_plain rfl fun K' hK=>by
    unfold Oper.wp
    obtain ⟨kt,et,hm,hd⟩:=mi.h
    have hd' : a.eval (.tmp d) = .map (some r):=S.mem h.m
    have hr : (execOp a.eval ⟨some d',.range t (.tmp d),ty,pos,aft,none⟩).run P w = .ok (.value (.pointer (some ⟨w.heap.size,0,none⟩))) (w.alloc (.mapIter (some r) c #[] c)):=by
      have h1:=run_range_map (P:=P) w t kt et r es c hm (S.ok _ _ (S.nxt.le _ _ hG))
      simp only [execOp,hd']
      simp [h1,Result.andThen]
    rw [hr]
    have hn:=Nxt.alloc S.ok (.mapIter (some r) c #[] c)
    refine hK _ _ (K w.heap.size _ _ _ ⟨S.put (of_decide_eq_true hdN) hf rfl hn,S.nxt.below.size,S.ok.none (Nat.le_refl _),fun x hx e=>?_,heap_alloc_new w _⟩)
    obtain ⟨m,hm⟩:=List.mem_iff_getElem?.1 hx
    have:=(S.bx m x hm).lt
    omega
def Hd (ib r c : Nat) (W0 : World) (G0 : Gh) (N : Nat) (Lh : List (Nat × MT)) (Bh : Array Nat → List BX) (seen : Array Nat) (a : Act) (w : World) : Prop:=∃ G,StX ib (.mapIter (some r) c seen c) W0 G0 N Lh (Bh seen) a w G
theorem lp {cd : Code} (es : Array MapEntry) (Lh : List (Nat × MT)) (Bh : Array Nat → List BX) (hB : B = Bh #[]) (hL : ∀ p ∈ Lh, p ∈ L)
    (round : ∀ seen a w G,StX ib (.mapIter (some r) c seen c) W0 G0 N Lh (Bh seen) a w G → cd.wp P (Exit.then (fun a w=>∃ seen',(leftOf es seen').size < (leftOf es seen).size ∧ Hd ib r c W0 G0 N Lh Bh seen' a w) Q) a w) :
    StX ib (.mapIter (some r) c #[] c) W0 G0 N L B a w G → (Code.loop cd).wp P Q a w:=fun S =>
  wp_loopJ (fun μ a w=>∃ seen,μ = (leftOf es seen).size ∧ Hd ib r c W0 G0 N Lh Bh seen a w) (leftOf es #[]).size ⟨#[],rfl,G,hB ▸ S.weak hL⟩ fun μ a w ⟨seen,e,G,S⟩=>by
    subst e
    refine Code.wp_mono ?_ (round seen a w G S)
    intro e a w h
    cases e <;> first | exact h | skip
    obtain ⟨y,h1,h2⟩:=h
    exact ⟨_,h1,y,rfl,h2⟩
theorem ag {Lh : List (Nat × MT)} {Bh : Array Nat → List BX} (hB : B = Bh (seen.push e.born)) (he : e ∈ (leftOf es seen).toList) (hL : ∀ p ∈ Lh, p ∈ L) :
    StX ib (.mapIter (some r) c (seen.push e.born) c) W0 G0 N L B a w G → Exit.then (fun a w=>∃ seen',(leftOf es seen').size < (leftOf es seen).size ∧ Hd ib r c W0 G0 N Lh Bh seen' a w) Q .normal a w:=fun S =>
  ⟨_,left_shrinks es seen e he,G,hB ▸ S.weak hL⟩
theorem out {id : Nat} {ob : Obj} (K : St W0 G0 N L B a w G → (Code.exit id).wp P Q a w) : StX r ob W0 G0 N L B a w G → (Code.exit id).wp P Q a w:=fun S=>K S.s
instance Op1.ex1 [h : Opd L x (.ex (.tuple #[.bool false])) u] : Op1 P L B (.extract x 0) True (BT false) u:=⟨fun ho hok e' _ _=>.run hok (by simp [execOp,ho,show _ = _ from h.h e',Instr.extract]) rfl⟩
end
end X
end Go.Proofs.YtjphllpnhjemjaaGreat
set_option linter.unusedVariables false
set_option linter.unusedSimpArgs false
namespace Go.Proofs.YtjphllpnhjemjaaGreat
open Go.RowKit (Below)
section
variable {P : Program} {o : Oper} {a : Act} {w : World} {G : Gh} {τ : MT}
theorem OpR.imax {x y : Operand} {k : IntKind} {ats : Array TypeId} {m n : Int} (hok : Gok w G) (ho : o.op = .call { callee := .builtin .max, args := #[x, y], argTypes := ats }) (hx : a.eval x = .int k m) (hy : a.eval y = .int k n)
    (h : τ.t (.int k (max m n)) G) : OpR P o a w G τ:=by
  refine .run hok (v:=.int k (max m n)) ?_ h
  have e : (if m < n then n else m) = max m n:=by split <;> omega
  simp [execOp,ho,resolve,invoke,builtin,hx,hy,Builtin.max_,Builtin.max2]
  omega
theorem OpR.imin {x y : Operand} {k : IntKind} {ats : Array TypeId} {m n : Int} (hok : Gok w G) (ho : o.op = .call { callee := .builtin .min, args := #[x, y], argTypes := ats }) (hx : a.eval x = .int k m) (hy : a.eval y = .int k n)
    (h : τ.t (.int k (min m n)) G) : OpR P o a w G τ:=by
  refine .run hok (v:=.int k (min m n)) ?_ h
  simp [execOp,ho,resolve,invoke,builtin,hx,hy,Builtin.min_,Builtin.min2]
  omega
end
section
variable {P : Program} {L : List (Nat × MT)} {B : List BX} {x y : Operand} {u v : List Nat} {m n : Int} {ats : Array TypeId}
instance (priority:=500) Op1.maxI [h : Opd L x (IT m) u] [h2 : Opd L y (IT n) v] : Op1 P L B (.call { callee:=.builtin .max,args:=#[x,y],argTypes:=ats }) True (IT (max m n)) (u ++ v):=⟨fun ho hok e _ _=>.imax hok ho (h.h e.l) (h2.h e.r) rfl⟩
instance (priority:=500) Op1.minI [h : Opd L x (IT m) u] [h2 : Opd L y (IT n) v] : Op1 P L B (.call { callee:=.builtin .min,args:=#[x,y],argTypes:=ats }) True (IT (min m n)) (u ++ v):=⟨fun ho hok e _ _=>.imin hok ho (h.h e.l) (h2.h e.r) rfl⟩
class SzK (k : Option Nat) (z : Value) : Prop where
  s : Shaped k z
instance SzK.q : SzK (some 3) (.agg #[.bool false,.slice none 0 0,.slice none 0 0]):=⟨ZV.q.s⟩
instance SzK.sl : SzK none (.slice none 0 0):=⟨ZV.sl.s⟩
instance SzK.i {kd : IntKind} : SzK none (.int kd 0):=⟨ZV.i.s⟩
instance (priority:=500) Op1.apk {α : Type} {T : α → MT} {xs ys : List α} {t e by0 : Nat} {k : Option Nat} {z : Value} {τs : List MT} [el : ElS P t e k by0 z] [sz : SzK k z] [hx : Opd L x (LSC k τs) u] [hy : Opd L y (LS k (ys.map T)) v] [ax : AsTL τs T xs] : Op1 P L B (.call { callee:=.builtin .append,args:=#[x,y],argTypes:=#[t,t] }) (xs.length + ys.length ≤ LIM ∧ (xs.length + ys.length) * by0 ≤ 140737488355328) (LS k ((xs ++ ys).map T)) (u ++ v):=⟨fun {W0 w a G o} ho hok e' _ hp=>by
  have hxx:=hx.h e'.l
  have hl:=ax.h.1
  have h:=OpR.appSC hok ho el.h1 el.h2 sz.s hxx (hy.h e'.r) (by rw [hl,List.length_map];exact hp.1) (by rw [hl,List.length_map];exact hp.2)
  refine fun Q K hK=>h Q K fun v w' G' hv hn=>hK v w' G' ?_ hn
  rw [List.map_append]
  exact LS.els hv (by simp [hl]) fun i τ σ h1 h2 v' hv'=>by
    rw [List.getElem?_append] at h1 h2
    simp only [List.length_map] at h2
    by_cases hi : i < τs.length
    · rw [if_pos hi] at h1
      rw [if_pos (by omega)] at h2
      obtain ⟨q,hq,hc⟩:=ax.h.2 i τ h1
      rw [List.getElem?_map,hq] at h2
      cases h2
      exact hc hv'
    · rw [if_neg hi] at h1
      rw [if_neg (by omega),← hl] at h2
      rw [h1] at h2;cases h2;exact hv'⟩
end
end Go.Proofs.YtjphllpnhjemjaaGreat
set_option linter.unusedVariables false
set_option linter.unusedSimpArgs false
namespace Go.Proofs.YtjphllpnhjemjaaGreat
open Go.RowKit (Below)
class Drp (L : List (Nat × MT)) (ws : List Nat) (L' : outParam (List (Nat × MT))) : Prop where
  h : ∀ p ∈ L',p ∈ L
instance Drp.nil {ws : List Nat} : Drp [] ws []:=⟨fun _ h=>h⟩
instance Drp.hd {L L' : List (Nat × MT)} {ws : List Nat} {t : Nat} {τ : MT} [In ws t] [h : Drp L ws L'] : Drp ((t,τ) :: L) ws L':=⟨fun p hp=>.tail _ (h.h p hp)⟩
instance (priority:=500) Drp.tl {L L' : List (Nat × MT)} {ws : List Nat} {x : Nat × MT} [h : Drp L ws L'] : Drp (x :: L) ws (x :: L'):=⟨fun p hp=>by
  rcases List.mem_cons.1 hp with e | e
  · subst e;exact .head _
  · exact .tail _ (h.h p e)⟩
class GcT (f id : Nat) (k : Bool) (t : outParam Nat) (ws : outParam (List Nat)) : Prop
section
variable {P : Program} {B : List BX} {L L' : List (Nat × MT)} {W0 : World} {G0 : Gh} {N : Nat} {a : Act} {w : World} {G : Gh} {Q : Exit → Act → World → Prop} {c c1 : Code} {τ0 : MT} {bd : Bool} {l : Array Oper}
theorem W.gcc (f : Nat) {id t : Nat} {ws : List Nat} [g : GcT f id false t ws] [Lk L t τ0] [d : Drp L (t :: ws) L'] (h : St W0 G0 N L' B a w G → (Code.seq (.region id l bd) c).wp P Q a w) : St W0 G0 N L B a w G → (Code.seq (.region id l bd) c).wp P Q a w:=fun S=>h (S.only d.h)
theorem W.gcd (f : Nat) {id t : Nat} {ws : List Nat} [g : GcT f id true t ws] [Lk L t τ0] [d : Drp L (t :: ws) L'] (h : St W0 G0 N L' B a w G → (Code.seq (.block id c1) c).wp P Q a w) : St W0 G0 N L B a w G → (Code.seq (.block id c1) c).wp P Q a w:=fun S=>h (S.only d.h)
end
end Go.Proofs.YtjphllpnhjemjaaGreat
set_option linter.unusedVariables false
set_option linter.unusedSimpArgs false
set_option maxHeartbeats 4000000
set_option maxRecDepth 100000
set_option synthInstance.maxSize 100000
set_option synthInstance.maxHeartbeats 400000
namespace Go.Proofs.YtjphllpnhjemjaaGreat
open Go.RowKit (Below)
attribute [local irreducible] Go.Code.wp Go.wpList Go.bodyPost
private theorem gS_ {W0 : World} {G0 : Gh} {N : Nat} {L : List (Nat × MT)} {B : List BX} {a : Act} {w : World} {G : Gh} {q : Prop} (h : St W0 G0 N L B a w G → q) : St W0 G0 N L B a w G → q:=h
private theorem gL_ {p : Prop} {P : Program} {arr : Array Oper} {Q : Exit → Act → World → Prop} {l : List Oper} {a : Act} {w : World} (h : p → wpList P arr Q l a w) : p → wpList P arr Q l a w:=h
private theorem gC_ {p : Prop} {P : Program} {c : Code} {Q : Exit → Act → World → Prop} {a : Act} {w : World} (h : p → c.wp P Q a w) : p → c.wp P Q a w:=h
private theorem mixedOrders : Tryz.prog.follows .mixedOrders = true:=by kernel_rfl
abbrev WTX (w : WT) : MT:=PTS [(none,IT w.1),(none,IT w.2.1),(some 3,FX 128 w.2.2.1),(none,IT w.2.2.2)]
abbrev WTS (l : List WT) : MT:=LS (some 6) (l.map WTX)
abbrev WRX (w : WT) : MT:=PTS [(none,IT w.1),(none,IT w.2.1),(some 3,RX w.2.2.1),(none,IT w.2.2.2)]
abbrev WRS (l : List WT) : MT:=LS (some 6) (l.map WRX)
abbrev QNS (n : Nat) (s : List Rat) : MT:=LS (some 3) (s.map (QC n))
abbrev ITS (lo : List Int) : MT:=LS none (lo.map fun z=>IT z)
section
variable {n : Int} {l : List WT} {w : WT} {r : FR}
theorem ch_3 (h : (decide (n < 1) || decide (n > 16)) = true) : chW n l = 3:=by
  simp only [Bool.or_eq_true,decide_eq_true_eq] at h
  unfold chW;rw [if_pos (by omega)]
theorem ch_4 (h : (decide (n < 1) || decide (n > 16)) = false) (h2 : ((l.length : Nat) : Int) > 64) : chW n l = 4:=by
  simp only [Bool.or_eq_false_iff,decide_eq_false_iff_not] at h
  unfold chW;rw [if_neg (by omega),if_pos (by omega)]
theorem ch_f (h : (decide (n < 1) || decide (n > 16)) = false) (h2 : ¬ ((l.length : Nat) : Int) > 64) : chW n l = fsW n l:=by
  simp only [Bool.or_eq_false_iff,decide_eq_false_iff_not] at h
  unfold chW;rw [if_neg (by omega),if_neg (by omega)]
theorem gd_9 (h : (decide (min w.1 w.2.1 < 0) || decide (max w.1 w.2.1 ≥ n)) = true) : gdW n w = 9:=by
  simp only [Bool.or_eq_true,decide_eq_true_eq] at h
  unfold gdW;rw [if_pos (by omega)]
theorem gd_3 (h : (decide (min w.1 w.2.1 < 0) || decide (max w.1 w.2.1 ≥ n)) = false) (h2 : ((!w.2.2.1.ok || decide (w.2.2.2 < 0)) || decide (w.2.2.2 > 8)) = true) : gdW n w = 3:=by
  simp only [Bool.or_eq_false_iff,decide_eq_false_iff_not] at h
  simp only [Bool.or_eq_true,decide_eq_true_eq,Bool.not_eq_true'] at h2
  unfold gdW
  rw [if_neg (by omega),if_neg (by rintro ⟨h3,h4,h5⟩;rcases h2 with (h2 | h2) | h2 <;> first | omega | (rw [h3] at h2;cases h2))]
theorem gd_0 (h : (decide (min w.1 w.2.1 < 0) || decide (max w.1 w.2.1 ≥ n)) = false) (h2 : ((!w.2.2.1.ok || decide (w.2.2.2 < 0)) || decide (w.2.2.2 > 8)) = false) : gdW n w = 0:=by
  simp only [Bool.or_eq_false_iff,decide_eq_false_iff_not] at h h2
  unfold gdW
  rw [if_neg (by omega),if_pos ⟨by simpa using h2.1.1,by omega,by omega⟩]
def gvC (n : Int) (l : List WT) (r : FR) : Int:=if chW n l = 0 then (if nnR r = true then 0 else 3) else chW n l
theorem gv_c (h : ¬ chW n l = 0) : gvC n l r = chW n l:=if_neg h
theorem nn_t (h : (!r.ok || decide (r.val.num.sign < 0)) = true) : nnR r = false:=by
  unfold nnR
  simp only [Bool.or_eq_true,Bool.not_eq_true',decide_eq_true_eq] at h
  rcases h with h | h
  · rw [h];rfl
  · have:=(num_sg r.val).2.2.1 h
    rw [decide_eq_false (show ¬ 0 ≤ r.val by grind),Bool.and_false]
theorem nn_f (h : (!r.ok || decide (r.val.num.sign < 0)) = false) : nnR r = true:=by
  unfold nnR
  simp only [Bool.or_eq_false_iff,decide_eq_false_iff_not,Bool.not_eq_false'] at h
  rw [h.1,decide_eq_true (show 0 ≤ r.val by have:=(num_sg r.val).2.2.2;grind)];rfl
theorem gv_3 (h : chW n l = 0) (h2 : (!r.ok || decide (r.val.num.sign < 0)) = true) : gvC n l r = 3:=by unfold gvC;rw [if_pos h,nn_t h2];rfl
theorem gv_0 (h : chW n l = 0) (h2 : (!r.ok || decide (r.val.num.sign < 0)) = false) : gvC n l r = 0:=by unfold gvC;rw [if_pos h,nn_f h2];rfl
theorem tu_bd {lo : List Int} (ht : ∀ i,i < l.length → 0 ≤ (l.getD i default).2.2.2 ∧ (l.getD i default).2.2.2 ≤ 8) (hi : INL l lo) : ∀ j,j ≤ lo.length → 0 ≤ tuF l lo j ∧ tuF l lo j ≤ 8 * (j : Int):=by
  intro j
  induction j with
  | zero=>intro _;exact ⟨Int.le_refl 0,Int.le_refl 0⟩
  | succ j ih =>
    intro hj
    have h1:=ih (by omega)
    have h2:=hi j (by omega)
    have h3:=ht (lo.getD j default).toNat (by omega)
    show 0 ≤ tuF l lo j + _ ∧ tuF l lo j + _ ≤ _
    omega
end
theorem w30 {w : WT} {p : Rat} : Con Tryz.prog 30 [WTX w,QC 2200 p] (-1000000 ≤ w.2.2.2 ∧ w.2.2.2 ≤ 1000000) (QC 2400 (wgW p w)):=.o2 fun hok h1 h2 hp=>by
  refine St.enter (N:=13) Tryz.func30 rfl rfl rfl hok (enter2 h1 h2) fun a=>?_
  repeat' (first|((with_reducible refine gS_ ?_);first|((with_reducible refine gL_ ?_);first|refine W.run ?_ fun a w G=>?_|refine W.mv fun a w G=>?_|refine W.asg fun a w G=>?_|refine W.bx fun b a w G=>?_|(refine W.nn hK ?_;clear hK K)|refine W.nl ?_|refine W.al fun b a w G=>?_|refine W.st fun w=>?_|refine W.stp fun w=>?_|refine W.ste ?_ fun w=>?_)|((with_reducible refine gC_ ?_);first|refine W.reg fun K hK=>?_|refine W.reg1 ?_|refine W.sq fun K hK=>?_|refine W.ds ?_ (fun β a w G hu=>W.fin ?_ hu) mixedOrders (by kernel_rfl)|refine W.sk ?_|refine W.cd (fun hc=>?_) (fun hc=>?_)|refine W.cb (fun hc=>?_) (fun hc=>?_)|refine W.bl ?_|refine W.ex ?_|refine W.rt ?_)|((with_reducible refine W.kn hK ?_);clear hK K)|(with_reducible first|refine W.bn ?_|refine W.xt ?_|refine W.xb ?_|refine W.xo ?_|refine W.tr ?_|refine W.br ?_)|refine W.rt1 rfl ?_|refine W.rt2 rfl ?_ ?_|refine W.rt3 rfl ?_ ?_ ?_)|clear hK K|clear hu|exact True.intro|exact Nat.le_trans (by clear hp;omega) hp|exact Nat.le_trans (by clear hp;omega) hp.1|exact Nat.le_trans (by clear hp;omega) hp.2|(clear hp;omega)|apply And.intro|refine GI.i fun _=>?_|with_reducible rfl|decide|(simp only [List.length_cons,List.length_nil];omega))
  all_goals first | omega | decide | rfl | skip
instance {w : WT} {p : Rat} {τ2 : MT} [j2 : NQ τ2 (QC 2200 p)] : Con Tryz.prog 30 [WTX w,τ2] (-1000000 ≤ w.2.2.2 ∧ w.2.2.2 ≤ 1000000) (QC 2400 (wgW p w)):=.o2 fun hok h1 h2 hp=>w30.c2 hok h1 (j2.h h2) hp
instance {n : Int} {l : List WT} : Con Tryz.prog 41 [IT n,WTS l] (True) (.ex (errV 59 (chW n l))):=.o2 fun hok h1 h2 hp=>by
  refine St.enter (N:=56) Tryz.func41 rfl rfl rfl hok (enter2 h1 h2) fun a=>?_
  have hlim:=LS.lenM h2
  simp only [LIM] at hlim
  repeat' (first|((with_reducible refine gS_ ?_);first|((with_reducible refine gL_ ?_);first|refine W.run ?_ fun a w G=>?_|refine W.mv fun a w G=>?_|refine W.asg fun a w G=>?_|refine W.bx fun b a w G=>?_|(refine W.nn hK ?_;clear hK K)|refine W.nl ?_|refine W.al fun b a w G=>?_|refine W.st fun w=>?_|refine W.stp fun w=>?_|refine W.ste ?_ fun w=>?_)|((with_reducible refine gC_ ?_);first|refine W.reg fun K hK=>?_|refine W.reg1 ?_|refine W.sq fun K hK=>?_|refine W.ds ?_ (fun β a w G hu=>W.fin ?_ hu) mixedOrders (by kernel_rfl)|refine W.sk ?_|refine W.cd (fun hc=>?_) (fun hc=>?_)|refine W.cb (fun hc=>?_) (fun hc=>?_)|refine W.bl ?_|refine W.ex ?_|refine W.rt ?_)|((with_reducible refine W.kn hK ?_);clear hK K)|(with_reducible first|refine W.bn ?_|refine W.xt ?_|refine W.xb ?_|refine W.xo ?_|refine W.tr ?_|refine W.br ?_)|refine W.rt1 rfl ?_|refine W.rt2 rfl ?_ ?_|refine W.rt3 rfl ?_ ?_ ?_)|refine W.lp 21 (α:=Nat) (fun j=>l.length - j) (fun j=>j ≤ l.length ∧ fsW n l = fsW n (l.drop j)) [4,6,20,21,22,23,24,25,26,27,28,29,30,31,32,33,34,35,36,37,38,39,40,41,42,43,44,45,46,47,48,49,50,51,52,53,54,55] (fun j=>[(20,NT j)]) (fun j=>[]) (0) ?_ ?_ ?_ fun j hj a w G=>?_|refine W.ag (x:=j) (j+1) ?_ ?_ ?_ ?_|clear hK K|clear hu|exact True.intro|exact Nat.le_trans (by clear hp;omega) hp|exact Nat.le_trans (by clear hp;omega) hp.1|exact Nat.le_trans (by clear hp;omega) hp.2|(clear hp;omega)|apply And.intro|refine GI.i fun _=>?_|with_reducible rfl|decide|(simp only [List.length_cons,List.length_nil];omega))
  all_goals first
    | omega
    | (have h9:=ch_3 (n:=n) (l:=l) (by assumption);first | exact h9 | exact h9.symm | (rw [h9];done) | (rw [← h9];done))
    | (have h9:=ch_4 (n:=n) (l:=l) (by assumption) (by assumption);first | exact h9 | exact h9.symm | (rw [h9];done) | (rw [← h9];done))
    | (have h9:=(ch_f (by assumption) (by assumption)).trans (hj.2.trans ((fs_stop (n:=n) (l:=l) (j:=j) (by omega) (by rw [gd_9 (by assumption)];decide)).trans (gd_9 (by assumption))));first | exact h9 | exact h9.symm | (rw [h9];done) | (rw [← h9];done))
    | (have h9:=(ch_f (by assumption) (by assumption)).trans (hj.2.trans ((fs_stop (n:=n) (l:=l) (j:=j) (by omega) (by rw [gd_3 (by assumption) (by assumption)];decide)).trans (gd_3 (by assumption) (by assumption))));first | exact h9 | exact h9.symm | (rw [h9];done) | (rw [← h9];done))
    | (have h9:=(ch_f (by assumption) (by assumption)).trans (hj.2.trans (fs_end (n:=n) (l:=l) (j:=j) (by omega)));first | exact h9 | exact h9.symm | (rw [h9];done) | (rw [← h9];done))
    | exact hj.2.trans (fs_drop (by omega) (gd_0 (by assumption) (by assumption)))
    | rfl
    | skip
theorem chkR {n : Int} {l : List WT} : Con Tryz.prog 41 [IT n,WRS l] (64 < l.length) (.ex (errV 59 (chW n l))):=.o2 fun hok h1 h2 hp=>by
  refine St.enter (N:=56) Tryz.func41 rfl rfl rfl hok (enter2 h1 h2) fun a=>?_
  repeat' (first|((with_reducible refine gS_ ?_);first|((with_reducible refine gL_ ?_);first|refine W.run ?_ fun a w G=>?_|refine W.mv fun a w G=>?_|refine W.asg fun a w G=>?_|refine W.bx fun b a w G=>?_|(refine W.nn hK ?_;clear hK K)|refine W.nl ?_|refine W.al fun b a w G=>?_|refine W.st fun w=>?_|refine W.stp fun w=>?_|refine W.ste ?_ fun w=>?_)|((with_reducible refine gC_ ?_);first|with_reducible refine W.cbt (by exact decide_eq_true (show ((l.length : Nat) : Int) > 64 by omega)) ?_|refine W.reg fun K hK=>?_|refine W.reg1 ?_|refine W.sq fun K hK=>?_|refine W.ds ?_ (fun β a w G hu=>W.fin ?_ hu) mixedOrders (by kernel_rfl)|refine W.sk ?_|refine W.cd (fun hc=>?_) (fun hc=>?_)|refine W.cb (fun hc=>?_) (fun hc=>?_)|refine W.bl ?_|refine W.ex ?_|refine W.rt ?_)|((with_reducible refine W.kn hK ?_);clear hK K)|(with_reducible first|refine W.bn ?_|refine W.xt ?_|refine W.xb ?_|refine W.xo ?_|refine W.tr ?_|refine W.br ?_)|refine W.rt1 rfl ?_|refine W.rt2 rfl ?_ ?_|refine W.rt3 rfl ?_ ?_ ?_)|clear hK K|clear hu|exact True.intro|exact Nat.le_trans (by clear hp;omega) hp|exact Nat.le_trans (by clear hp;omega) hp.1|exact Nat.le_trans (by clear hp;omega) hp.2|(clear hp;omega)|apply And.intro|refine GI.i fun _=>?_|with_reducible rfl|decide|(simp only [List.length_cons,List.length_nil];omega))
  all_goals first
    | omega
    | (have h9:=ch_3 (n:=n) (l:=l) (by assumption);first | exact h9 | exact h9.symm | (rw [h9];done) | (rw [← h9];done))
    | (have h9:=ch_4 (n:=n) (l:=l) (by assumption) (by omega);first | exact h9 | exact h9.symm | (rw [h9];done) | (rw [← h9];done))
    | rfl
    | skip
instance {n : Int} {l : List WT} : Con Tryz.prog 41 [IT n,WRS l] (64 < l.length) (.ex (errV 59 (chW n l))):=chkR
theorem w27 {n : Int} {l : List WT} {m : Nat} {r : FR} : Con Tryz.prog 27 [IT n,WTS l,FX m r] (m ≤ 2200) (.ex (errV 59 (gvC n l r))):=.o3 fun hok h1 h2 h3 hp=>by
  refine St.enter (N:=23) Tryz.func27 rfl rfl rfl hok (enter3 h1 h2 h3) fun a=>?_
  repeat' (first|((with_reducible refine gS_ ?_);first|((with_reducible refine gL_ ?_);first|refine W.run ?_ fun a w G=>?_|refine W.mv fun a w G=>?_|refine W.asg fun a w G=>?_|refine W.bx fun b a w G=>?_|(refine W.nn hK ?_;clear hK K)|refine W.nl ?_|refine W.al fun b a w G=>?_|refine W.st fun w=>?_|refine W.stp fun w=>?_|refine W.ste ?_ fun w=>?_)|((with_reducible refine gC_ ?_);first|refine W.reg fun K hK=>?_|refine W.reg1 ?_|refine W.sq fun K hK=>?_|refine W.ds ?_ (fun β a w G hu=>W.fin ?_ hu) mixedOrders (by kernel_rfl)|refine W.sk ?_|refine W.cd (fun hc=>?_) (fun hc=>?_)|refine W.cb (fun hc=>?_) (fun hc=>?_)|refine W.bl ?_|refine W.ex ?_|refine W.rt ?_)|((with_reducible refine W.kn hK ?_);clear hK K)|(with_reducible first|refine W.bn ?_|refine W.xt ?_|refine W.xb ?_|refine W.xo ?_|refine W.tr ?_|refine W.br ?_)|refine W.rt1 rfl ?_|refine W.rt2 rfl ?_ ?_|refine W.rt3 rfl ?_ ?_ ?_)|clear hK K|clear hu|exact True.intro|exact Nat.le_trans (by clear hp;omega) hp|exact Nat.le_trans (by clear hp;omega) hp.1|exact Nat.le_trans (by clear hp;omega) hp.2|(clear hp;omega)|apply And.intro|refine GI.i fun _=>?_|with_reducible rfl|decide|(simp only [List.length_cons,List.length_nil];omega))
  all_goals first
    | omega
    | (simp only [BIG];omega)
    | (have h9:=gv_c (n:=n) (l:=l) (r:=r) (by assumption);first | exact h9 | exact h9.symm | (rw [h9];done) | (rw [← h9];done))
    | (have h9:=gv_3 (n:=n) (l:=l) (r:=r) (by omega) (by assumption);first | exact h9 | exact h9.symm | (rw [h9];done) | (rw [← h9];done))
    | (have h9:=gv_0 (n:=n) (l:=l) (r:=r) (by omega) (by assumption);first | exact h9 | exact h9.symm | (rw [h9];done) | (rw [← h9];done))
    | rfl
    | skip
instance {n : Int} {l : List WT} {m : Nat} {r : FR} {τ3 : MT} [j3 : NF τ3 (FX m r)] : Con Tryz.prog 27 [IT n,WTS l,τ3] (m ≤ 2200) (.ex (errV 59 (gvC n l r))):=.o3 fun hok h1 h2 h3 hp=>w27.c3 hok h1 h2 (j3.h h3) hp
instance {l : List WT} {lo : List Int} : Con Tryz.prog 42 [WTS l,ITS lo] (INL l lo ∧ lo.length ≤ 100 ∧ (∀ i,i < l.length → 0 ≤ (l.getD i default).2.2.2 ∧ (l.getD i default).2.2.2 ≤ 8)) (MT.tup2 (QC (129 * lo.length + 1) (tiF l lo lo.length)) (IT (tuF l lo lo.length))):=.o2 fun hok h1 h2 hp=>by
  refine St.enter (N:=33) Tryz.func42 rfl rfl rfl hok (enter2 h1 h2) fun a=>?_
  repeat' (first|((with_reducible refine gS_ ?_);first|((with_reducible refine gL_ ?_);first|refine W.run ?_ fun a w G=>?_|refine W.mv fun a w G=>?_|refine W.asg fun a w G=>?_|refine W.bx fun b a w G=>?_|(refine W.nn hK ?_;clear hK K)|refine W.nl ?_|refine W.al fun b a w G=>?_|refine W.st fun w=>?_|refine W.stp fun w=>?_|refine W.ste ?_ fun w=>?_)|((with_reducible refine gC_ ?_);first|refine W.reg fun K hK=>?_|refine W.reg1 ?_|refine W.sq fun K hK=>?_|refine W.ds ?_ (fun β a w G hu=>W.fin ?_ hu) mixedOrders (by kernel_rfl)|refine W.sk ?_|refine W.cd (fun hc=>?_) (fun hc=>?_)|refine W.cb (fun hc=>?_) (fun hc=>?_)|refine W.bl ?_|refine W.ex ?_|refine W.rt ?_)|((with_reducible refine W.kn hK ?_);clear hK K)|(with_reducible first|refine W.bn ?_|refine W.xt ?_|refine W.xb ?_|refine W.xo ?_|refine W.tr ?_|refine W.br ?_)|refine W.rt1 rfl ?_|refine W.rt2 rfl ?_ ?_|refine W.rt3 rfl ?_ ?_ ?_)|refine W.lp 13 (α:=Nat) (fun j=>lo.length - j) (fun j=>j ≤ lo.length) [7,9,12,13,14,15,16,17,18,19,20,21,22,23,24,25,26,27,28,29,30] (fun j=>[(12,NT j),(7,IT (tuF l lo j))]) (fun j=>[(6,QC (129 * j + 1) (tiF l lo j))]) (0) ?_ ?_ ?_ fun j hj a w G=>?_|refine W.ag (x:=j) (j+1) ?_ ?_ ?_ ?_|clear hK K|clear hu|exact True.intro|exact Nat.le_trans (by clear hp;omega) hp|exact Nat.le_trans (by clear hp;omega) hp.1|exact Nat.le_trans (by clear hp;omega) hp.2|(clear hp;omega)|apply And.intro|refine GI.i fun _=>?_|with_reducible rfl|decide|(simp only [List.length_cons,List.length_nil];omega))
  all_goals (try have hij:=hp.1 j (by omega))
  all_goals (try have hb:=tu_bd hp.2.2 hp.1 j (by omega))
  all_goals (try have hb2:=tu_bd hp.2.2 hp.1 (j + 1) (by omega))
  all_goals (try have hb3 : tuF l lo (j + 1) = tuF l lo j + (l.getD (lo.getD j default).toNat default).2.2.2:=rfl)
  all_goals first
    | omega
    | rfl
    | (have e9 : j = lo.length := by omega
       subst e9
       first | omega | rfl)
    | (simp only [BIG];omega)
    | skip
end Go.Proofs.YtjphllpnhjemjaaGreat
