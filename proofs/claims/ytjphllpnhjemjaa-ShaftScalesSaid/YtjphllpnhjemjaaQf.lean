import Derived.MapKept
import Derived.Laws.IdiomRangeMap
import Derived.Test.YtjphllpnhjemjaaQe
set_option linter.unusedVariables false
set_option linter.unusedSimpArgs false
set_option linter.unusedVariables false
set_option linter.unusedSimpArgs false
namespace Go.Proofs.Ytjphllpnhjemjaa
open Go.RowKit (Below)
open Go.MapKept
def MPE (arr : Array MapEntry) (c : Nat) (es : List (Int × Int)) : Prop:=Stamped arr c ∧ (arr.toList.map fun e=>(e.key,e.val)).Perm (es.map fun p=>(Value.int .i64 p.1,Value.int .i64 p.2))
def MP (es : List (Int × Int)) : MT:=⟨fun v G=>∃ r arr c,v = .map (some r) ∧ G r = some (.map arr c) ∧ MPE arr c es,fun hle ⟨r,arr,c,h1,h2,h3⟩=>⟨r,arr,c,h1,hle _ _ h2,h3⟩⟩
instance {es : List (Int × Int)} : ShK (MP es) none:=⟨fun h=>by obtain ⟨r,arr,c,rfl,_⟩:=h;exact ⟨rfl,rfl⟩⟩
structure StX (r : Nat) (o : Obj) (W0 : World) (G0 : Gh) (N : Nat) (L : List (Nat × MT)) (B : List BX) (a : Act) (w : World) (G : Gh) : Prop where
  s : St W0 G0 N L B a w G
  h0 : W0.heap.size ≤ r
  hG : G r = none
  hB : ∀ x ∈ B,x.b ≠ r
  hm : w.heap[r]? = some o
section
variable {P : Program} {W0 : World} {G0 : Gh} {N : Nat} {L L' : List (Nat × MT)} {B B' : List BX} {a : Act} {w : World} {G : Gh} {r : Nat} {ob : Obj}
theorem St.touch (S : St W0 G0 N L B a w G) {w' : World} (h0 : W0.heap.size ≤ r) (hG : G r = none) (hB : ∀ x ∈ B,x.b ≠ r) (hos : w'.os = w.os ∧ w'.tape = w.tape ∧ w'.output = w.output) (hsz : w'.heap.size = w.heap.size) (hbl : ∀ k,k ≠ r → w'.heap[k]? = w.heap[k]?) : St W0 G0 N L B a w' G where
  nxt:=⟨⟨hos.1.trans S.nxt.below.os,hos.2.1.trans S.nxt.below.tape,hos.2.2.trans S.nxt.below.output,by rw [hsz];exact S.nxt.below.size,fun k hk=>(hbl k (by omega)).trans (S.nxt.below.block k hk)⟩,S.nxt.agree,S.nxt.le,fun b o hb=>(hbl b (fun e=>by rw [e,hG] at hb;cases hb)).trans (S.ok b o hb)⟩
  size:=S.size
  dfr:=S.dfr
  ty:=S.ty
  bx:=fun i x h=>by
    obtain ⟨h1,h2,u,hu,hs,ht⟩:=S.bx i x h
    exact ⟨h1,h2,u,(hbl _ (hB x (List.mem_of_getElem? h))).trans hu,hs,ht⟩
  nd:=S.nd
theorem StX.lt (S : StX r ob W0 G0 N L B a w G) : r < w.heap.size:=(Array.getElem?_eq_some_iff.1 S.hm).1
theorem StX.set (S : StX r ob W0 G0 N L B a w G) (o' : Obj) : StX r o' W0 G0 N L B a { w with heap:=w.heap.setIfInBounds r o' } G :=
  ⟨S.s.touch S.h0 S.hG S.hB ⟨rfl,rfl,rfl⟩ (by simp) fun k hk=>(heap_set S.hm).2 k hk,S.h0,S.hG,S.hB,(heap_set S.hm).1⟩
theorem StX.drew (S : StX r ob W0 G0 N L B a w G) : StX r ob W0 G0 N L B a w.drew G :=
  ⟨S.s.touch S.h0 S.hG S.hB ⟨rfl,rfl,rfl⟩ rfl fun k hk=>rfl,S.h0,S.hG,S.hB,S.hm⟩
theorem StX.put (S : StX r ob W0 G0 N L B a w G) {d : Nat} {v : Value} {w' : World} {G' : Gh} {τ : MT} (hd : d < N) (hf : fresh d L = true) (hv : τ.t v G') (hn : Nxt w G w' G') : StX r ob W0 G0 N ((d,τ) :: L) B (a.put (some d) v) w' G' :=
  ⟨S.s.put hd hf hv hn,S.h0,(hn.agree _ S.lt).trans S.hG,S.hB,(hn.below.block _ S.lt).trans S.hm⟩
theorem StX.fz (S : StX r ob W0 G0 N L B a w G) : ∃ G',G' r = some ob ∧ Gle G G' ∧ St W0 G0 N L B a w G':=by
  have hle : Gle G (Gput G r ob):=fun k o hk=>by
    unfold Gput;split
    · rename_i e;subst e;rw [S.hG] at hk;cases hk
    · exact hk
  refine ⟨Gput G r ob,by simp [Gput],hle,⟨S.s.nxt.below,fun b hb=>?_,S.s.nxt.le.trans hle,fun b o hb=>?_⟩,S.s.size,S.s.dfr,fun i p h=>p.2.mono hle (S.s.ty i p h),fun i x h=>?_,S.s.nd⟩
  · have h0:=S.h0
    rw [← S.s.nxt.agree b hb];unfold Gput;rw [if_neg (by omega)]
  · unfold Gput at hb;split at hb
    · rename_i e;subst e;cases hb;exact S.hm
    · exact S.s.ok b o hb
  · obtain ⟨h1,h2,u,hu,hs,ht⟩:=S.s.bx i x h
    refine ⟨h1,?_,u,hu,hs,x.τ.mono hle ht⟩
    unfold Gput;rw [if_neg (S.hB x (List.mem_of_getElem? h))];exact h2
theorem StX.weak (S : StX r ob W0 G0 N L B a w G) (h : ∀ p ∈ L',p ∈ L) : StX r ob W0 G0 N L' B a w G :=
  ⟨S.s.weak fun i p hi=>by obtain ⟨j,hj⟩:=List.mem_iff_getElem?.1 (h p (List.mem_of_getElem? hi));exact S.s.ty j p hj,S.h0,S.hG,S.hB,S.hm⟩
end
class ApM (l m : List MT) (r : outParam (List MT)) : Prop where
  h : l ++ m = r
instance ApM.nil {m : List MT} : ApM [] m m:=⟨rfl⟩
instance ApM.cons {x : MT} {l m r : List MT} [h : ApM l m r] : ApM (x :: l) m (x :: r):=⟨by rw [← h.h];rfl⟩
instance Op1.apc {P : Program} {L : List (Nat × MT)} {B : List BX} {x y : Operand} {u v : List Nat} {t e by0 : Nat} {τ : MT} {τs σs ρs : List MT} [el : ElS P t e none by0 (.slice none 0 0)] [hx : Opd L x (LSC none τs) u] [hy : Opd L y τ v] [ay : AsLS τ none σs] [ap : ApM τs σs ρs] : Op1 P L B (.call { callee:=.builtin .append,args:=#[x,y],argTypes:=#[t,t] }) (τs.length + σs.length ≤ LIM ∧ (τs.length + σs.length) * by0 ≤ 140737488355328) (LS none ρs) (u ++ v):=⟨fun ho hok e' _ hp=>by
  have h:=OpR.appSC hok ho el.h1 el.h2 ⟨rfl,rfl⟩ (hx.h e'.l) (ay.h (hy.h e'.r)) hp.1 hp.2
  rw [ap.h] at h;exact h⟩
namespace X
section
variable {P : Program} {L L' : List (Nat × MT)} {B B' : List BX} {x y : Operand} {u v : List Nat} {t ty : TypeId} {τ τ' : MT} {n c b i j d : Nat} {k : Option Nat}
variable {W0 : World} {G0 : Gh} {N : Nat} {a : Act} {w : World} {G : Gh} {Q : Exit → Act → World → Prop} {pre : Prop} {rest : List Oper} {arr : Array Oper} {pos : String} {aft : Array Edge} {r : Nat} {ob : Obj} {p : Prop}
theorem op {op : Op} [h : Op1 P L B op pre τ u] (hp : pre) (K : ∀ a w G, StX r ob W0 G0 N ((d, τ) :: L) B a w G → wpList P arr Q rest a w) (hdN : (decide (d < N)) = true := by rfl) (hf : fresh d L = true := by rfl) :
    StX r ob W0 G0 N L B a w G → wpList P arr Q (⟨some d,op,ty,pos,aft,none⟩ :: rest) a w:=fun S =>
  wpList_plain rfl fun K' hK=>h.ok rfl S.s.ok (S.s.env u) (S.s.bok u) hp Q K' fun v w' G' hv hn=>hK _ _ (K _ _ _ (S.put (of_decide_eq_true hdN) hf hv hn))
theorem asg [h : Opd L x τ u] (K : ∀ a w G, StX r ob W0 G0 N ((d, τ) :: L) B a w G → wpList P arr Q rest a w) (hdN : (decide (d < N)) = true := by rfl) (hf : fresh d L = true := by rfl) :
    StX r ob W0 G0 N L B a w G → wpList P arr Q (⟨some d,.assign x,ty,pos,aft,none⟩ :: rest) a w:=fun S =>
  wpList_plain rfl fun K' hK=>by
    unfold Oper.wp
    have hr : (execOp a.eval ⟨some d,.assign x,ty,pos,aft,none⟩).run P w = .ok (.value (a.eval x)) w:=by simp [execOp]
    rw [hr]
    exact hK _ _ (K _ _ _ (S.put (of_decide_eq_true hdN) hf (h.h (S.s.env u)) (Nxt.refl S.s.ok)))
theorem cb {e : Bool} {c c' : Code} [h : Lk L t (BT e)] (h1 : e = true → StX r ob W0 G0 N L B a w G → c.wp P Q a w) (h2 : e = false → StX r ob W0 G0 N L B a w G → c'.wp P Q a w) : StX r ob W0 G0 N L B a w G → (Code.cond (.tmp t) c c').wp P Q a w:=fun S=>S.s.cb (fun e=>h1 e S) (fun e=>h2 e S)
theorem ste [s : Sto P L B t x y j τ pre u] [hB : BAt B j τ B'] (hp : pre) (K : ∀ w,StX r ob W0 G0 N L B' a w G → wpList P arr Q rest a w) {ty' : TypeId} : StX r ob W0 G0 N L B a w G → wpList P arr Q (⟨none,.store t x y,ty',pos,aft,none⟩ :: rest) a w:=fun S =>
  wpList_plain rfl fun K' hK=>by
    obtain ⟨xb,h1,h2⟩:=s.h
    obtain ⟨x0,h3,h4⟩:=hB.h
    rw [h1] at h3;cases h3
    obtain ⟨_,_,v,hv,hs,ht⟩:=S.s.bx j _ h1
    obtain ⟨v1,h5,h6,h7⟩:=h2 hp (S.s.env u) hv hs ht
    have hne : xb.b ≠ r:=S.hB xb (List.mem_of_getElem? h1)
    refine h7 Q K' rfl rfl (hK _ _ (K _ ⟨h4 ▸ S.s.setVar j h1 h5 h6,S.h0,S.hG,fun y hy=>?_,?_⟩))
    · rw [h4] at hy
      obtain ⟨m,hm⟩:=List.mem_iff_getElem?.1 hy
      rw [List.getElem?_set] at hm
      split at hm
      · split at hm
        · cases hm;exact hne
        · cases hm
      · exact S.hB y (List.mem_of_getElem? hm)
    · rw [setRow_other _ _ _ _ hne];exact S.hm
theorem mk (K : ∀ r a w G, StX r (.map #[] 0) W0 G0 N ((d, .ex (.map (some r))) :: L) B a w G → wpList P arr Q rest a w) (hdN : (decide (d < N)) = true := by rfl) (hf : fresh d L = true := by rfl) :
    St W0 G0 N L B a w G → wpList P arr Q (⟨some d,.makeMap t none,ty,pos,aft,none⟩ :: rest) a w:=fun S =>
  wpList_plain rfl fun K' hK=>by
    unfold Oper.wp
    have hr : (execOp a.eval ⟨some d,.makeMap t none,ty,pos,aft,none⟩).run P w = .ok (.value (.map (some w.heap.size))) (w.alloc (.map #[] 0)):=by simp [execOp,Instr.makeMap,Result.andThen]
    rw [hr]
    have hn:=Nxt.alloc S.ok (.map #[] 0)
    refine hK _ _ (K w.heap.size _ _ _ ⟨S.put (of_decide_eq_true hdN) hf rfl hn,S.nxt.below.size,S.ok.none (Nat.le_refl _),fun x hx e=>?_,heap_alloc_new w _⟩)
    obtain ⟨m,hm⟩:=List.mem_iff_getElem?.1 hx
    have:=(S.bx m x hm).lt
    omega
class MapI (P : Program) (t : TypeId) : Prop where
  h : ∃ kt et,P.underlying t = some (.map kt et) ∧ P.underlying kt = some (.int .i64)
theorem fz {es : Array MapEntry} {cl : Nat} {q : Prop} (d : Nat) (ps : List (Int × Int)) [h : Lk L d (.ex (.map (some r)))] [rm : Rm L d L'] (he : MPE es cl ps) (K : ∀ G,St W0 G0 N ((d,MP ps) :: L') B a w G → q) : StX r (.map es cl) W0 G0 N L B a w G → q:=fun S=>by
  obtain ⟨G',h1,h2,S'⟩:=S.fz
  refine K G' (S'.weak fun i p hi=>?_)
  rcases List.mem_cons.1 (List.mem_of_getElem? hi) with e | e
  · subst e;exact ⟨r,es,cl,S'.mem h.m,h1,he⟩
  · exact S'.mem (rm.h p e)
end
section
variable {P : Program} {w : World}
end
section
variable {P : Program} {L L' : List (Nat × MT)} {B B' : List BX} {x y : Operand} {u v : List Nat} {t ty : TypeId} {τ τ' : MT} {n b i j d : Nat} {k : Option Nat}
variable {W0 : World} {G0 : Gh} {N : Nat} {a : Act} {w : World} {G : Gh} {Q : Exit → Act → World → Prop} {pre : Prop} {rest : List Oper} {arr : Array Oper} {pos : String} {aft : Array Edge} {r ib c : Nat} {es : Array MapEntry} {seen : Array Nat} {e : MapEntry}
abbrev ITP (ib : Nat) : MT:=.ex (.pointer (some ⟨ib,0,none⟩))
theorem range [mi : MapI P t] [h : Lk L d (.ex (.map (some r)))] {d' : Nat} (hG : G0 r = some (.map es c)) (K : ∀ ib a w G, StX ib (.mapIter (some r) c #[] c) W0 G0 N ((d', ITP ib) :: L) B a w G → wpList P arr Q rest a w) (hdN : (decide (d' < N)) = true := by rfl) (hf : fresh d' L = true := by rfl) :
    St W0 G0 N L B a w G → wpList P arr Q (⟨some d',.range t (.tmp d),ty,pos,aft,none⟩ :: rest) a w:=fun S =>
  wpList_plain rfl fun K' hK=>by
    unfold Oper.wp
    obtain ⟨kt,et,hm,hd⟩:=mi.h
    have hd' : a.eval (.tmp d) = .map (some r):=S.mem h.m
    have hr : (execOp a.eval ⟨some d',.range t (.tmp d),ty,pos,aft,none⟩).run P w = .ok (.value (.pointer (some ⟨w.heap.size,0,none⟩))) (w.alloc (.mapIter (some r) c #[] c)):=by
      have h1:=run_range_map (P:=P) w t kt et r es c hm (S.ok _ _ (S.nxt.le _ _ hG))
      simp only [execOp,hd']
      simp [h1,Result.andThen]
    rw [hr]
    have hn:=Nxt.alloc S.ok (.mapIter (some r) c #[] c)
    refine hK _ _ (K w.heap.size _ _ _ ⟨S.put (of_decide_eq_true hdN) hf rfl hn,S.nxt.below.size,S.ok.none (Nat.le_refl _),fun x hx e=>?_,heap_alloc_new w _⟩)
    obtain ⟨m,hm⟩:=List.mem_iff_getElem?.1 hx
    have:=(S.bx m x hm).lt
    omega
def Hd (ib r c : Nat) (W0 : World) (G0 : Gh) (N : Nat) (Lh : List (Nat × MT)) (Bh : Array Nat → List BX) (seen : Array Nat) (a : Act) (w : World) : Prop:=∃ G,StX ib (.mapIter (some r) c seen c) W0 G0 N Lh (Bh seen) a w G
theorem lp {cd : Code} (es : Array MapEntry) (Lh : List (Nat × MT)) (Bh : Array Nat → List BX) (hB : B = Bh #[]) (hL : ∀ p ∈ Lh, p ∈ L)
    (round : ∀ seen a w G,StX ib (.mapIter (some r) c seen c) W0 G0 N Lh (Bh seen) a w G → cd.wp P (Exit.then (fun a w=>∃ seen',(leftOf es seen').size < (leftOf es seen).size ∧ Hd ib r c W0 G0 N Lh Bh seen' a w) Q) a w) :
    StX ib (.mapIter (some r) c #[] c) W0 G0 N L B a w G → (Code.loop cd).wp P Q a w:=fun S =>
  wp_loopJ (fun μ a w=>∃ seen,μ = (leftOf es seen).size ∧ Hd ib r c W0 G0 N Lh Bh seen a w) (leftOf es #[]).size ⟨#[],rfl,G,hB ▸ S.weak hL⟩ fun μ a w ⟨seen,e,G,S⟩=>by
    subst e
    refine Code.wp_mono ?_ (round seen a w G S)
    intro e a w h
    cases e <;> first | exact h | skip
    obtain ⟨y,h1,h2⟩:=h
    exact ⟨_,h1,y,rfl,h2⟩
theorem ag {Lh : List (Nat × MT)} {Bh : Array Nat → List BX} (hB : B = Bh (seen.push e.born)) (he : e ∈ (leftOf es seen).toList) (hL : ∀ p ∈ Lh, p ∈ L) :
    StX ib (.mapIter (some r) c (seen.push e.born) c) W0 G0 N L B a w G → Exit.then (fun a w=>∃ seen',(leftOf es seen').size < (leftOf es seen).size ∧ Hd ib r c W0 G0 N Lh Bh seen' a w) Q .normal a w:=fun S =>
  ⟨_,left_shrinks es seen e he,G,hB ▸ S.weak hL⟩
theorem out {id : Nat} {ob : Obj} (K : St W0 G0 N L B a w G → (Code.exit id).wp P Q a w) : StX r ob W0 G0 N L B a w G → (Code.exit id).wp P Q a w:=fun S=>K S.s
instance Op1.ex1 [h : Opd L x (.ex (.tuple #[.bool false])) u] : Op1 P L B (.extract x 0) True (BT false) u:=⟨fun ho hok e' _ _=>.run hok (by simp [execOp,ho,show _ = _ from h.h e',Instr.extract]) rfl⟩
end
end X
end Go.Proofs.Ytjphllpnhjemjaa
set_option linter.unusedVariables false
set_option linter.unusedSimpArgs false
namespace Go.Proofs.Ytjphllpnhjemjaa
open Go.RowKit (Below)
section
variable {P : Program} {o : Oper} {a : Act} {w : World} {G : Gh} {τ : MT}
theorem OpR.imax {x y : Operand} {k : IntKind} {ats : Array TypeId} {m n : Int} (hok : Gok w G) (ho : o.op = .call { callee := .builtin .max, args := #[x, y], argTypes := ats }) (hx : a.eval x = .int k m) (hy : a.eval y = .int k n)
    (h : τ.t (.int k (max m n)) G) : OpR P o a w G τ:=by
  refine .run hok (v:=.int k (max m n)) ?_ h
  have e : (if m < n then n else m) = max m n:=by split <;> omega
  simp [execOp,ho,resolve,invoke,builtin,hx,hy,Builtin.max_,Builtin.max2]
  omega
theorem OpR.imin {x y : Operand} {k : IntKind} {ats : Array TypeId} {m n : Int} (hok : Gok w G) (ho : o.op = .call { callee := .builtin .min, args := #[x, y], argTypes := ats }) (hx : a.eval x = .int k m) (hy : a.eval y = .int k n)
    (h : τ.t (.int k (min m n)) G) : OpR P o a w G τ:=by
  refine .run hok (v:=.int k (min m n)) ?_ h
  simp [execOp,ho,resolve,invoke,builtin,hx,hy,Builtin.min_,Builtin.min2]
  omega
end
section
variable {P : Program} {L : List (Nat × MT)} {B : List BX} {x y : Operand} {u v : List Nat} {m n : Int} {ats : Array TypeId}
instance (priority:=500) Op1.maxI [h : Opd L x (IT m) u] [h2 : Opd L y (IT n) v] : Op1 P L B (.call { callee:=.builtin .max,args:=#[x,y],argTypes:=ats }) True (IT (max m n)) (u ++ v):=⟨fun ho hok e _ _=>.imax hok ho (h.h e.l) (h2.h e.r) rfl⟩
instance (priority:=500) Op1.minI [h : Opd L x (IT m) u] [h2 : Opd L y (IT n) v] : Op1 P L B (.call { callee:=.builtin .min,args:=#[x,y],argTypes:=ats }) True (IT (min m n)) (u ++ v):=⟨fun ho hok e _ _=>.imin hok ho (h.h e.l) (h2.h e.r) rfl⟩
class SzK (k : Option Nat) (z : Value) : Prop where
  s : Shaped k z
instance SzK.q : SzK (some 3) (.agg #[.bool false,.slice none 0 0,.slice none 0 0]):=⟨ZV.q.s⟩
instance SzK.sl : SzK none (.slice none 0 0):=⟨ZV.sl.s⟩
instance SzK.i {kd : IntKind} : SzK none (.int kd 0):=⟨ZV.i.s⟩
instance (priority:=500) Op1.apk {α : Type} {T : α → MT} {xs ys : List α} {t e by0 : Nat} {k : Option Nat} {z : Value} {τs : List MT} [el : ElS P t e k by0 z] [sz : SzK k z] [hx : Opd L x (LSC k τs) u] [hy : Opd L y (LS k (ys.map T)) v] [ax : AsTL τs T xs] : Op1 P L B (.call { callee:=.builtin .append,args:=#[x,y],argTypes:=#[t,t] }) (xs.length + ys.length ≤ LIM ∧ (xs.length + ys.length) * by0 ≤ 140737488355328) (LS k ((xs ++ ys).map T)) (u ++ v):=⟨fun {W0 w a G o} ho hok e' _ hp=>by
  have hxx:=hx.h e'.l
  have hl:=ax.h.1
  have h:=OpR.appSC hok ho el.h1 el.h2 sz.s hxx (hy.h e'.r) (by rw [hl,List.length_map];exact hp.1) (by rw [hl,List.length_map];exact hp.2)
  refine fun Q K hK=>h Q K fun v w' G' hv hn=>hK v w' G' ?_ hn
  rw [List.map_append]
  exact LS.els hv (by simp [hl]) fun i τ σ h1 h2 v' hv'=>by
    rw [List.getElem?_append] at h1 h2
    simp only [List.length_map] at h2
    by_cases hi : i < τs.length
    · rw [if_pos hi] at h1
      rw [if_pos (by omega)] at h2
      obtain ⟨q,hq,hc⟩:=ax.h.2 i τ h1
      rw [List.getElem?_map,hq] at h2
      cases h2
      exact hc hv'
    · rw [if_neg hi] at h1
      rw [if_neg (by omega),← hl] at h2
      rw [h1] at h2;cases h2;exact hv'⟩
end
end Go.Proofs.Ytjphllpnhjemjaa
set_option linter.unusedVariables false
set_option linter.unusedSimpArgs false
namespace Go.Proofs.Ytjphllpnhjemjaa
open Go.RowKit (Below)
class Drp (L : List (Nat × MT)) (ws : List Nat) (L' : outParam (List (Nat × MT))) : Prop where
  h : ∀ p ∈ L',p ∈ L
instance Drp.nil {ws : List Nat} : Drp [] ws []:=⟨fun _ h=>h⟩
instance Drp.hd {L L' : List (Nat × MT)} {ws : List Nat} {t : Nat} {τ : MT} [In ws t] [h : Drp L ws L'] : Drp ((t,τ) :: L) ws L':=⟨fun p hp=>.tail _ (h.h p hp)⟩
instance (priority:=500) Drp.tl {L L' : List (Nat × MT)} {ws : List Nat} {x : Nat × MT} [h : Drp L ws L'] : Drp (x :: L) ws (x :: L'):=⟨fun p hp=>by
  rcases List.mem_cons.1 hp with e | e
  · subst e;exact .head _
  · exact .tail _ (h.h p e)⟩
class GcT (f id : Nat) (k : Bool) (t : outParam Nat) (ws : outParam (List Nat)) : Prop
section
variable {P : Program} {B : List BX} {L L' : List (Nat × MT)} {W0 : World} {G0 : Gh} {N : Nat} {a : Act} {w : World} {G : Gh} {Q : Exit → Act → World → Prop} {c c1 : Code} {τ0 : MT} {bd : Bool} {l : Array Oper}
theorem W.gcc (f : Nat) {id t : Nat} {ws : List Nat} [g : GcT f id false t ws] [Lk L t τ0] [d : Drp L (t :: ws) L'] (h : St W0 G0 N L' B a w G → (Code.seq (.region id l bd) c).wp P Q a w) : St W0 G0 N L B a w G → (Code.seq (.region id l bd) c).wp P Q a w:=fun S=>h (S.only d.h)
theorem W.gcd (f : Nat) {id t : Nat} {ws : List Nat} [g : GcT f id true t ws] [Lk L t τ0] [d : Drp L (t :: ws) L'] (h : St W0 G0 N L' B a w G → (Code.seq (.block id c1) c).wp P Q a w) : St W0 G0 N L B a w G → (Code.seq (.block id c1) c).wp P Q a w:=fun S=>h (S.only d.h)
end
end Go.Proofs.Ytjphllpnhjemjaa
set_option linter.unusedVariables false
set_option linter.unusedSimpArgs false
set_option maxHeartbeats 4000000
set_option maxRecDepth 100000
set_option synthInstance.maxSize 100000
set_option synthInstance.maxHeartbeats 400000
namespace Go.Proofs.Ytjphllpnhjemjaa
open Go.RowKit (Below)
attribute [local irreducible] Go.Code.wp Go.wpList Go.bodyPost
private theorem gS_ {W0 : World} {G0 : Gh} {N : Nat} {L : List (Nat × MT)} {B : List BX} {a : Act} {w : World} {G : Gh} {q : Prop} (h : St W0 G0 N L B a w G → q) : St W0 G0 N L B a w G → q:=h
private theorem gL_ {p : Prop} {P : Program} {arr : Array Oper} {Q : Exit → Act → World → Prop} {l : List Oper} {a : Act} {w : World} (h : p → wpList P arr Q l a w) : p → wpList P arr Q l a w:=h
private theorem gC_ {p : Prop} {P : Program} {c : Code} {Q : Exit → Act → World → Prop} {a : Act} {w : World} (h : p → c.wp P Q a w) : p → c.wp P Q a w:=h
private theorem mixedOrders : Try.prog.follows .mixedOrders = true:=by kernel_rfl
abbrev WTX (w : WT) : MT:=PTS [(none,IT w.1),(none,IT w.2.1),(some 3,FX 256 w.2.2.1),(none,IT w.2.2.2)]
abbrev WTS (l : List WT) : MT:=LS (some 6) (l.map WTX)
abbrev WRX (w : WT) : MT:=PTS [(none,IT w.1),(none,IT w.2.1),(some 3,RX w.2.2.1),(none,IT w.2.2.2)]
abbrev WRS (l : List WT) : MT:=LS (some 6) (l.map WRX)
abbrev QNS (n : Nat) (s : List Rat) : MT:=LS (some 3) (s.map (QC n))
abbrev ITS (lo : List Int) : MT:=LS none (lo.map fun z=>IT z)
section
variable {n : Int} {l : List WT} {w : WT} {r : FR}
theorem ch_3 (h : (decide (n < 1) || decide (n > 16)) = true) : chW n l = 3:=by
  simp only [Bool.or_eq_true,decide_eq_true_eq] at h
  unfold chW;rw [if_pos (by omega)]
theorem ch_4 (h : (decide (n < 1) || decide (n > 16)) = false) (h2 : ((l.length : Nat) : Int) > 64) : chW n l = 4:=by
  simp only [Bool.or_eq_false_iff,decide_eq_false_iff_not] at h
  unfold chW;rw [if_neg (by omega),if_pos (by omega)]
theorem ch_f (h : (decide (n < 1) || decide (n > 16)) = false) (h2 : ¬ ((l.length : Nat) : Int) > 64) : chW n l = fsW n l:=by
  simp only [Bool.or_eq_false_iff,decide_eq_false_iff_not] at h
  unfold chW;rw [if_neg (by omega),if_neg (by omega)]
theorem gd_9 (h : (decide (min w.1 w.2.1 < 0) || decide (max w.1 w.2.1 ≥ n)) = true) : gdW n w = 9:=by
  simp only [Bool.or_eq_true,decide_eq_true_eq] at h
  unfold gdW;rw [if_pos (by omega)]
theorem gd_3 (h : (decide (min w.1 w.2.1 < 0) || decide (max w.1 w.2.1 ≥ n)) = false) (h2 : ((!w.2.2.1.ok || decide (w.2.2.2 < 0)) || decide (w.2.2.2 > 8)) = true) : gdW n w = 3:=by
  simp only [Bool.or_eq_false_iff,decide_eq_false_iff_not] at h
  simp only [Bool.or_eq_true,decide_eq_true_eq,Bool.not_eq_true'] at h2
  unfold gdW
  rw [if_neg (by omega),if_neg (by rintro ⟨h3,h4,h5⟩;rcases h2 with (h2 | h2) | h2 <;> first | omega | (rw [h3] at h2;cases h2))]
theorem gd_0 (h : (decide (min w.1 w.2.1 < 0) || decide (max w.1 w.2.1 ≥ n)) = false) (h2 : ((!w.2.2.1.ok || decide (w.2.2.2 < 0)) || decide (w.2.2.2 > 8)) = false) : gdW n w = 0:=by
  simp only [Bool.or_eq_false_iff,decide_eq_false_iff_not] at h h2
  unfold gdW
  rw [if_neg (by omega),if_pos ⟨by simpa using h2.1.1,by omega,by omega⟩]
def gvC (n : Int) (l : List WT) (r : FR) : Int:=if chW n l = 0 then (if nnR r = true then 0 else 3) else chW n l
theorem gv_c (h : ¬ chW n l = 0) : gvC n l r = chW n l:=if_neg h
theorem nn_t (h : (!r.ok || decide (r.val.num.sign < 0)) = true) : nnR r = false:=by
  unfold nnR
  simp only [Bool.or_eq_true,Bool.not_eq_true',decide_eq_true_eq] at h
  rcases h with h | h
  · rw [h];rfl
  · have:=(num_sg r.val).2.2.1 h
    rw [decide_eq_false (show ¬ 0 ≤ r.val by grind),Bool.and_false]
theorem nn_f (h : (!r.ok || decide (r.val.num.sign < 0)) = false) : nnR r = true:=by
  unfold nnR
  simp only [Bool.or_eq_false_iff,decide_eq_false_iff_not,Bool.not_eq_false'] at h
  rw [h.1,decide_eq_true (show 0 ≤ r.val by have:=(num_sg r.val).2.2.2;grind)];rfl
theorem gv_3 (h : chW n l = 0) (h2 : (!r.ok || decide (r.val.num.sign < 0)) = true) : gvC n l r = 3:=by unfold gvC;rw [if_pos h,nn_t h2];rfl
theorem gv_0 (h : chW n l = 0) (h2 : (!r.ok || decide (r.val.num.sign < 0)) = false) : gvC n l r = 0:=by unfold gvC;rw [if_pos h,nn_f h2];rfl
theorem tu_bd {lo : List Int} (ht : ∀ i,i < l.length → 0 ≤ (l.getD i default).2.2.2 ∧ (l.getD i default).2.2.2 ≤ 8) (hi : INL l lo) : ∀ j,j ≤ lo.length → 0 ≤ tuF l lo j ∧ tuF l lo j ≤ 8 * (j : Int):=by
  intro j
  induction j with
  | zero=>intro _;exact ⟨Int.le_refl 0,Int.le_refl 0⟩
  | succ j ih =>
    intro hj
    have h1:=ih (by omega)
    have h2:=hi j (by omega)
    have h3:=ht (lo.getD j default).toNat (by omega)
    show 0 ≤ tuF l lo j + _ ∧ tuF l lo j + _ ≤ _
    omega
end
theorem w43 {w : WT} {p : Rat} : Con Try.prog 43 [WTX w,QC 4400 p] (-1000000 ≤ w.2.2.2 ∧ w.2.2.2 ≤ 1000000) (QC 4800 (wgW p w)):=.o2 fun hok h1 h2 hp=>by
  refine St.enter (N:=13) Try.func43 rfl rfl rfl hok (enter2 h1 h2) fun a=>?_
  repeat' (first|((with_reducible refine gS_ ?_);first|((with_reducible refine gL_ ?_);first|refine W.run ?_ fun a w G=>?_|refine W.mv fun a w G=>?_|refine W.asg fun a w G=>?_|refine W.bx fun b a w G=>?_|(refine W.nn hK ?_;clear hK K)|refine W.nl ?_|refine W.al fun b a w G=>?_|refine W.st fun w=>?_|refine W.stp fun w=>?_|refine W.ste ?_ fun w=>?_)|((with_reducible refine gC_ ?_);first|refine W.reg fun K hK=>?_|refine W.reg1 ?_|refine W.sq fun K hK=>?_|refine W.ds ?_ (fun β a w G hu=>W.fin ?_ hu) mixedOrders (by kernel_rfl)|refine W.sk ?_|refine W.cd (fun hc=>?_) (fun hc=>?_)|refine W.cb (fun hc=>?_) (fun hc=>?_)|refine W.bl ?_|refine W.ex ?_|refine W.rt ?_)|((with_reducible refine W.kn hK ?_);clear hK K)|(with_reducible first|refine W.bn ?_|refine W.xt ?_|refine W.xb ?_|refine W.xo ?_|refine W.tr ?_|refine W.br ?_)|refine W.rt1 rfl ?_|refine W.rt2 rfl ?_ ?_|refine W.rt3 rfl ?_ ?_ ?_)|clear hK K|clear hu|exact True.intro|exact Nat.le_trans (by clear hp;omega) hp|exact Nat.le_trans (by clear hp;omega) hp.1|exact Nat.le_trans (by clear hp;omega) hp.2|(clear hp;omega)|apply And.intro|refine GI.i fun _=>?_|with_reducible rfl|decide|(simp only [List.length_cons,List.length_nil];omega))
  all_goals first | omega | decide | rfl | skip
instance {w : WT} {p : Rat} {τ2 : MT} [j2 : NQ τ2 (QC 4400 p)] : Con Try.prog 43 [WTX w,τ2] (-1000000 ≤ w.2.2.2 ∧ w.2.2.2 ≤ 1000000) (QC 4800 (wgW p w)):=.o2 fun hok h1 h2 hp=>w43.c2 hok h1 (j2.h h2) hp
instance {n : Int} {l : List WT} : Con Try.prog 36 [IT n,WTS l] (True) (.ex (errV 47 (chW n l))):=.o2 fun hok h1 h2 hp=>by
  refine St.enter (N:=56) Try.func36 rfl rfl rfl hok (enter2 h1 h2) fun a=>?_
  have hlim:=LS.lenM h2
  simp only [LIM] at hlim
  repeat' (first|((with_reducible refine gS_ ?_);first|((with_reducible refine gL_ ?_);first|refine W.run ?_ fun a w G=>?_|refine W.mv fun a w G=>?_|refine W.asg fun a w G=>?_|refine W.bx fun b a w G=>?_|(refine W.nn hK ?_;clear hK K)|refine W.nl ?_|refine W.al fun b a w G=>?_|refine W.st fun w=>?_|refine W.stp fun w=>?_|refine W.ste ?_ fun w=>?_)|((with_reducible refine gC_ ?_);first|refine W.reg fun K hK=>?_|refine W.reg1 ?_|refine W.sq fun K hK=>?_|refine W.ds ?_ (fun β a w G hu=>W.fin ?_ hu) mixedOrders (by kernel_rfl)|refine W.sk ?_|refine W.cd (fun hc=>?_) (fun hc=>?_)|refine W.cb (fun hc=>?_) (fun hc=>?_)|refine W.bl ?_|refine W.ex ?_|refine W.rt ?_)|((with_reducible refine W.kn hK ?_);clear hK K)|(with_reducible first|refine W.bn ?_|refine W.xt ?_|refine W.xb ?_|refine W.xo ?_|refine W.tr ?_|refine W.br ?_)|refine W.rt1 rfl ?_|refine W.rt2 rfl ?_ ?_|refine W.rt3 rfl ?_ ?_ ?_)|refine W.lp 21 (α:=Nat) (fun j=>l.length - j) (fun j=>j ≤ l.length ∧ fsW n l = fsW n (l.drop j)) [4,6,20,21,22,23,24,25,26,27,28,29,30,31,32,33,34,35,36,37,38,39,40,41,42,43,44,45,46,47,48,49,50,51,52,53,54,55] (fun j=>[(20,NT j)]) (fun j=>[]) (0) ?_ ?_ ?_ fun j hj a w G=>?_|refine W.ag (x:=j) (j+1) ?_ ?_ ?_ ?_|clear hK K|clear hu|exact True.intro|exact Nat.le_trans (by clear hp;omega) hp|exact Nat.le_trans (by clear hp;omega) hp.1|exact Nat.le_trans (by clear hp;omega) hp.2|(clear hp;omega)|apply And.intro|refine GI.i fun _=>?_|with_reducible rfl|decide|(simp only [List.length_cons,List.length_nil];omega))
  all_goals first
    | omega
    | (have h9:=ch_3 (n:=n) (l:=l) (by assumption);first | exact h9 | exact h9.symm | (rw [h9];done) | (rw [← h9];done))
    | (have h9:=ch_4 (n:=n) (l:=l) (by assumption) (by assumption);first | exact h9 | exact h9.symm | (rw [h9];done) | (rw [← h9];done))
    | (have h9:=(ch_f (by assumption) (by assumption)).trans (hj.2.trans ((fs_stop (n:=n) (l:=l) (j:=j) (by omega) (by rw [gd_9 (by assumption)];decide)).trans (gd_9 (by assumption))));first | exact h9 | exact h9.symm | (rw [h9];done) | (rw [← h9];done))
    | (have h9:=(ch_f (by assumption) (by assumption)).trans (hj.2.trans ((fs_stop (n:=n) (l:=l) (j:=j) (by omega) (by rw [gd_3 (by assumption) (by assumption)];decide)).trans (gd_3 (by assumption) (by assumption))));first | exact h9 | exact h9.symm | (rw [h9];done) | (rw [← h9];done))
    | (have h9:=(ch_f (by assumption) (by assumption)).trans (hj.2.trans (fs_end (n:=n) (l:=l) (j:=j) (by omega)));first | exact h9 | exact h9.symm | (rw [h9];done) | (rw [← h9];done))
    | exact hj.2.trans (fs_drop (by omega) (gd_0 (by assumption) (by assumption)))
    | rfl
    | skip
theorem chkR {n : Int} {l : List WT} : Con Try.prog 36 [IT n,WRS l] (64 < l.length) (.ex (errV 47 (chW n l))):=.o2 fun hok h1 h2 hp=>by
  refine St.enter (N:=56) Try.func36 rfl rfl rfl hok (enter2 h1 h2) fun a=>?_
  repeat' (first|((with_reducible refine gS_ ?_);first|((with_reducible refine gL_ ?_);first|refine W.run ?_ fun a w G=>?_|refine W.mv fun a w G=>?_|refine W.asg fun a w G=>?_|refine W.bx fun b a w G=>?_|(refine W.nn hK ?_;clear hK K)|refine W.nl ?_|refine W.al fun b a w G=>?_|refine W.st fun w=>?_|refine W.stp fun w=>?_|refine W.ste ?_ fun w=>?_)|((with_reducible refine gC_ ?_);first|with_reducible refine W.cbt (by exact decide_eq_true (show ((l.length : Nat) : Int) > 64 by omega)) ?_|refine W.reg fun K hK=>?_|refine W.reg1 ?_|refine W.sq fun K hK=>?_|refine W.ds ?_ (fun β a w G hu=>W.fin ?_ hu) mixedOrders (by kernel_rfl)|refine W.sk ?_|refine W.cd (fun hc=>?_) (fun hc=>?_)|refine W.cb (fun hc=>?_) (fun hc=>?_)|refine W.bl ?_|refine W.ex ?_|refine W.rt ?_)|((with_reducible refine W.kn hK ?_);clear hK K)|(with_reducible first|refine W.bn ?_|refine W.xt ?_|refine W.xb ?_|refine W.xo ?_|refine W.tr ?_|refine W.br ?_)|refine W.rt1 rfl ?_|refine W.rt2 rfl ?_ ?_|refine W.rt3 rfl ?_ ?_ ?_)|clear hK K|clear hu|exact True.intro|exact Nat.le_trans (by clear hp;omega) hp|exact Nat.le_trans (by clear hp;omega) hp.1|exact Nat.le_trans (by clear hp;omega) hp.2|(clear hp;omega)|apply And.intro|refine GI.i fun _=>?_|with_reducible rfl|decide|(simp only [List.length_cons,List.length_nil];omega))
  all_goals first
    | omega
    | (have h9:=ch_3 (n:=n) (l:=l) (by assumption);first | exact h9 | exact h9.symm | (rw [h9];done) | (rw [← h9];done))
    | (have h9:=ch_4 (n:=n) (l:=l) (by assumption) (by omega);first | exact h9 | exact h9.symm | (rw [h9];done) | (rw [← h9];done))
    | rfl
    | skip
instance {n : Int} {l : List WT} : Con Try.prog 36 [IT n,WRS l] (64 < l.length) (.ex (errV 47 (chW n l))):=chkR
theorem w42 {n : Int} {l : List WT} {m : Nat} {r : FR} : Con Try.prog 42 [IT n,WTS l,FX m r] (m ≤ 4400) (.ex (errV 47 (gvC n l r))):=.o3 fun hok h1 h2 h3 hp=>by
  refine St.enter (N:=23) Try.func42 rfl rfl rfl hok (enter3 h1 h2 h3) fun a=>?_
  repeat' (first|((with_reducible refine gS_ ?_);first|((with_reducible refine gL_ ?_);first|refine W.run ?_ fun a w G=>?_|refine W.mv fun a w G=>?_|refine W.asg fun a w G=>?_|refine W.bx fun b a w G=>?_|(refine W.nn hK ?_;clear hK K)|refine W.nl ?_|refine W.al fun b a w G=>?_|refine W.st fun w=>?_|refine W.stp fun w=>?_|refine W.ste ?_ fun w=>?_)|((with_reducible refine gC_ ?_);first|refine W.reg fun K hK=>?_|refine W.reg1 ?_|refine W.sq fun K hK=>?_|refine W.ds ?_ (fun β a w G hu=>W.fin ?_ hu) mixedOrders (by kernel_rfl)|refine W.sk ?_|refine W.cd (fun hc=>?_) (fun hc=>?_)|refine W.cb (fun hc=>?_) (fun hc=>?_)|refine W.bl ?_|refine W.ex ?_|refine W.rt ?_)|((with_reducible refine W.kn hK ?_);clear hK K)|(with_reducible first|refine W.bn ?_|refine W.xt ?_|refine W.xb ?_|refine W.xo ?_|refine W.tr ?_|refine W.br ?_)|refine W.rt1 rfl ?_|refine W.rt2 rfl ?_ ?_|refine W.rt3 rfl ?_ ?_ ?_)|clear hK K|clear hu|exact True.intro|exact Nat.le_trans (by clear hp;omega) hp|exact Nat.le_trans (by clear hp;omega) hp.1|exact Nat.le_trans (by clear hp;omega) hp.2|(clear hp;omega)|apply And.intro|refine GI.i fun _=>?_|with_reducible rfl|decide|(simp only [List.length_cons,List.length_nil];omega))
  all_goals first
    | omega
    | (simp only [BIG];omega)
    | (have h9:=gv_c (n:=n) (l:=l) (r:=r) (by assumption);first | exact h9 | exact h9.symm | (rw [h9];done) | (rw [← h9];done))
    | (have h9:=gv_3 (n:=n) (l:=l) (r:=r) (by omega) (by assumption);first | exact h9 | exact h9.symm | (rw [h9];done) | (rw [← h9];done))
    | (have h9:=gv_0 (n:=n) (l:=l) (r:=r) (by omega) (by assumption);first | exact h9 | exact h9.symm | (rw [h9];done) | (rw [← h9];done))
    | rfl
    | skip
instance {n : Int} {l : List WT} {m : Nat} {r : FR} {τ3 : MT} [j3 : NF τ3 (FX m r)] : Con Try.prog 42 [IT n,WTS l,τ3] (m ≤ 4400) (.ex (errV 47 (gvC n l r))):=.o3 fun hok h1 h2 h3 hp=>w42.c3 hok h1 h2 (j3.h h3) hp
instance {l : List WT} {lo : List Int} : Con Try.prog 38 [WTS l,ITS lo] (INL l lo ∧ lo.length ≤ 100 ∧ (∀ i,i < l.length → 0 ≤ (l.getD i default).2.2.2 ∧ (l.getD i default).2.2.2 ≤ 8)) (MT.tup2 (QC (257 * lo.length + 1) (tiF l lo lo.length)) (IT (tuF l lo lo.length))):=.o2 fun hok h1 h2 hp=>by
  refine St.enter (N:=33) Try.func38 rfl rfl rfl hok (enter2 h1 h2) fun a=>?_
  repeat' (first|((with_reducible refine gS_ ?_);first|((with_reducible refine gL_ ?_);first|refine W.run ?_ fun a w G=>?_|refine W.mv fun a w G=>?_|refine W.asg fun a w G=>?_|refine W.bx fun b a w G=>?_|(refine W.nn hK ?_;clear hK K)|refine W.nl ?_|refine W.al fun b a w G=>?_|refine W.st fun w=>?_|refine W.stp fun w=>?_|refine W.ste ?_ fun w=>?_)|((with_reducible refine gC_ ?_);first|refine W.reg fun K hK=>?_|refine W.reg1 ?_|refine W.sq fun K hK=>?_|refine W.ds ?_ (fun β a w G hu=>W.fin ?_ hu) mixedOrders (by kernel_rfl)|refine W.sk ?_|refine W.cd (fun hc=>?_) (fun hc=>?_)|refine W.cb (fun hc=>?_) (fun hc=>?_)|refine W.bl ?_|refine W.ex ?_|refine W.rt ?_)|((with_reducible refine W.kn hK ?_);clear hK K)|(with_reducible first|refine W.bn ?_|refine W.xt ?_|refine W.xb ?_|refine W.xo ?_|refine W.tr ?_|refine W.br ?_)|refine W.rt1 rfl ?_|refine W.rt2 rfl ?_ ?_|refine W.rt3 rfl ?_ ?_ ?_)|refine W.lp 13 (α:=Nat) (fun j=>lo.length - j) (fun j=>j ≤ lo.length) [7,9,12,13,14,15,16,17,18,19,20,21,22,23,24,25,26,27,28,29,30] (fun j=>[(12,NT j),(7,IT (tuF l lo j))]) (fun j=>[(6,QC (257 * j + 1) (tiF l lo j))]) (0) ?_ ?_ ?_ fun j hj a w G=>?_|refine W.ag (x:=j) (j+1) ?_ ?_ ?_ ?_|clear hK K|clear hu|exact True.intro|exact Nat.le_trans (by clear hp;omega) hp|exact Nat.le_trans (by clear hp;omega) hp.1|exact Nat.le_trans (by clear hp;omega) hp.2|(clear hp;omega)|apply And.intro|refine GI.i fun _=>?_|with_reducible rfl|decide|(simp only [List.length_cons,List.length_nil];omega))
  all_goals (try have hij:=hp.1 j (by omega))
  all_goals (try have hb:=tu_bd hp.2.2 hp.1 j (by omega))
  all_goals (try have hb2:=tu_bd hp.2.2 hp.1 (j + 1) (by omega))
  all_goals (try have hb3 : tuF l lo (j + 1) = tuF l lo j + (l.getD (lo.getD j default).toNat default).2.2.2:=rfl)
  all_goals first
    | omega
    | rfl
    | (have e9 : j = lo.length := by omega
       subst e9
       first | omega | rfl)
    | (simp only [BIG];omega)
    | skip
end Go.Proofs.Ytjphllpnhjemjaa
set_option linter.unusedVariables false
set_option linter.unusedSimpArgs false
set_option maxHeartbeats 4000000
set_option maxRecDepth 100000
set_option synthInstance.maxSize 100000
set_option synthInstance.maxHeartbeats 400000
namespace Go.Proofs.Ytjphllpnhjemjaa
open Go.RowKit (Below)
attribute [local irreducible] Go.Code.wp Go.wpList Go.bodyPost
def cyT (l : List WT) (b : List Int) (n ev k : Nat) : List Int:=(List.range k).map fun q=>b.getD (bknF l b (e0F l b n ev) q) default
section
variable {l : List WT} {b : List Int} {n ev k : Nat}
theorem cyT_0 : cyT l b n ev 0 = []:=rfl
theorem cyT_go : cyT l b n ev k ++ [b.getD (bknF l b (e0F l b n ev) k) default] = cyT l b n ev (k + 1):=by unfold cyT;rw [List.range_succ,List.map_append];rfl
theorem cyT_len : (cyT l b n ev k).length = k:=by unfold cyT;rw [List.length_map,List.length_range]
theorem cyT_end (h : cokF l b n ev = true) : (cyT l b n ev (prF l b n ev)).reverse = cyF l b n ev:=(if_pos h).symm
theorem cy_k {K P L A E : Nat} (hk : K ≤ P) (hP : 1 ≤ P) (hL : L = K) (hat : K = P → A = E) (hc : (decide ((L : Int) = 0) || decide ((A : Int) ≠ (E : Int))) = true) : K < P:=by
  rcases Nat.lt_or_eq_of_le hk with e | e
  · exact e
  · have h1:=hat e
    simp only [Bool.or_eq_true,decide_eq_true_eq] at hc
    omega
theorem cy_e {f : Nat → Nat} {K P L E : Nat} (hk : K ≤ P) (hL : L = K) (hm : ∀ m,0 < m → m < P → f m ≠ E) (hc : (decide ((L : Int) = 0) || decide ((f K : Int) ≠ (E : Int))) = false) : K = P:=by
  simp only [Bool.or_eq_false_iff,decide_eq_false_iff_not] at hc
  rcases Nat.lt_or_eq_of_le hk with e | e
  · exact absurd (show f K = E by omega) (hm K (by omega) e)
  · exact e
theorem cy_ne (h : cokF l b n ev = true) (h1 : 1 ≤ prF l b n ev) : cyF l b n ev ≠ []:=fun e=>by
  rw [← cyT_end h,List.reverse_eq_nil_iff] at e
  have:=cyT_len (l:=l) (b:=b) (n:=n) (ev:=ev) (k:=prF l b n ev)
  rw [e] at this
  have h0 : 0 = prF l b n ev:=this
  omega
theorem cy_n (hk : k ≤ n) (h : b.getD (bknF l b ev k) default < 0) : cyF l b n ev = []:=by
  unfold cyF;rw [if_neg]
  intro hc
  have:=cok_iff.1 hc k hk
  omega
theorem cok_y (h : ∀ k,k < n → 0 ≤ b.getD (bknF l b ev k) default) (h2 : ¬ b.getD (bknF l b ev n) default < 0) : cokF l b n ev = true:=cok_iff.2 fun k hk=>by
  rcases Nat.lt_or_eq_of_le hk with e | e
  · exact h k e
  · subst e;omega
theorem ca_in {p : Rat} {s : List Rat} {tm : Nat → Nat} {T v : Nat} (h : Inv n l p s b tm T) (hv : v < n) (h0 : 0 ≤ b.getD v default) : b.getD v default < l.length:=by
  rcases h.ca v hv with hc | ⟨i,h1,h2,_⟩
  · rw [hc.1] at h0;exact absurd h0 (by decide)
  · rw [h1];omega
theorem bk_nx (hl : OKL n l) (h0 : 0 ≤ b.getD (bknF l b ev k) default) (h1 : b.getD (bknF l b ev k) default < l.length) : (l.getD (b.getD (bknF l b ev k) default).toNat default).1 = ((bknF l b ev (k + 1) : Nat) : Int):=by
  show _ = ((wFr (l.getD (b.getD (bknF l b ev k) default).toNat default) : Nat) : Int)
  have:=hl (b.getD (bknF l b ev k) default).toNat (by omega)
  unfold okW at this
  unfold wFr
  omega
end
instance {ev : Nat} {l : List WT} {b : List Int} [rv : RevC Try.prog 87] : Con Try.prog 66 [WTS l,ITS b,NT ev] (OKL b.length l ∧ ev < b.length ∧ b.length ≤ 16 ∧ (∃ p s tm T,Inv b.length l p s b tm T)) (LSN none ((cyF l b b.length ev).map fun z=>IT z)):=.o3 fun hok h1 h2 h3 hp=>by
  refine St.enter (N:=59) Try.func66 rfl rfl rfl hok (enter3 h1 h2 h3) fun a=>?_
  obtain ⟨p,s,tm,T,hI⟩:=hp.2.2.2
  have hlt:=bkn_lt hp.1 hI hp.2.1
  have hlim:=LS.lenM h1
  simp only [LIM] at hlim
  have own55 : OwnAt 55:=⟨⟩
  repeat' (first|((with_reducible refine gS_ ?_);first|((with_reducible refine gL_ ?_);first|refine W.run ?_ fun a w G=>?_|refine W.mv fun a w G=>?_|refine W.asg fun a w G=>?_|refine W.bx fun b a w G=>?_|(refine W.nn hK ?_;clear hK K)|refine W.nl ?_|refine W.al fun b a w G=>?_|refine W.st fun w=>?_|refine W.stp fun w=>?_|refine W.ste ?_ fun w=>?_)|((with_reducible refine gC_ ?_);first|refine W.reg fun K hK=>?_|refine W.reg1 ?_|refine W.sq fun K hK=>?_|refine W.ds ?_ (fun β a w G hu=>W.fin ?_ hu) mixedOrders (by kernel_rfl)|refine W.sk ?_|refine W.cd (fun hc=>?_) (fun hc=>?_)|refine W.cb (fun hc=>?_) (fun hc=>?_)|refine W.bl ?_|refine W.ex ?_|refine W.rt ?_)|((with_reducible refine W.kn hK ?_);clear hK K)|(with_reducible first|refine W.bn ?_|refine W.xt ?_|refine W.xb ?_|refine W.xo ?_|refine W.tr ?_|refine W.br ?_)|refine W.rt1 rfl ?_|refine W.rt2 rfl ?_ ?_|refine W.rt3 rfl ?_ ?_ ?_)|refine W.lpo 33 (OWNS.nil (k:=none) (e:=3)) (T:=fun z : Int=>IT z) (xs0:=[]) (fun k=>prF l b b.length ev - k) (fun k=>k ≤ prF l b b.length ev) (fun k=>cyT l b b.length ev k) [7,8,33,34,35,36,37,38,39,40,41,42,43,44,45,46,47,48,49,50,51,52,53,54,55] (fun k V=>[(8,NT (bknF l b (e0F l b b.length ev) k)),(7,.ex V)]) (fun k=>[]) 0 ?_ ?_ ?_ ?_ fun k hk V own a w G hO=>?_|refine W.oln hO fun a w G=>?_|refine W.ap (mt:=.ex (.int .i64 0)) (T:=fun z : Int=>IT z) hO ?_ fun V own a w G hO=>?_|refine W.ago (K:=fun _ _=>True) (T:=fun z : Int=>IT z) hO (x:=k) (k+1) ?_ ?_ ?_ ?_ ?_|refine W.rev hO ?_ fun own a w G hO=>?_|refine W.fzo (T:=fun z : Int=>IT z) 6 hO ?_ fun G=>?_|refine W.lp 12 (α:=Nat) (fun j=>b.length - j) (fun j=>j ≤ b.length ∧ ∀ k,k < j → 0 ≤ b.getD (bknF l b ev k) default) [2,6,11,12,13,14,15,16,17,18,19,20,21,22,23,24,25,26] (fun j=>[(11,NT j),(2,NT (bknF l b ev j))]) (fun j=>[]) (0) ?_ ?_ ?_ fun j hj a w G=>?_|refine W.ag (x:=j) (j+1) ?_ ?_ ?_ ?_|clear hK K|clear hu|exact True.intro|exact Nat.le_trans (by clear hp;omega) hp|exact Nat.le_trans (by clear hp;omega) hp.1|exact Nat.le_trans (by clear hp;omega) hp.2|(clear hp;omega)|apply And.intro|refine GI.i fun _=>?_|with_reducible rfl|decide|(simp only [List.length_cons,List.length_nil];omega))
  all_goals (try have hb1 : bknF l b ev j < b.length:=hlt j hj.2)
  all_goals (try have ej : j = b.length:=by omega)
  all_goals (try have h9 : ¬ b.getD (bknF l b ev j) default < 0:=by assumption)
  all_goals (try have hin:=ca_in hI hb1 (by omega))
  all_goals (try have hck : cokF l b b.length ev = true:=cok_y (fun k hk=>hj.2 k (by omega)) (by rw [ej] at h9;exact h9))
  all_goals (try have hcl:=cy_loop hp.1 hI hp.2.1 hck)
  all_goals (try have e0 : bknF l b ev j = e0F l b b.length ev:=by rw [ej];rfl)
  all_goals (try have hcL:=cyT_len (l:=l) (b:=b) (n:=b.length) (ev:=ev) (k:=k))
  all_goals (try have hng : b.getD (bknF l b ev j) default < 0 → j ≤ b.length → cyF l b b.length ev = []:=fun h h'=>cy_n (k:=j) h' h)
  all_goals (try simp only [e0,List.length_map] at *)
  all_goals (try have hkp : k < prF l b b.length ev:=cy_k (K:=k) (P:=prF l b b.length ev) (L:=(cyT l b b.length ev k).length) (A:=bknF l b (e0F l b b.length ev) k) (E:=e0F l b b.length ev) hk hcl.2.1 hcL (fun e=>by rw [e];exact hcl.2.2.2.1) (by assumption))
  all_goals (try have hkP:=cy_e (f:=fun m=>bknF l b (e0F l b b.length ev) m) hk hcL hcl.2.2.2.2.1 (by assumption))
  all_goals (try have hq:=hcl.2.2.2.2.2 k hk)
  all_goals (try have hq3:=ca_in hI hq.2 hq.1)
  all_goals first
    | omega
    | rfl
    | exact hq.2
    | exact hq3
    | exact bk_nx hp.1 hq.1 hq3
    | (rw [hkP];exact cyT_end hck)
    | exact cy_ne hck hcl.2.1
    | (simp only [LIM,List.length_cons,List.length_nil,List.length_reverse];omega)
    | exact hb1
    | exact hin
    | exact hng (by assumption) (by omega)
    | exact (hng (by assumption) (by omega)).symm
    | exact hng (by rw [e0];assumption) (by omega)
    | exact (hng (by rw [e0];assumption) (by omega)).symm
    | (intro k hk
       rcases Nat.lt_or_eq_of_le (Nat.le_of_lt_succ hk) with e | e
       · exact hj.2 k e
       · subst e;omega)
    | exact bk_nx hp.1 (by omega) hin
    | exact cyT_0.symm
    | exact cyT_go
    | exact cyT_go.symm
    | skip
end Go.Proofs.Ytjphllpnhjemjaa
set_option linter.unusedVariables false
set_option linter.unusedSimpArgs false
namespace Go.Proofs.Ytjphllpnhjemjaa
open Go.RowKit (Below)
inductive WK where
  | g (τ : MT)
  | o0
  | o1
  | o2 (τ : MT)
def WK.ty : WK → Option MT
  | .g τ=>some τ
  | .o2 τ=>some τ
  | _=>none
structure PcW where
  d : Nat
  k : WK
  dep : List Nat
def faW (PL : List PcW) (l : Array Bool) : List (Nat × MT):=(List.range PL.length).filterMap fun i=>(PL[i]?).bind fun p=>if l.getD i false then p.k.ty.map fun τ=>(p.d,τ) else none
def depW (PL : List PcW) (l : List Nat) : List (Nat × MT):=l.filterMap fun i=>(PL[i]?).bind fun p=>p.k.ty.map fun τ=>(p.d,τ)
theorem faW_mem {PL : List PcW} {l : Array Bool} {p : Nat × MT} : p ∈ faW PL l ↔ ∃ (i : Nat) (q : PcW) (τ : MT),PL[i]? = some q ∧ l.getD i false = true ∧ q.k.ty = some τ ∧ p = (q.d,τ):=by
  unfold faW
  rw [List.mem_filterMap]
  constructor
  · rintro ⟨i,hi,h⟩
    cases hq : PL[i]? with
    | none=>rw [hq] at h;cases h
    | some q =>
      rw [hq] at h
      simp only [Option.bind_some] at h
      split at h
      · rename_i hl
        cases ht : q.k.ty with
        | none=>rw [ht] at h;cases h
        | some τ=>rw [ht] at h;cases h;exact ⟨i,q,τ,hq,hl,ht,rfl⟩
      · cases h
  · rintro ⟨i,q,τ,hq,hl,ht,rfl⟩
    exact ⟨i,List.mem_range.2 (List.getElem?_eq_some_iff.1 hq).1,by rw [hq];simp only [Option.bind_some];rw [if_pos hl,ht];rfl⟩
theorem depW_mem {PL : List PcW} {l : List Nat} {p : Nat × MT} (h : p ∈ depW PL l) : ∃ (i : Nat) (q : PcW) (τ : MT),i ∈ l ∧ PL[i]? = some q ∧ q.k.ty = some τ ∧ p = (q.d,τ):=by
  unfold depW at h
  rw [List.mem_filterMap] at h
  obtain ⟨i,hi,h⟩:=h
  cases hq : PL[i]? with
  | none=>rw [hq] at h;cases h
  | some q =>
    rw [hq] at h
    simp only [Option.bind_some] at h
    cases ht : q.k.ty with
    | none=>rw [ht] at h;cases h
    | some τ=>rw [ht] at h;cases h;exact ⟨i,q,τ,hi,hq,ht,rfl⟩
section
variable {P : Program} {W0 : World} {G0 : Gh} {N : Nat} {L : List (Nat × MT)} {B : List BX}
def StgW (O0 O1 : Value → List BX → Prop) (d0 d1 i0 i1 i2 : Nat) (l : Array Bool) (own : List BX) (fs : List (Nat × MT)) : Prop :=
  (l.getD i0 false = false ∧ l.getD i1 false = false ∧ l.getD i2 false = false ∧ own = [] ∧ fs = []) ∨
  (l.getD i0 false = true ∧ l.getD i1 false = false ∧ l.getD i2 false = false ∧ ∃ V,O0 V own ∧ fs = [(d0,.ex V)]) ∨
  (l.getD i0 false = true ∧ l.getD i1 false = true ∧ l.getD i2 false = false ∧ ∃ V,O1 V own ∧ fs = [(d1,.ex V)]) ∨
  (l.getD i0 false = true ∧ l.getD i1 false = true ∧ l.getD i2 false = true ∧ own = [] ∧ fs = [])
structure DW (P : Program) (W0 : World) (G0 : Gh) (N : Nat) (L : List (Nat × MT)) (B : List BX) (ops : Array Oper) (PL : List PcW) (O0 O1 : Value → List BX → Prop) (d0 d1 i0 i1 i2 : Nat) (l : Array Bool) (a : Act) (w : World) : Prop where
  lsz : l.size = ops.size
  cl : ∀ (j : Nat) (o : Oper),ops[j]? = some o → l.getD j false = true → ∀ e ∈ o.after,Region.binds .any e = true → l.getD e.on false = true
  st : ∃ G own fs,StgW O0 O1 d0 d1 i0 i1 i2 l own fs ∧ St W0 G0 N (faW PL l ++ (fs ++ L)) (B ++ own) a w G
variable {ops : Array Oper} {PL : List PcW} {O0 O1 : Value → List BX → Prop} {d0 d1 i0 i1 i2 : Nat} {l : Array Bool} {a : Act} {w : World} {Q : Exit → Act → World → Prop}
theorem DW.waited (I : DW P W0 G0 N L B ops PL O0 O1 d0 d1 i0 i1 i2 l a w) : ∀ (m : Nat) {j i : Nat} {o : Oper}, waits ops m j i = true → ops[j]? = some o →
    (∀ e ∈ o.after,Region.binds .any e = true → l.getD e.on false = true) → l.getD i false = true
  | 0,_,_,_,h,_,_=>by cases h
  | m + 1,j,i,o,h,ho,he=>by
    unfold waits at h
    rw [ho] at h
    simp only [Option.any_some,Array.any_eq_true,Bool.and_eq_true,Bool.or_eq_true,beq_iff_eq] at h
    obtain ⟨k,hk,hb,h⟩:=h
    have hl:=he _ (Array.getElem_mem hk) hb
    rcases h with h | h
    · rw [← h];exact hl
    · have hon : (o.after[k]).on < ops.size := by
        have : (o.after[k]).on < l.size:=by
          rcases Nat.lt_or_ge (o.after[k]).on l.size with h1 | h1
          · exact h1
          · simp [Array.getElem?_eq_none h1] at hl
        rw [I.lsz] at this;exact this
      have ho':=Array.getElem?_eq_getElem hon
      exact DW.waited I m h ho' (I.cl _ _ ho' hl)
theorem DW.past (I : DW P W0 G0 N L B ops PL O0 O1 d0 d1 i0 i1 i2 l a w) {j i : Nat} (h : waits ops ops.size j i = true) (hj : l.getD j false = true) : l.getD i false = true:=by
  have hlt : j < ops.size:=by
    rcases Nat.lt_or_ge j l.size with h1 | h1
    · rw [I.lsz] at h1;exact h1
    · simp [Array.getElem?_eq_none h1] at hj
  have ho:=Array.getElem?_eq_getElem hlt
  exact I.waited _ h ho (I.cl _ _ ho hj)
theorem DW.cl_set {i : Nat} (I : DW P W0 G0 N L B ops PL O0 O1 d0 d1 i0 i1 i2 l a w) (hi : i < ops.size) (hcl : ∀ (o : Oper), ops[i]? = some o → ∀ e ∈ o.after, Region.binds .any e = true → l.getD e.on false = true) :
    ∀ (j : Nat) (o : Oper),ops[j]? = some o → (l.setIfInBounds i true).getD j false = true → ∀ e ∈ o.after,Region.binds .any e = true → (l.setIfInBounds i true).getD e.on false = true:=fun j o ho hl e he hb=>by
  have hl' : l.getD e.on false = true:=by
    by_cases e1 : j = i
    · subst e1;exact hcl o ho e he hb
    · rw [getD_set e1] at hl;exact I.cl j o ho hl e he hb
  by_cases e2 : e.on = i
  · rw [e2];have : i < l.size:=by rw [I.lsz];exact hi
    simp [this]
  · rw [getD_set e2];exact hl'
theorem faW_set {i : Nat} {q : PcW} {τ : MT} (hq : PL[i]? = some q) (ht : q.k.ty = some τ) (hi : i < l.size) {p : Nat × MT} (h : p ∈ faW PL (l.setIfInBounds i true)) : p = (q.d,τ) ∨ p ∈ faW PL l:=by
  obtain ⟨j,q',τ',h1,h2,h3,rfl⟩:=faW_mem.1 h
  by_cases e : j = i
  · subst e;rw [hq] at h1;cases h1;rw [ht] at h3;cases h3;exact .inl rfl
  · rw [getD_set e] at h2;exact .inr (faW_mem.2 ⟨j,q',τ',h1,h2,h3,rfl⟩)
theorem set_at {i : Nat} (hi : i < l.size) : (l.setIfInBounds i true).getD i false = true:=by simp [hi]
end
section
variable {P : Program} {W0 : World} {G0 : Gh} {N : Nat} {L : List (Nat × MT)} {B Bh own : List BX} {a : Act} {w : World} {G : Gh} {o : Oper} {Q : Exit → Act → World → Prop} {k : Option Nat} {e : TypeId} {v : Value} {τs σs : List MT}
theorem St.bu0w (S : St W0 G0 N L B a w G) {d bytes t : Nat} {z : Value} (ho : o.op = .buildSlice t 0 #[]) (hd : o.dst = some d) (ht : P.underlying t = some (.slice e)) (he : elS P e (k.getD 1) bytes z) (hdN : (decide (d < N)) = true) (hf : fresh d L = true)
    {K' : Act → World → Prop} (K : ∀ v' own' a' w' G',OWNS k e v' own' [] → St W0 G0 N ((d,.ex v') :: L) (B ++ own') a' w' G' → K' a' w') : o.wp P a w K' Q:=by
  obtain ⟨i,hi,h1,h2,h3⟩:=elS_of he
  have hr : (execOp a.eval o).run P w = .ok (.value (.slice (some ⟨w.heap.size,0,none⟩) 0 0)) (w.alloc (.cells #[] e)):=by
    simp [execOp,ho,Instr.buildSlice,run_underlying ht,sizeOf,typeInfo,hi,Instr.fill,newRow,show Array.range 0 = #[] from rfl]
  unfold Oper.wp
  rw [hr]
  simp only [Oper.upon,hd]
  have S':=(S.newEnd (w':=w.alloc (.cells #[] e)) (b:=w.heap.size) (ty:=e) (k:=some (0 * k.getD 1)) (τ:=ROWS k []) (u:=.agg #[]) (Nxt.alloc S.nxt.ok _) (Nat.le_refl _) (heap_alloc_new w _) ⟨_,rfl,by simp,fun x hx=>by simp at hx⟩ ⟨[],[],rfl,Els.nil⟩).put (v:=.slice (some ⟨w.heap.size,0,none⟩) 0 0) (of_decide_eq_true hdN) hf (τ:=.ex (.slice (some ⟨w.heap.size,0,none⟩) 0 0)) rfl (Nxt.refl (S.nxt.ok.alloc _))
  exact K _ _ _ _ G (.inr ⟨w.heap.size,0,rfl,rfl,Nat.le_refl _⟩) S'
end
class ShZ (k : Option Nat) (z : Value) : Prop where
  s : Shaped k z
instance ShZ.q : ShZ (some 3) (.agg #[.bool false,.slice none 0 0,.slice none 0 0]):=⟨ZV.q.s⟩
instance ShZ.sl : ShZ none (.slice none 0 0):=⟨ZV.sl.s⟩
instance ShZ.n : ShZ none .nilIface:=⟨ZV.n.s⟩
instance ShZ.i {k : IntKind} : ShZ none (.int k 0):=⟨(ZV.i (k:=k)).s⟩
inductive WE where
  | g (d : Nat) (τ : MT) (u : List Nat)
  | o0 (d : Nat)
  | o1 (d : Nat) (u : List Nat)
  | o2 (d : Nat) (τ : MT) (u : List Nat)
def WE.sl : WE → Option (Nat × MT)
  | .g d τ _=>some (d,τ)
  | .o2 d τ _=>some (d,τ)
  | _=>none
def depE : Nat → List WE → List Nat → List Nat
  | _,[],_=>[]
  | i,e :: es,u=>if e.sl.any (fun p=>u.contains p.1) then i :: depE (i + 1) es u else depE (i + 1) es u
def pwW (all : List WE) : WE → PcW
  | .g d τ u=>⟨d,.g τ,depE 0 all u⟩
  | .o0 d=>⟨d,.o0,[]⟩
  | .o1 d u=>⟨d,.o1,depE 0 all u⟩
  | .o2 d τ u=>⟨d,.o2 τ,depE 0 all u⟩
theorem pwW_ty {all : List WE} {e : WE} {p : Nat × MT} (h : e.sl = some p) : (pwW all e).k.ty = some p.2 ∧ (pwW all e).d = p.1:=by
  cases e <;> simp [WE.sl] at h <;> subst h <;> exact ⟨rfl,rfl⟩
theorem depE_mem : ∀ {es : List WE} {o i d : Nat} {τ : MT} {e : WE} {u : List Nat},es[i]? = some e → e.sl = some (d,τ) → d ∈ u → o + i ∈ depE o es u
  | x :: es,o,0,d,τ,e,u,h,hs,hu=>by
    obtain rfl : x = e:=by simpa using h
    unfold depE
    rw [if_pos (by rw [hs];simpa using hu)]
    simp
  | x :: es,o,i + 1,d,τ,e,u,h,hs,hu=>by
    have ih : o + 1 + i ∈ depE (o + 1) es u:=depE_mem (es:=es) (by simpa using h) hs hu
    rw [show o + (i + 1) = o + 1 + i by omega]
    unfold depE
    split
    · exact List.mem_cons_of_mem _ ih
    · exact ih
  | [],_,_,_,_,_,_,h,_,_=>by simp at h
inductive RunWI (P : Program) (B : List BX) {α : Type} (T : α → MT) (k : Option Nat) (e : TypeId) (ys1 ys2 : List α) (d0 d1 : Nat) : List (Nat × MT) → List Oper → Prop → List WE → Prop
  | stop {L : List (Nat × MT)} : RunWI P B T k e ys1 ys2 d0 d1 L [] True []
  | g {L : List (Nat × MT)} {ops : List Oper} {d : Nat} {op : Op} {ty : TypeId} {pos : String} {aft : Array Edge} {pre pre' : Prop} {τ : MT} {u : List Nat} {es : List WE} :
      Op1 P L B op pre τ u → RunWI P B T k e ys1 ys2 d0 d1 ((d,τ) :: L) ops pre' es → RunWI P B T k e ys1 ys2 d0 d1 L (⟨some d,op,ty,pos,aft,none⟩ :: ops) (pre ∧ pre') (.g d τ u :: es)
  | o0 {L : List (Nat × MT)} {ops : List Oper} {t ty : TypeId} {pos : String} {aft : Array Edge} {pre : Prop} {es : List WE} {by0 : Nat} {z0 : Value} :
      ElS P t e k by0 z0 → RunWI P B T k e ys1 ys2 d0 d1 L ops pre es → RunWI P B T k e ys1 ys2 d0 d1 L (⟨some d0,.buildSlice t 0 #[],ty,pos,aft,none⟩ :: ops) pre (.o0 d0 :: es)
  | o1 {L : List (Nat × MT)} {ops : List Oper} {t ty : TypeId} {pos : String} {aft : Array Edge} {pre : Prop} {es : List WE} {by0 : Nat} {z0 : Value} {σ : MT} {y : Operand} {u : List Nat} :
      ElS P t e k by0 z0 → ShZ k z0 → Opd L y σ u → AsLT σ k T ys1 → RunWI P B T k e ys1 ys2 d0 d1 L ops pre es →
      RunWI P B T k e ys1 ys2 d0 d1 L (⟨some d1,.call { callee:=.builtin .append,args:=#[.tmp d0,y],argTypes:=#[t,t] },ty,pos,aft,none⟩ :: ops) ((ys1.length ≤ LIM ∧ ys1.length * by0 ≤ 140737488355328) ∧ pre) (.o1 d1 u :: es)
  | o2 {L : List (Nat × MT)} {ops : List Oper} {d : Nat} {t ty : TypeId} {pos : String} {aft : Array Edge} {pre : Prop} {es : List WE} {by0 : Nat} {z0 : Value} {σ : MT} {y : Operand} {u : List Nat} :
      ElS P t e k by0 z0 → ShZ k z0 → Opd L y σ u → AsLT σ k T ys2 → RunWI P B T k e ys1 ys2 d0 d1 ((d,LS k ((ys1 ++ ys2).map T)) :: L) ops pre es →
      RunWI P B T k e ys1 ys2 d0 d1 L (⟨some d,.call { callee:=.builtin .append,args:=#[.tmp d1,y],argTypes:=#[t,t] },ty,pos,aft,none⟩ :: ops) ((ys1.length + ys2.length ≤ LIM ∧ (ys1.length + ys2.length) * by0 ≤ 140737488355328) ∧ pre) (.o2 d (LS k ((ys1 ++ ys2).map T)) u :: es)
section
variable {P : Program} {B : List BX} {α : Type} {T : α → MT} {k : Option Nat} {e : TypeId} {ys1 ys2 : List α} {d0 d1 : Nat} {L L0 : List (Nat × MT)} {ops : List Oper} {pre : Prop} {es : List WE}
variable {W0 : World} {G0 : Gh} {N : Nat} {a : Act} {w : World} {G : Gh} {Q : Exit → Act → World → Prop}
def SemW (P : Program) (B : List BX) {α : Type} (T : α → MT) (k : Option Nat) (e : TypeId) (ys1 ys2 : List α) (d0 d1 : Nat) (L0 : List (Nat × MT)) (all : List WE) (o : Oper) : WE → Prop
  | .g d τ u=>∃ L' pre,(∀ p ∈ L',p ∈ L0 ∨ ∃ (m : Nat) (x : WE),all[m]? = some x ∧ x.sl = some p) ∧ o.dst = some d ∧ o.guard = none ∧ pre ∧ Op1 P L' B o.op pre τ u
  | .o0 d=>d = d0 ∧ o.dst = some d ∧ o.guard = none ∧ ∃ t by0 z0,o.op = .buildSlice t 0 #[] ∧ ElS P t e k by0 z0
  | .o1 d u=>d = d1 ∧ o.dst = some d ∧ o.guard = none ∧ ∃ L' t by0 z0 σ y,(∀ p ∈ L',p ∈ L0 ∨ ∃ (m : Nat) (x : WE),all[m]? = some x ∧ x.sl = some p) ∧ o.op = .call { callee:=.builtin .append,args:=#[.tmp d0,y],argTypes:=#[t,t] } ∧ ElS P t e k by0 z0 ∧ ShZ k z0 ∧ Opd L' y σ u ∧ AsLT σ k T ys1 ∧ ys1.length ≤ LIM ∧ ys1.length * by0 ≤ 140737488355328
  | .o2 d τ u=>τ = LS k ((ys1 ++ ys2).map T) ∧ o.dst = some d ∧ o.guard = none ∧ ∃ L' t by0 z0 σ y,(∀ p ∈ L',p ∈ L0 ∨ ∃ (m : Nat) (x : WE),all[m]? = some x ∧ x.sl = some p) ∧ o.op = .call { callee:=.builtin .append,args:=#[.tmp d1,y],argTypes:=#[t,t] } ∧ ElS P t e k by0 z0 ∧ ShZ k z0 ∧ Opd L' y σ u ∧ AsLT σ k T ys2 ∧ ys1.length + ys2.length ≤ LIM ∧ (ys1.length + ys2.length) * by0 ≤ 140737488355328
theorem RunWI.sem (R : RunWI P B T k e ys1 ys2 d0 d1 L ops pre es) : ∀ {e0 : List WE} {all : List WE},all = e0 ++ es → (∀ p ∈ L,p ∈ L0 ∨ ∃ (m : Nat) (x : WE),all[m]? = some x ∧ x.sl = some p) → pre → es.length = ops.length ∧ ∀ (j : Nat) (x : WE) (o : Oper),es[j]? = some x → ops[j]? = some o → SemW P B T k e ys1 ys2 d0 d1 L0 all o x:=by
  induction R with
  | stop=>intro e0 all _ _ _;exact ⟨rfl,fun j x o h=>by simp at h⟩
  | @g L ops d op ty pos aft pre pre' τ u es h _ ih =>
    intro e0 all ha hL hp
    have hx : all[e0.length]? = some (.g d τ u):=by rw [ha];simp
    obtain ⟨i1,i2⟩:=ih (e0:=e0 ++ [.g d τ u]) (all:=all) (by rw [ha];simp) (fun p hp=>by
      rcases List.mem_cons.1 hp with rfl | hp
      · exact .inr ⟨_,_,hx,rfl⟩
      · exact hL p hp) hp.2
    refine ⟨by simp [i1],fun j x o h1 h2=>?_⟩
    cases j with
    | zero=>cases h1;cases h2;exact ⟨L,pre,hL,rfl,rfl,hp.1,h⟩
    | succ j=>exact i2 j x o (by simpa using h1) (by simpa using h2)
  | @o0 L ops t ty pos aft pre es by0 z0 h _ ih =>
    intro e0 all ha hL hp
    obtain ⟨i1,i2⟩:=ih (e0:=e0 ++ [.o0 d0]) (all:=all) (by rw [ha];simp) hL hp
    refine ⟨by simp [i1],fun j x o h1 h2=>?_⟩
    cases j with
    | zero=>cases h1;cases h2;exact ⟨rfl,rfl,rfl,t,by0,z0,rfl,h⟩
    | succ j=>exact i2 j x o (by simpa using h1) (by simpa using h2)
  | @o1 L ops t ty pos aft pre es by0 z0 σ y u h hz hy hl _ ih =>
    intro e0 all ha hL hp
    obtain ⟨i1,i2⟩:=ih (e0:=e0 ++ [.o1 d1 u]) (all:=all) (by rw [ha];simp) hL hp.2
    refine ⟨by simp [i1],fun j x o h1 h2=>?_⟩
    cases j with
    | zero=>cases h1;cases h2;exact ⟨rfl,rfl,rfl,L,t,by0,z0,σ,y,hL,rfl,h,hz,hy,hl,hp.1.1,hp.1.2⟩
    | succ j=>exact i2 j x o (by simpa using h1) (by simpa using h2)
  | @o2 L ops d t ty pos aft pre es by0 z0 σ y u h hz hy hl _ ih =>
    intro e0 all ha hL hp
    have hx : all[e0.length]? = some (.o2 d (LS k ((ys1 ++ ys2).map T)) u):=by rw [ha];simp
    obtain ⟨i1,i2⟩:=ih (e0:=e0 ++ [.o2 d (LS k ((ys1 ++ ys2).map T)) u]) (all:=all) (by rw [ha];simp) (fun p hp=>by
      rcases List.mem_cons.1 hp with rfl | hp
      · exact .inr ⟨_,_,hx,rfl⟩
      · exact hL p hp) hp.2
    refine ⟨by simp [i1],fun j x o h1 h2=>?_⟩
    cases j with
    | zero=>cases h1;cases h2;exact ⟨rfl,rfl,rfl,L,t,by0,z0,σ,y,hL,rfl,h,hz,hy,hl,hp.1.1,hp.1.2⟩
    | succ j=>exact i2 j x o (by simpa using h1) (by simpa using h2)
theorem envW {all : List WE} {L' L1 : List (Nat × MT)} {u : List Nat} (hL : ∀ p ∈ L',p ∈ L0 ∨ ∃ (m : Nat) (x : WE),all[m]? = some x ∧ x.sl = some p) (h1 : ∀ p ∈ depW (all.map (pwW all)) (depE 0 all u) ++ L0,p ∈ L1) (S : St W0 G0 N L1 B a w G) : Env L' u a G:=fun t τ ht hm=>by
  rcases hL _ hm with h | ⟨m,x,hx,hs⟩
  · exact S.mem (h1 _ (List.mem_append_right _ h))
  · refine S.mem (h1 _ (List.mem_append_left _ ?_))
    have hd:=depE_mem (o:=0) hx hs ht
    rw [Nat.zero_add] at hd
    obtain ⟨g1,g2⟩:=pwW_ty (all:=all) hs
    refine List.mem_filterMap.2 ⟨m,hd,?_⟩
    rw [List.getElem?_map,hx]
    simp only [Option.map_some,Option.bind_some]
    rw [g1,g2];rfl
def fW : List WE → List (Nat × MT) → List (Nat × MT)
  | [],L=>L
  | .g d τ _ :: es,L=>fW es ((d,τ) :: L)
  | .o2 d τ _ :: es,L=>fW es ((d,τ) :: L)
  | .o0 _ :: es,L=>fW es L
  | .o1 _ _ :: es,L=>fW es L
theorem fW_mem : ∀ {es : List WE} {L : List (Nat × MT)} {p : Nat × MT},p ∈ fW es L → p ∈ L ∨ ∃ (j : Nat) (x : WE),es[j]? = some x ∧ x.sl = some p
  | [],L,p,h=>.inl h
  | x :: es,L,p,h=>by
    have key : ∀ L',p ∈ fW es L' → (∀ q ∈ L',q ∈ L ∨ x.sl = some q) → p ∈ L ∨ ∃ (j : Nat) (y : WE),(x :: es)[j]? = some y ∧ y.sl = some p:=fun L' h1 h2=>by
      rcases fW_mem h1 with h | ⟨j,y,h3,h4⟩
      · rcases h2 p h with h | h
        · exact .inl h
        · exact .inr ⟨0,x,rfl,h⟩
      · exact .inr ⟨j + 1,y,by simpa using h3,h4⟩
    cases x with
    | g d τ u=>exact key _ h fun q hq=>(List.mem_cons.1 hq).elim (fun e=>.inr (by rw [e];rfl)) .inl
    | o2 d τ u=>exact key _ h fun q hq=>(List.mem_cons.1 hq).elim (fun e=>.inr (by rw [e];rfl)) .inl
    | o0 d=>exact key _ h fun q hq=>.inl hq
    | o1 d u=>exact key _ h fun q hq=>.inl hq
class RW3 (P : Program) (B : List BX) (L : List (Nat × MT)) (ops : List Oper) (pre : outParam Prop) (es : outParam (List WE)) : Prop where
  r : ∀ {α : Type} (T : α → MT) (k : Option Nat) (e : TypeId) (ys1 ys2 : List α) (d0 d1 : Nat),RunWI P B T k e ys1 ys2 d0 d1 L ops pre es
class RW2 (P : Program) (B : List BX) {α : Type} (T : α → MT) (k : Option Nat) (e : TypeId) (ys1 : List α) (d1 : Nat) (L : List (Nat × MT)) (ops : List Oper) (pre : outParam Prop) (es : outParam (List WE)) (ys2 : outParam (List α)) : Prop where
  r : ∀ (d0 : Nat),RunWI P B T k e ys1 ys2 d0 d1 L ops pre es
class RW1 (P : Program) (B : List BX) {α : Type} (T : α → MT) (k : Option Nat) (e : TypeId) (d0 : Nat) (L : List (Nat × MT)) (ops : List Oper) (pre : outParam Prop) (es : outParam (List WE)) (ys1 ys2 : outParam (List α)) (d1 : outParam Nat) : Prop where
  r : RunWI P B T k e ys1 ys2 d0 d1 L ops pre es
class RW0 (P : Program) (B : List BX) {α : Type} (T : α → MT) (L : List (Nat × MT)) (ops : List Oper) (pre : outParam Prop) (es : outParam (List WE)) (k : outParam (Option Nat)) (e : outParam TypeId) (ys1 ys2 : outParam (List α)) (d0 d1 : outParam Nat) : Prop where
  r : RunWI P B T k e ys1 ys2 d0 d1 L ops pre es
section
variable {d by0 : Nat} {op : Op} {t ty : TypeId} {pos : String} {aft : Array Edge} {pre' : Prop} {τ σ : MT} {u : List Nat} {y : Operand} {z0 : Value}
instance RW3.stop : RW3 P B L [] True []:=⟨fun _ _ _ _ _ _ _=>.stop⟩
instance RW3.g [h : Op1 P L B op pre τ u] [r : RW3 P B ((d,τ) :: L) ops pre' es] : RW3 P B L (⟨some d,op,ty,pos,aft,none⟩ :: ops) (pre ∧ pre') (.g d τ u :: es):=⟨fun T k e ys1 ys2 d0 d1=>.g h (r.r T k e ys1 ys2 d0 d1)⟩
instance (priority:=500) RW2.g [h : Op1 P L B op pre τ u] [r : RW2 P B T k e ys1 d1 ((d,τ) :: L) ops pre' es ys2] : RW2 P B T k e ys1 d1 L (⟨some d,op,ty,pos,aft,none⟩ :: ops) (pre ∧ pre') (.g d τ u :: es) ys2:=⟨fun d0=>.g h (r.r d0)⟩
instance RW2.o [h : ElS P t e k by0 z0] [z : ShZ k z0] [hy : Opd L y σ u] [l : AsLT σ k T ys2] [r : RW3 P B ((d,LS k ((ys1 ++ ys2).map T)) :: L) ops pre es] : RW2 P B T k e ys1 d1 L (⟨some d,.call { callee:=.builtin .append,args:=#[.tmp d1,y],argTypes:=#[t,t] },ty,pos,aft,none⟩ :: ops) ((ys1.length + ys2.length ≤ LIM ∧ (ys1.length + ys2.length) * by0 ≤ 140737488355328) ∧ pre) (.o2 d (LS k ((ys1 ++ ys2).map T)) u :: es) ys2:=⟨fun d0=>.o2 h z hy l (r.r T k e ys1 ys2 d0 d1)⟩
instance (priority:=500) RW1.g [h : Op1 P L B op pre τ u] [r : RW1 P B T k e d0 ((d,τ) :: L) ops pre' es ys1 ys2 d1] : RW1 P B T k e d0 L (⟨some d,op,ty,pos,aft,none⟩ :: ops) (pre ∧ pre') (.g d τ u :: es) ys1 ys2 d1:=⟨.g h r.r⟩
instance RW1.o [h : ElS P t e k by0 z0] [z : ShZ k z0] [hy : Opd L y σ u] [l : AsLT σ k T ys1] [r : RW2 P B T k e ys1 d L ops pre es ys2] : RW1 P B T k e d0 L (⟨some d,.call { callee:=.builtin .append,args:=#[.tmp d0,y],argTypes:=#[t,t] },ty,pos,aft,none⟩ :: ops) ((ys1.length ≤ LIM ∧ ys1.length * by0 ≤ 140737488355328) ∧ pre) (.o1 d u :: es) ys1 ys2 d:=⟨.o1 h z hy l (r.r d0)⟩
instance (priority:=500) RW0.g [h : Op1 P L B op pre τ u] [r : RW0 P B T ((d,τ) :: L) ops pre' es k e ys1 ys2 d0 d1] : RW0 P B T L (⟨some d,op,ty,pos,aft,none⟩ :: ops) (pre ∧ pre') (.g d τ u :: es) k e ys1 ys2 d0 d1:=⟨.g h r.r⟩
instance RW0.o [h : ElS P t e k by0 z0] [r : RW1 P B T k e d L ops pre es ys1 ys2 d1] : RW0 P B T L (⟨some d,.buildSlice t 0 #[],ty,pos,aft,none⟩ :: ops) pre (.o0 d :: es) k e ys1 ys2 d d1:=⟨.o0 h r.r⟩
end
class FinW (es : List WE) (L : List (Nat × MT)) (L' : outParam (List (Nat × MT))) : Prop where
  h : L' = fW es L
section
variable {d : Nat} {τ : MT} {u : List Nat} {L' : List (Nat × MT)}
instance FinW.nil : FinW [] L L:=⟨rfl⟩
instance FinW.g [h : FinW es ((d,τ) :: L) L'] : FinW (.g d τ u :: es) L L':=⟨h.h⟩
instance FinW.o2 [h : FinW es ((d,τ) :: L) L'] : FinW (.o2 d τ u :: es) L L':=⟨h.h⟩
instance FinW.o0 [h : FinW es L L'] : FinW (.o0 d :: es) L L':=⟨h.h⟩
instance FinW.o1 [h : FinW es L L'] : FinW (.o1 d u :: es) L L':=⟨h.h⟩
end
def posW (f : WE → Bool) : Nat → List WE → Nat
  | i,[]=>i
  | i,x :: es=>if f x then i else posW f (i + 1) es
def WE.is2 : WE → Bool
  | .o2 _ _ _=>true
  | _=>false
end
end Go.Proofs.Ytjphllpnhjemjaa
