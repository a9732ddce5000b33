import Derived.MapKept
import Derived.Laws.IdiomRangeMap
import Derived.Test.YtnjbcjmkkejfpaaGreatQg
set_option linter.unusedVariables false
set_option linter.unusedSimpArgs false
set_option linter.unusedVariables false
set_option linter.unusedSimpArgs false
namespace Go.Proofs.YtnjbcjmkkejfpaaGreat
open Go.RowKit (Below)
open Go.MapKept
def MPE (arr : Array MapEntry) (c : Nat) (es : List (Int × Int)) : Prop:=Stamped arr c ∧ (arr.toList.map fun e=>(e.key,e.val)).Perm (es.map fun p=>(Value.int .i64 p.1,Value.int .i64 p.2))
def MP (es : List (Int × Int)) : MT:=⟨fun v G=>∃ r arr c,v = .map (some r) ∧ G r = some (.map arr c) ∧ MPE arr c es,fun hle ⟨r,arr,c,h1,h2,h3⟩=>⟨r,arr,c,h1,hle _ _ h2,h3⟩⟩
instance {es : List (Int × Int)} : ShK (MP es) none:=⟨fun h=>by obtain ⟨r,arr,c,rfl,_⟩:=h;exact ⟨rfl,rfl⟩⟩
structure StX (r : Nat) (o : Obj) (W0 : World) (G0 : Gh) (N : Nat) (L : List (Nat × MT)) (B : List BX) (a : Act) (w : World) (G : Gh) : Prop where
  s : St W0 G0 N L B a w G
  h0 : W0.heap.size ≤ r
  hG : G r = none
  hB : ∀ x ∈ B,x.b ≠ r
  hm : w.heap[r]? = some o
section
variable {P : Program} {W0 : World} {G0 : Gh} {N : Nat} {L L' : List (Nat × MT)} {B B' : List BX} {a : Act} {w : World} {G : Gh} {r : Nat} {ob : Obj}
theorem St.touch (S : St W0 G0 N L B a w G) {w' : World} (h0 : W0.heap.size ≤ r) (hG : G r = none) (hB : ∀ x ∈ B,x.b ≠ r) (hos : w'.os = w.os ∧ w'.tape = w.tape ∧ w'.output = w.output) (hsz : w'.heap.size = w.heap.size) (hbl : ∀ k,k ≠ r → w'.heap[k]? = w.heap[k]?) : St W0 G0 N L B a w' G where
  nxt:=⟨⟨hos.1.trans S.nxt.below.os,hos.2.1.trans S.nxt.below.tape,hos.2.2.trans S.nxt.below.output,by rw [hsz];exact S.nxt.below.size,fun k hk=>(hbl k (by omega)).trans (S.nxt.below.block k hk)⟩,S.nxt.agree,S.nxt.le,fun b o hb=>(hbl b (fun e=>by rw [e,hG] at hb;cases hb)).trans (S.ok b o hb)⟩
  size:=S.size
  dfr:=S.dfr
  ty:=S.ty
  bx:=fun i x h=>by
    obtain ⟨h1,h2,u,hu,hs,ht⟩:=S.bx i x h
    exact ⟨h1,h2,u,(hbl _ (hB x (List.mem_of_getElem? h))).trans hu,hs,ht⟩
  nd:=S.nd
theorem StX.lt (S : StX r ob W0 G0 N L B a w G) : r < w.heap.size:=(Array.getElem?_eq_some_iff.1 S.hm).1
theorem StX.set (S : StX r ob W0 G0 N L B a w G) (o' : Obj) : StX r o' W0 G0 N L B a { w with heap:=w.heap.setIfInBounds r o' } G :=
  ⟨S.s.touch S.h0 S.hG S.hB ⟨rfl,rfl,rfl⟩ (by simp) fun k hk=>(heap_set S.hm).2 k hk,S.h0,S.hG,S.hB,(heap_set S.hm).1⟩
theorem StX.drew (S : StX r ob W0 G0 N L B a w G) : StX r ob W0 G0 N L B a w.drew G :=
  ⟨S.s.touch S.h0 S.hG S.hB ⟨rfl,rfl,rfl⟩ rfl fun k hk=>rfl,S.h0,S.hG,S.hB,S.hm⟩
theorem StX.put (S : StX r ob W0 G0 N L B a w G) {d : Nat} {v : Value} {w' : World} {G' : Gh} {τ : MT} (hd : d < N) (hf : fresh d L = true) (hv : τ.t v G') (hn : Nxt w G w' G') : StX r ob W0 G0 N ((d,τ) :: L) B (a.put (some d) v) w' G' :=
  ⟨S.s.put hd hf hv hn,S.h0,(hn.agree _ S.lt).trans S.hG,S.hB,(hn.below.block _ S.lt).trans S.hm⟩
theorem StX.fz (S : StX r ob W0 G0 N L B a w G) : ∃ G',G' r = some ob ∧ Gle G G' ∧ St W0 G0 N L B a w G':=by
  have hle : Gle G (Gput G r ob):=fun k o hk=>by
    unfold Gput;split
    · rename_i e;subst e;rw [S.hG] at hk;cases hk
    · exact hk
  refine ⟨Gput G r ob,by simp [Gput],hle,⟨S.s.nxt.below,fun b hb=>?_,S.s.nxt.le.trans hle,fun b o hb=>?_⟩,S.s.size,S.s.dfr,fun i p h=>p.2.mono hle (S.s.ty i p h),fun i x h=>?_,S.s.nd⟩
  · have h0:=S.h0
    rw [← S.s.nxt.agree b hb];unfold Gput;rw [if_neg (by omega)]
  · unfold Gput at hb;split at hb
    · rename_i e;subst e;cases hb;exact S.hm
    · exact S.s.ok b o hb
  · obtain ⟨h1,h2,u,hu,hs,ht⟩:=S.s.bx i x h
    refine ⟨h1,?_,u,hu,hs,x.τ.mono hle ht⟩
    unfold Gput;rw [if_neg (S.hB x (List.mem_of_getElem? h))];exact h2
theorem StX.weak (S : StX r ob W0 G0 N L B a w G) (h : ∀ p ∈ L',p ∈ L) : StX r ob W0 G0 N L' B a w G :=
  ⟨S.s.weak fun i p hi=>by obtain ⟨j,hj⟩:=List.mem_iff_getElem?.1 (h p (List.mem_of_getElem? hi));exact S.s.ty j p hj,S.h0,S.hG,S.hB,S.hm⟩
end
class ApM (l m : List MT) (r : outParam (List MT)) : Prop where
  h : l ++ m = r
instance ApM.nil {m : List MT} : ApM [] m m:=⟨rfl⟩
instance ApM.cons {x : MT} {l m r : List MT} [h : ApM l m r] : ApM (x :: l) m (x :: r):=⟨by rw [← h.h];rfl⟩
instance Op1.apc {P : Program} {L : List (Nat × MT)} {B : List BX} {x y : Operand} {u v : List Nat} {t e by0 : Nat} {τ : MT} {τs σs ρs : List MT} [el : ElS P t e none by0 (.slice none 0 0)] [hx : Opd L x (LSC none τs) u] [hy : Opd L y τ v] [ay : AsLS τ none σs] [ap : ApM τs σs ρs] : Op1 P L B (.call { callee:=.builtin .append,args:=#[x,y],argTypes:=#[t,t] }) (τs.length + σs.length ≤ LIM ∧ (τs.length + σs.length) * by0 ≤ 140737488355328) (LS none ρs) (u ++ v):=⟨fun ho hok e' _ hp=>by
  have h:=OpR.appSC hok ho el.h1 el.h2 ⟨rfl,rfl⟩ (hx.h e'.l) (ay.h (hy.h e'.r)) hp.1 hp.2
  rw [ap.h] at h;exact h⟩
namespace X
section
variable {P : Program} {L L' : List (Nat × MT)} {B B' : List BX} {x y : Operand} {u v : List Nat} {t ty : TypeId} {τ τ' : MT} {n c b i j d : Nat} {k : Option Nat}
variable {W0 : World} {G0 : Gh} {N : Nat} {a : Act} {w : World} {G : Gh} {Q : Exit → Act → World → Prop} {pre : Prop} {rest : List Oper} {arr : Array Oper} {pos : String} {aft : Array Edge} {r : Nat} {ob : Obj} {p : Prop}
theorem op {op : Op} [h : Op1 P L B op pre τ u] (hp : pre) (K : ∀ a w G, StX r ob W0 G0 N ((d, τ) :: L) B a w G → wpList P arr Q rest a w) (hdN : (decide (d < N)) = true := by rfl) (hf : fresh d L = true := by rfl) :
    StX r ob W0 G0 N L B a w G → wpList P arr Q (⟨some d,op,ty,pos,aft,none⟩ :: rest) a w:=fun S =>
  wpList_plain rfl fun K' hK=>h.ok rfl S.s.ok (S.s.env u) (S.s.bok u) hp Q K' fun v w' G' hv hn=>hK _ _ (K _ _ _ (S.put (of_decide_eq_true hdN) hf hv hn))
theorem asg [h : Opd L x τ u] (K : ∀ a w G, StX r ob W0 G0 N ((d, τ) :: L) B a w G → wpList P arr Q rest a w) (hdN : (decide (d < N)) = true := by rfl) (hf : fresh d L = true := by rfl) :
    StX r ob W0 G0 N L B a w G → wpList P arr Q (⟨some d,.assign x,ty,pos,aft,none⟩ :: rest) a w:=fun S =>
  wpList_plain rfl fun K' hK=>by
    unfold Oper.wp
    have hr : (execOp a.eval ⟨some d,.assign x,ty,pos,aft,none⟩).run P w = .ok (.value (a.eval x)) w:=by simp [execOp]
    rw [hr]
    exact hK _ _ (K _ _ _ (S.put (of_decide_eq_true hdN) hf (h.h (S.s.env u)) (Nxt.refl S.s.ok)))
theorem cb {e : Bool} {c c' : Code} [h : Lk L t (BT e)] (h1 : e = true → StX r ob W0 G0 N L B a w G → c.wp P Q a w) (h2 : e = false → StX r ob W0 G0 N L B a w G → c'.wp P Q a w) : StX r ob W0 G0 N L B a w G → (Code.cond (.tmp t) c c').wp P Q a w:=fun S=>S.s.cb (fun e=>h1 e S) (fun e=>h2 e S)
theorem ste [s : Sto P L B t x y j τ pre u] [hB : BAt B j τ B'] (hp : pre) (K : ∀ w,StX r ob W0 G0 N L B' a w G → wpList P arr Q rest a w) {ty' : TypeId} : StX r ob W0 G0 N L B a w G → wpList P arr Q (⟨none,.store t x y,ty',pos,aft,none⟩ :: rest) a w:=fun S =>
  wpList_plain rfl fun K' hK=>by
    obtain ⟨xb,h1,h2⟩:=s.h
    obtain ⟨x0,h3,h4⟩:=hB.h
    rw [h1] at h3;cases h3
    obtain ⟨_,_,v,hv,hs,ht⟩:=S.s.bx j _ h1
    obtain ⟨v1,h5,h6,h7⟩:=h2 hp (S.s.env u) hv hs ht
    have hne : xb.b ≠ r:=S.hB xb (List.mem_of_getElem? h1)
    refine h7 Q K' rfl rfl (hK _ _ (K _ ⟨h4 ▸ S.s.setVar j h1 h5 h6,S.h0,S.hG,fun y hy=>?_,?_⟩))
    · rw [h4] at hy
      obtain ⟨m,hm⟩:=List.mem_iff_getElem?.1 hy
      rw [List.getElem?_set] at hm
      split at hm
      · split at hm
        · cases hm;exact hne
        · cases hm
      · exact S.hB y (List.mem_of_getElem? hm)
    · rw [setRow_other _ _ _ _ hne];exact S.hm
theorem mk (K : ∀ r a w G, StX r (.map #[] 0) W0 G0 N ((d, .ex (.map (some r))) :: L) B a w G → wpList P arr Q rest a w) (hdN : (decide (d < N)) = true := by rfl) (hf : fresh d L = true := by rfl) :
    St W0 G0 N L B a w G → wpList P arr Q (⟨some d,.makeMap t none,ty,pos,aft,none⟩ :: rest) a w:=fun S =>
  wpList_plain rfl fun K' hK=>by
    unfold Oper.wp
    have hr : (execOp a.eval ⟨some d,.makeMap t none,ty,pos,aft,none⟩).run P w = .ok (.value (.map (some w.heap.size))) (w.alloc (.map #[] 0)):=by simp [execOp,Instr.makeMap,Result.andThen]
    rw [hr]
    have hn:=Nxt.alloc S.ok (.map #[] 0)
    refine hK _ _ (K w.heap.size _ _ _ ⟨S.put (of_decide_eq_true hdN) hf rfl hn,S.nxt.below.size,S.ok.none (Nat.le_refl _),fun x hx e=>?_,heap_alloc_new w _⟩)
    obtain ⟨m,hm⟩:=List.mem_iff_getElem?.1 hx
    have:=(S.bx m x hm).lt
    omega
class MapI (P : Program) (t : TypeId) : Prop where
  h : ∃ kt et,P.underlying t = some (.map kt et) ∧ P.underlying kt = some (.int .i64)
theorem ins_run [mi : MapI P t] {es : Array MapEntry} {cl : Nat} {z : Int} {val : Value} (hb : w.heap[r]? = some (.map es cl)) (hk : ∀ e ∈ es.toList, ∃ z', e.key = .int .i64 z' ∧ z' ≠ z) :
    (Instr.mapUpdate t (.map (some r)) (.int .i64 z) val).run P w = .ok () { w with heap:=w.heap.setIfInBounds r (.map (es.push { key:=.int .i64 z,val:=val,born:=cl }) (cl + 1)) }:=by
  obtain ⟨kt,et,hm,hd⟩:=mi.h
  have hk' : IsKey (.int .i64) (.int .i64 z):=rfl
  rcases findNow_spec hk' es.toList 0 (fun x hx=>by obtain ⟨z',e,_⟩:=hk x hx;rw [e];rfl) with ⟨h1,h2⟩ | ⟨j,e,h1,h2,h3⟩
  · simp [Instr.mapUpdate,run_underlying hm,Go.MapKept.run_getObj_map hb,run_checkKey hd hk',run_findKey hd h1,run_setObj_map _ hb,Result.andThen]
  · obtain ⟨z',e1,e2⟩:=hk e (List.mem_of_getElem? h2)
    rw [e1] at h3;injection h3 with _ h3;exact absurd h3 e2
theorem ins {es : Array MapEntry} {cl : Nat} {z z' : Int} [mi : MapI P t] [h : Lk L d (.ex (.map (some r)))] (hk : ∀ e ∈ es.toList, ∃ z', e.key = .int .i64 z' ∧ z' ≠ z)
    (K : ∀ w,StX r (.map (es.push { key:=.int .i64 z,val:=.int .i64 z',born:=cl }) (cl + 1)) W0 G0 N L B a w G → wpList P arr Q rest a w) {ty' : TypeId} :
    StX r (.map es cl) W0 G0 N L B a w G → wpList P arr Q (⟨none,.insert t (.tmp d) (.const (.int .i64 z)) (.const (.int .i64 z')),ty',pos,aft,none⟩ :: rest) a w:=fun S =>
  wpList_plain rfl fun K' hK=>by
    unfold Oper.wp
    have hd : tm a d = .map (some r):=S.s.mem h.m
    have hr : (execOp a.eval ⟨none,.insert t (.tmp d) (.const (.int .i64 z)) (.const (.int .i64 z')),ty',pos,aft,none⟩).run P w = .ok .skip { w with heap:=w.heap.setIfInBounds r (.map (es.push { key:=.int .i64 z,val:=.int .i64 z',born:=cl }) (cl + 1)) }:=by
      have h1:=ins_run (P:=P) (t:=t) (val:=.int .i64 z') S.hm hk
      have h2 : a.eval (.tmp d) = .map (some r):=hd
      simp only [execOp,h2]
      simp [Act.eval,h1,Result.andThen]
    rw [hr]
    exact hK _ _ (K _ (S.set _))
theorem fz {es : Array MapEntry} {cl : Nat} {q : Prop} (d : Nat) (ps : List (Int × Int)) [h : Lk L d (.ex (.map (some r)))] [rm : Rm L d L'] (he : MPE es cl ps) (K : ∀ G,St W0 G0 N ((d,MP ps) :: L') B a w G → q) : StX r (.map es cl) W0 G0 N L B a w G → q:=fun S=>by
  obtain ⟨G',h1,h2,S'⟩:=S.fz
  refine K G' (S'.weak fun i p hi=>?_)
  rcases List.mem_cons.1 (List.mem_of_getElem? hi) with e | e
  · subst e;exact ⟨r,es,cl,S'.mem h.m,h1,he⟩
  · exact S'.mem (rm.h p e)
theorem mpe1 {z z' : Int} : MPE (#[].push { key:=.int .i64 z,val:=.int .i64 z',born:=0 }) (0 + 1) [(z,z')]:=⟨⟨by simp,by simp,by simp⟩,by simp⟩
theorem mpe2 {z z' y y' : Int} (h : z ≠ y) : MPE ((#[].push { key:=.int .i64 z,val:=.int .i64 z',born:=0 }).push { key:=.int .i64 y,val:=.int .i64 y',born:=0 + 1 }) (0 + 1 + 1) [(z,z'),(y,y')]:=⟨⟨by simp,by simp,by simp [h]⟩,by simp⟩
theorem mpe2' {z z' y y' : Int} (h : z ≠ y) : MPE ((#[].push { key:=.int .i64 y,val:=.int .i64 y',born:=0 }).push { key:=.int .i64 z,val:=.int .i64 z',born:=0 + 1 }) (0 + 1 + 1) [(z,z'),(y,y')]:=⟨⟨by simp,by simp,by simp [Ne.symm h]⟩,by simpa using List.Perm.swap _ _ _⟩
end
section
variable {P : Program} {w : World}
theorem next_run {ty : TypeId} {bm ib since c0 cl : Nat} {seen : Array Nat} {es : Array MapEntry} (hb : w.heap[bm]? = some (.map es cl)) (hi : w.heap[ib]? = some (.mapIter (some bm) since seen c0)) (hold : ∀ x ∈ es.toList, x.born < since) (hsc : since ≤ c0) :
    ((leftOf es seen).size = 0 ∧ (Instr.next (.pointer (some ⟨ib,0,none⟩)) false ty).run P w = .ok (.tuple #[.bool false]) w) ∨
    ∃ e ∈ (leftOf es seen).toList,∃ w1 : World,(w1 = w ∨ w1 = w.drew) ∧ (Instr.next (.pointer (some ⟨ib,0,none⟩)) false ty).run P w = .ok (.tuple #[.bool true,e.key,e.val]) { w1 with heap:=w1.heap.setIfInBounds ib (.mapIter (some bm) since (seen.push e.born) cl) }:=by
  simp only [Instr.next,getObj,Sem.run_bind,Sem.run,hi,hb,Result.andThen,next_test_false seen es since c0 hold hsc,Bool.false_eq_true,if_false]
  unfold leftOf
  have hmem : ∀ x ∈ (Array.filter (fun e=>!seen.contains e.born) es).toList,x.born < since:=fun x hx=>hold x (by simp at hx ⊢;exact hx.1)
  generalize Array.filter (fun e=>!seen.contains e.born) es = L at hmem ⊢
  have e1 : L.filter (fun x=>decide (x.born < since)) = L:=Array.filter_eq_self.2 (fun x hx=>by simpa using hmem x (by simpa using hx))
  have e2 : L.filter (fun x=>decide (x.born ≥ since)) = #[]:=by
    rw [Array.filter_eq_empty_iff]
    intro x hx
    have:=hmem x (by simpa using hx)
    simp
    omega
  simp only [e1,e2,Array.append_empty]
  by_cases h0 : L.size = 0
  · left
    have : L = #[]:=Array.eq_empty_of_size_eq_zero h0
    subst this
    refine ⟨rfl,?_⟩
    simp [choose,Sem.run,Question.forced]
  · right
    have hne : L.isEmpty = false:=by simp [Array.isEmpty,h0]
    simp only [hne,Bool.false_eq_true,if_false,Array.empty_append,Array.size_map]
    have hch : ∃ (j : Nat) (w1 : World),j < L.size ∧ (w1 = w ∨ w1 = w.drew) ∧ (choose (Question.mapNext L.size)).run P w = .ok j w1:=by
      by_cases hf : L.size ≤ 1
      · exact ⟨0,w,by omega,.inl rfl,by simp [choose,Sem.run,Question.forced,hf]⟩
      · exact ⟨_, w.drew, Nat.mod_lt _ (by omega), .inr rfl, by
          simp only [choose,Sem.run,Question.forced,decide_eq_true_eq,hf,if_false,Question.cut]
          rfl⟩
    obtain ⟨j,w1,hj,hal,hrun⟩:=hch
    refine ⟨L[j],by simp,w1,hal,?_⟩
    have hi1 : w1.heap[ib]? = some (.mapIter (some bm) since seen c0):=by rcases hal with rfl | rfl <;> exact hi
    have hset : ∀ (o' : Obj),(setObj ib o').run P w1 = .ok () { w1 with heap:=w1.heap.setIfInBounds ib o' }:=fun o'=>by
      simp [setObj,Sem.run,hi1]
    simp only [hrun,Array.getElem?_map,Array.getElem?_eq_getElem hj,Option.map_some,Sem.run_bind,hset,Result.andThen]
    rfl
theorem entry_run {bm ib since cl : Nat} {seen : Array Nat} {es : Array MapEntry} {e : MapEntry} (hb : w.heap[bm]? = some (.map es cl)) (hi : w.heap[ib]? = some (.mapIter (some bm) since (seen.push e.born) cl)) (he : e ∈ es.toList) (hn : (es.toList.map (·.born)).Nodup) :
    (Instr.entry (.pointer (some ⟨ib,0,none⟩))).run P w = .ok (.tuple #[e.key,e.val]) w:=by
  have hf : es.find? (·.born == e.born) = some e:=by rw [← Array.find?_toList];exact find_born e es.toList hn he
  simp only [Instr.entry,getObj,Sem.run_bind,Sem.run,hi,hb,Result.andThen,Array.back?_push,bne_self_eq_false,Bool.false_eq_true,if_false,hf]
  rfl
end
section
variable {P : Program} {L L' : List (Nat × MT)} {B B' : List BX} {x y : Operand} {u v : List Nat} {t ty : TypeId} {τ τ' : MT} {n b i j d : Nat} {k : Option Nat}
variable {W0 : World} {G0 : Gh} {N : Nat} {a : Act} {w : World} {G : Gh} {Q : Exit → Act → World → Prop} {pre : Prop} {rest : List Oper} {arr : Array Oper} {pos : String} {aft : Array Edge} {r ib c : Nat} {es : Array MapEntry} {seen : Array Nat} {e : MapEntry}
abbrev ITP (ib : Nat) : MT:=.ex (.pointer (some ⟨ib,0,none⟩))
theorem range [mi : MapI P t] [h : Lk L d (.ex (.map (some r)))] {d' : Nat} (hG : G0 r = some (.map es c)) (K : ∀ ib a w G, StX ib (.mapIter (some r) c #[] c) W0 G0 N ((d', ITP ib) :: L) B a w G → wpList P arr Q rest a w) (hdN : (decide (d' < N)) = true := by rfl) (hf : fresh d' L = true := by rfl) :
    St W0 G0 N L B a w G → wpList P arr Q (⟨some d',.range t (.tmp d),ty,pos,aft,none⟩ :: rest) a w:=fun S =>
  wpList_plain rfl fun K' hK=>by
    unfold Oper.wp
    obtain ⟨kt,et,hm,hd⟩:=mi.h
    have hd' : a.eval (.tmp d) = .map (some r):=S.mem h.m
    have hr : (execOp a.eval ⟨some d',.range t (.tmp d),ty,pos,aft,none⟩).run P w = .ok (.value (.pointer (some ⟨w.heap.size,0,none⟩))) (w.alloc (.mapIter (some r) c #[] c)):=by
      have h1:=run_range_map (P:=P) w t kt et r es c hm (S.ok _ _ (S.nxt.le _ _ hG))
      simp only [execOp,hd']
      simp [h1,Result.andThen]
    rw [hr]
    have hn:=Nxt.alloc S.ok (.mapIter (some r) c #[] c)
    refine hK _ _ (K w.heap.size _ _ _ ⟨S.put (of_decide_eq_true hdN) hf rfl hn,S.nxt.below.size,S.ok.none (Nat.le_refl _),fun x hx e=>?_,heap_alloc_new w _⟩)
    obtain ⟨m,hm⟩:=List.mem_iff_getElem?.1 hx
    have:=(S.bx m x hm).lt
    omega
theorem next [h : Lk L d (ITP ib)] {d' : Nat} {R : Nat → Int → Prop} (hG : G0 r = some (.map es c)) (hs : Stamped es c) (hR : ∀ e ∈ es.toList, ∃ (i : Nat) (z : Int), e.key = .int .i64 i ∧ e.val = .int .i64 z ∧ R i z)
    (K0 : (leftOf es seen).size = 0 → ∀ a w G,StX ib (.mapIter (some r) c seen c) W0 G0 N ((d',.ex (.tuple #[.bool false])) :: L) B a w G → wpList P arr Q rest a w)
    (K1 : ∀ (e : MapEntry) (i : Nat) (z : Int),e ∈ (leftOf es seen).toList → e.key = .int .i64 i → e.val = .int .i64 z → R i z → ∀ a w G,StX ib (.mapIter (some r) c (seen.push e.born) c) W0 G0 N ((d',.tup3 (BT true) (NT i) (IT z)) :: L) B a w G → wpList P arr Q rest a w) (hdN : (decide (d' < N)) = true:=by rfl) (hf : fresh d' L = true:=by rfl) :
    StX ib (.mapIter (some r) c seen c) W0 G0 N L B a w G → wpList P arr Q (⟨some d',.next (.tmp d) false,ty,pos,aft,none⟩ :: rest) a w:=fun S =>
  wpList_plain rfl fun K' hK=>by
    unfold Oper.wp
    have hd' : a.eval (.tmp d) = .pointer (some ⟨ib,0,none⟩):=S.s.mem h.m
    rcases next_run (P:=P) (ty:=ty) (S.s.ok _ _ (S.s.nxt.le _ _ hG)) S.hm hs.1 (Nat.le_refl c) with ⟨h1,h2⟩ | ⟨e,he,w1,hw,h2⟩
    · have hr : (execOp a.eval ⟨some d', .next (.tmp d) false, ty, pos, aft, none⟩).run P w = .ok (.value (.tuple #[.bool false])) w := by
        simp only [execOp,hd']
        simp [h2,Result.andThen]
      rw [hr]
      exact hK _ _ (K0 h1 _ _ _ (S.put (of_decide_eq_true hdN) hf rfl (Nxt.refl S.s.ok)))
    · have hr : (execOp a.eval ⟨some d', .next (.tmp d) false, ty, pos, aft, none⟩).run P w = .ok (.value (.tuple #[.bool true, e.key, e.val])) { w1 with heap := w1.heap.setIfInBounds ib (.mapIter (some r) c (seen.push e.born) c) } := by
        simp only [execOp,hd']
        simp [h2,Result.andThen]
      rw [hr]
      have S1 : StX ib (.mapIter (some r) c seen c) W0 G0 N L B a w1 G:=by
        rcases hw with rfl | rfl
        · exact S
        · exact S.drew
      have S2:=S1.set (.mapIter (some r) c (seen.push e.born) c)
      obtain ⟨i,z,h3,h4,h5⟩:=hR e (mem_left he).1
      exact hK _ _ (K1 e i z he h3 h4 h5 _ _ _ (S2.put (of_decide_eq_true hdN) hf ⟨_,_,_,rfl,rfl,h3,h4⟩ (Nxt.refl S2.s.ok)))
theorem entry [h : Lk L d (ITP ib)] {d' i : Nat} {z : Int} (hk : e.key = .int .i64 i) (hv : e.val = .int .i64 z) (hG : G0 r = some (.map es c)) (hs : Stamped es c) (he : e ∈ es.toList) (K : ∀ a w G, StX ib (.mapIter (some r) c (seen.push e.born) c) W0 G0 N ((d', .tup2 (NT i) (IT z)) :: L) B a w G → wpList P arr Q rest a w) (hdN : (decide (d' < N)) = true := by rfl) (hf : fresh d' L = true := by rfl) :
    StX ib (.mapIter (some r) c (seen.push e.born) c) W0 G0 N L B a w G → wpList P arr Q (⟨some d',.entry (.tmp d),ty,pos,aft,none⟩ :: rest) a w:=fun S =>
  wpList_plain rfl fun K' hK=>by
    unfold Oper.wp
    have hd' : a.eval (.tmp d) = .pointer (some ⟨ib,0,none⟩):=S.s.mem h.m
    have h2:=entry_run (P:=P) (S.s.ok _ _ (S.s.nxt.le _ _ hG)) S.hm he hs.2.1
    have hr : (execOp a.eval ⟨some d',.entry (.tmp d),ty,pos,aft,none⟩).run P w = .ok (.value (.tuple #[e.key,e.val])) w:=by
      simp only [execOp,hd']
      simp [h2,Result.andThen]
    rw [hr]
    exact hK _ _ (K _ _ _ (S.put (of_decide_eq_true hdN) hf ⟨_,_,rfl,hk,hv⟩ (Nxt.refl S.s.ok)))
def Hd (ib r c : Nat) (W0 : World) (G0 : Gh) (N : Nat) (Lh : List (Nat × MT)) (Bh : Array Nat → List BX) (seen : Array Nat) (a : Act) (w : World) : Prop:=∃ G,StX ib (.mapIter (some r) c seen c) W0 G0 N Lh (Bh seen) a w G
theorem lp {cd : Code} (es : Array MapEntry) (Lh : List (Nat × MT)) (Bh : Array Nat → List BX) (hB : B = Bh #[]) (hL : ∀ p ∈ Lh, p ∈ L)
    (round : ∀ seen a w G,StX ib (.mapIter (some r) c seen c) W0 G0 N Lh (Bh seen) a w G → cd.wp P (Exit.then (fun a w=>∃ seen',(leftOf es seen').size < (leftOf es seen).size ∧ Hd ib r c W0 G0 N Lh Bh seen' a w) Q) a w) :
    StX ib (.mapIter (some r) c #[] c) W0 G0 N L B a w G → (Code.loop cd).wp P Q a w:=fun S =>
  wp_loopJ (fun μ a w=>∃ seen,μ = (leftOf es seen).size ∧ Hd ib r c W0 G0 N Lh Bh seen a w) (leftOf es #[]).size ⟨#[],rfl,G,hB ▸ S.weak hL⟩ fun μ a w ⟨seen,e,G,S⟩=>by
    subst e
    refine Code.wp_mono ?_ (round seen a w G S)
    intro e a w h
    cases e <;> first | exact h | skip
    obtain ⟨y,h1,h2⟩:=h
    exact ⟨_,h1,y,rfl,h2⟩
theorem ag {Lh : List (Nat × MT)} {Bh : Array Nat → List BX} (hB : B = Bh (seen.push e.born)) (he : e ∈ (leftOf es seen).toList) (hL : ∀ p ∈ Lh, p ∈ L) :
    StX ib (.mapIter (some r) c (seen.push e.born) c) W0 G0 N L B a w G → Exit.then (fun a w=>∃ seen',(leftOf es seen').size < (leftOf es seen).size ∧ Hd ib r c W0 G0 N Lh Bh seen' a w) Q .normal a w:=fun S =>
  ⟨_,left_shrinks es seen e he,G,hB ▸ S.weak hL⟩
theorem out {id : Nat} {ob : Obj} (K : St W0 G0 N L B a w G → (Code.exit id).wp P Q a w) : StX r ob W0 G0 N L B a w G → (Code.exit id).wp P Q a w:=fun S=>K S.s
instance Op1.ex1 [h : Opd L x (.ex (.tuple #[.bool false])) u] : Op1 P L B (.extract x 0) True (BT false) u:=⟨fun ho hok e' _ _=>.run hok (by simp [execOp,ho,show _ = _ from h.h e',Instr.extract]) rfl⟩
end
def valZ : Value → Int | .int _ n=>n | _=>0
def outF (es : Array MapEntry) (n : Nat) (seen : Array Nat) : List Rat:=(List.range n).map fun (i : Nat)=>match es.toList.find? (fun e=>seen.contains e.born && decide (valZ e.key = (i : Int))) with | some e=>((valZ e.val : Int) : Rat) | none=>0
theorem outF_0 {es : Array MapEntry} {n : Nat} : List.replicate n 0 = outF es n #[]:=by
  refine List.ext_getElem (by simp [outF]) fun i h1 h2=>?_
  have : es.toList.find? (fun e=>(#[] : Array Nat).contains e.born && decide (valZ e.key = (i : Int))) = none:=by rw [List.find?_eq_none];simp
  simp only [outF,List.getElem_replicate,List.getElem_map,List.getElem_range]
  rw [this]
theorem outF_s {es : Array MapEntry} {c n i : Nat} {seen : Array Nat} {e : MapEntry} (hs : Stamped es c) (hk : ∀ x ∈ es.toList,∃ z,x.key = .int .i64 z) (he : e ∈ es.toList) (hi : valZ e.key = (i : Int)) : (outF es n seen).set i ((valZ e.val : Int) : Rat) = outF es n (seen.push e.born):=by
  have huniq : ∀ x ∈ es.toList,valZ x.key = valZ e.key → x = e:=fun x hx h=>by
    obtain ⟨z,hz⟩:=hk x hx
    obtain ⟨z',hz'⟩:=hk e he
    have hkk : x.key = e.key:=by rw [hz,hz'] at h ⊢;simp only [valZ] at h;rw [h]
    have hnd:=hs.2.2
    obtain ⟨p,hp⟩:=List.mem_iff_getElem?.1 hx
    obtain ⟨q,hq⟩:=List.mem_iff_getElem?.1 he
    by_cases hpq : p = q
    · subst hpq;rw [hp] at hq;exact Option.some.inj hq
    · exfalso
      have h1 : (es.toList.map (·.key))[p]? = some x.key:=by simp [hp]
      have h2 : (es.toList.map (·.key))[q]? = some e.key:=by simp [hq]
      rw [hkk] at h1
      obtain ⟨l1,e1⟩:=List.getElem?_eq_some_iff.1 h1
      obtain ⟨l2,e2⟩:=List.getElem?_eq_some_iff.1 h2
      exact hpq ((List.getElem_inj (h₀:=l1) (h₁:=l2) hnd).1 (e1.trans e2.symm))
  refine List.ext_getElem (by simp [outF]) fun m h1 h2=>?_
  simp only [outF,List.getElem_set,List.getElem_map,List.getElem_range]
  by_cases hm : i = m
  · subst hm
    rw [if_pos rfl]
    have hf : es.toList.find? (fun x=>(seen.push e.born).contains x.born && decide (valZ x.key = (i : Int))) = some e:=by
      cases hx : es.toList.find? (fun x=>(seen.push e.born).contains x.born && decide (valZ x.key = (i : Int))) with
      | none =>
        have:=List.find?_eq_none.1 hx e he
        simp [contains_push,hi] at this
      | some x =>
        have h3:=List.find?_some hx
        simp only [Bool.and_eq_true,decide_eq_true_eq] at h3
        rw [huniq x (List.mem_of_find?_eq_some hx) (by rw [h3.2,hi])]
    rw [hf]
  · rw [if_neg hm]
    have hc : ∀ l : List MapEntry,l.find? (fun x=>(seen.push e.born).contains x.born && decide (valZ x.key = (m : Int))) = l.find? (fun x=>seen.contains x.born && decide (valZ x.key = (m : Int))) ∨ ∃ x ∈ l,x.born = e.born ∧ valZ x.key = (m : Int):=fun l=>by
      induction l with
      | nil=>exact .inl rfl
      | cons x l ih =>
        by_cases hx : x.born = e.born ∧ valZ x.key = (m : Int)
        · exact .inr ⟨x,.head _,hx⟩
        · rcases ih with ih | ⟨y,hy,hy2⟩
          · left
            have hp : ((seen.push e.born).contains x.born && decide (valZ x.key = (m : Int))) = (seen.contains x.born && decide (valZ x.key = (m : Int))):=by
              rw [contains_push]
              by_cases hb : x.born = e.born
              · have : ¬ valZ x.key = (m : Int):=fun h=>hx ⟨hb,h⟩
                rw [decide_eq_false this];simp
              · rw [beq_eq_false_iff_ne.2 hb];simp
            simp only [List.find?_cons,hp,ih]
          · exact .inr ⟨y,.tail _ hy,hy2⟩
    rcases hc es.toList with h | ⟨x,hx,hb,hv⟩
    · rw [h]
    · exfalso
      have : x = e:=born_inj hs.2.1 hx he hb
      subst this
      omega
theorem outF_e {es : Array MapEntry} {n : Nat} {seen : Array Nat} (h : (leftOf es seen).size = 0) : outF es n seen = (List.range n).map fun (i : Nat)=>match es.toList.find? (fun e=>decide (valZ e.key = (i : Int))) with | some e=>((valZ e.val : Int) : Rat) | none=>0:=by
  have hall:=all_seen es seen h
  have key : ∀ (m : Nat),∀ l : List MapEntry,(∀ x ∈ l,x ∈ es.toList) → l.find? (fun e=>seen.contains e.born && decide (valZ e.key = (m : Int))) = l.find? (fun e=>decide (valZ e.key = (m : Int))):=fun m l hl=>by
    induction l with
    | nil=>rfl
    | cons x l ih =>
      simp only [List.find?_cons]
      rw [hall x (hl x (.head _)),Bool.true_and,ih fun y hy=>hl y (.tail _ hy)]
  unfold outF
  refine List.map_congr_left fun m _=>?_
  rw [key m es.toList fun x hx=>hx]
def unitF (n : Nat) (ps : List (Int × Int)) : List Rat:=(List.range n).map fun (i : Nat)=>match ps.find? (fun p=>decide (p.1 = (i : Int))) with | some p=>((p.2 : Int) : Rat) | none=>0
theorem find_perm {l m : List (Int × Int)} (h : l.Perm m) (hn : (l.map Prod.fst).Nodup) (i : Int) : l.find? (fun p=>decide (p.1 = i)) = m.find? (fun p=>decide (p.1 = i)):=by
  induction h with
  | nil=>rfl
  | cons x h ih =>
    simp only [List.map_cons,List.nodup_cons] at hn
    simp only [List.find?_cons,ih hn.2]
  | swap x y l =>
    simp only [List.map_cons,List.nodup_cons,List.mem_cons,not_or] at hn
    simp only [List.find?_cons]
    by_cases h1 : x.1 = i <;> by_cases h2 : y.1 = i <;> simp [h1,h2]
    exact absurd (h2.trans h1.symm) hn.1.1
  | trans h1 h2 ih1 ih2=>rw [ih1 hn,ih2 ((h1.map Prod.fst).nodup_iff.1 hn)]
theorem outF_u {es : Array MapEntry} {c n : Nat} {ps : List (Int × Int)} {seen : Array Nat} (h : (leftOf es seen).size = 0) (he : MPE es c ps) (hn : (ps.map Prod.fst).Nodup) : outF es n seen = unitF n ps:=by
  rw [outF_e h]
  unfold unitF
  refine List.map_congr_left fun m _=>?_
  have hp : (es.toList.map fun e=>(valZ e.key,valZ e.val)).Perm ps:=by
    have:=he.2.map fun p : Value × Value=>(valZ p.1,valZ p.2)
    simpa [List.map_map,Function.comp_def,valZ] using this
  rw [← find_perm hp ((hp.map Prod.fst).nodup_iff.2 hn) m]
  have : ∀ l : List MapEntry,(match l.find? (fun e=>decide (valZ e.key = (m : Int))) with | some e=>((valZ e.val : Int) : Rat) | none=>0) = (match (l.map fun e=>(valZ e.key,valZ e.val)).find? (fun p=>decide (p.1 = (m : Int))) with | some p=>((p.2 : Int) : Rat) | none=>0):=fun l=>by
    induction l with
    | nil=>rfl
    | cons x l ih =>
      simp only [List.map_cons,List.find?_cons]
      by_cases hx : valZ x.key = (m : Int)
      · rw [decide_eq_true hx]
      · rw [decide_eq_false hx];exact ih
  exact this es.toList
theorem mp_ex {ps : List (Int × Int)} {v : Value} {G : Gh} (h : (MP ps).t v G) : ∃ r es c,(MT.ex (.map (some r))).t v G ∧ G r = some (.map es c) ∧ MPE es c ps:=h
theorem un_mem {es : Array MapEntry} {c n : Nat} {ps : List (Int × Int)} (he : MPE es c ps) (hp : ∀ p ∈ ps,0 ≤ p.1 ∧ p.1 < n ∧ I64 p.2) : ∀ e ∈ es.toList,∃ (i : Nat) (z : Int),e.key = .int .i64 i ∧ e.val = .int .i64 z ∧ i < n ∧ I64 z:=fun e h=>by
  have : (e.key,e.val) ∈ ps.map fun p=>(Value.int .i64 p.1,Value.int .i64 p.2):=he.2.mem_iff.1 (List.mem_map.2 ⟨e,h,rfl⟩)
  obtain ⟨p,hp1,e1⟩:=List.mem_map.1 this
  simp only [Prod.mk.injEq] at e1
  obtain ⟨h1,h2,h3⟩:=hp p hp1
  exact ⟨p.1.toNat,p.2,by rw [← e1.1,Int.toNat_of_nonneg h1],e1.2.symm,by omega,h3⟩
theorem un_key {es : Array MapEntry} {c : Nat} {ps : List (Int × Int)} (he : MPE es c ps) : ∀ e ∈ es.toList,∃ z,e.key = .int .i64 z:=fun e h=>by
  have : (e.key,e.val) ∈ ps.map fun p=>(Value.int .i64 p.1,Value.int .i64 p.2):=he.2.mem_iff.1 (List.mem_map.2 ⟨e,h,rfl⟩)
  obtain ⟨p,hp1,e1⟩:=List.mem_map.1 this
  simp only [Prod.mk.injEq] at e1
  exact ⟨p.1,e1.1.symm⟩
theorem un_set {es : Array MapEntry} {c n i : Nat} {z : Int} {ps : List (Int × Int)} {seen : Array Nat} {e : MapEntry} (he : MPE es c ps) (hm : e ∈ (leftOf es seen).toList) (hk : e.key = .int .i64 i) (hv : e.val = .int .i64 z) : (outF es n seen).set i ((z : Int) : Rat) = outF es n (seen.push e.born):=by
  have:=outF_s (n:=n) (seen:=seen) (i:=i) he.1 (un_key he) (mem_left hm).1 (by rw [hk];rfl)
  rwa [hv] at this
theorem outF_len {es : Array MapEntry} {n : Nat} {seen : Array Nat} : (outF es n seen).length = n:=by simp [outF]
end X
end Go.Proofs.YtnjbcjmkkejfpaaGreat
set_option linter.unusedVariables false
set_option linter.unusedSimpArgs false
namespace Go.Proofs.YtnjbcjmkkejfpaaGreat
open Go.RowKit (Below)
def dnA (n : Nat) (js : List Nat) : Array Bool:=(Array.range n).map fun i=>js.contains i
theorem dnA_0 {n : Nat} : Array.replicate n false = dnA n []:=by
  apply Array.ext
  · simp [dnA]
  · intro i h1 h2;simp [dnA]
theorem dnA_s {n i : Nat} {js : List Nat} : (dnA n js).setIfInBounds i true = dnA n (i :: js):=by
  apply Array.ext
  · simp [dnA]
  · intro k h1 h2
    rw [Array.getElem_setIfInBounds (by simpa using h1)]
    simp only [dnA,Array.getElem_map,Array.getElem_range,List.contains_cons]
    by_cases e : i = k
    · subst e;simp
    · rw [if_neg e,show (k == i) = false from beq_eq_false_iff_ne.2 (Ne.symm e),Bool.false_or]
namespace W
section
variable {P : Program} {B : List BX} {L : List (Nat × MT)} {W0 : World} {G0 : Gh} {N : Nat} {a : Act} {w : World} {G : Gh} {Q : Exit → Act → World → Prop} {p : Prop} {id n i i1 i2 i3 fuel : Nat} {l : List Oper} {js : List Nat} {K : Act → World → Prop} {o : Oper}
theorem anyS (hm : P.follows .mixedOrders = true) (n : Nat) (hn : l.length = n) (h : ∀ w,St W0 G0 N L B a w G → wpAny P .any l.toArray Q n (dnA n []) a w) : St W0 G0 N L B a w G → (Code.region id l.toArray true).wp P Q a w:=fun S=>wp_region_any hm (by
  have e : l.toArray.size = n:=by simpa using hn
  rw [e,dnA_0]
  exact h _ { S with nxt:=S.nxt.trans (Nxt.drew S.ok),bx:=fun i x h=>(S.bx i x h).nxt (Nxt.drew S.ok) })
theorem anyE (js : List Nat) (hr : Region.ready .any l.toArray (dnA n js) = []) (h : p → Q .normal a w) : p → wpAny P .any l.toArray Q 0 (dnA n js) a w:=fun S=>⟨hr,h S⟩
theorem anyI {is : List Nat} (hr : Region.ready .any l.toArray (dnA n js) = i :: is) (h : ∀ j ∈ i :: is,p → wpOp P l.toArray Q j (wpAny P .any l.toArray Q fuel (dnA n (j :: js))) a w) : p → wpAny P .any l.toArray Q (fuel + 1) (dnA n js) a w:=fun S=>⟨fun e=>(by rw [hr] at e;exact absurd e (by simp)),fun j hj=>by
  rw [hr] at hj
  have:=h j hj S
  rw [← dnA_s] at this
  exact this⟩
theorem any1 (js : List Nat) (i : Nat) (hr : Region.ready .any l.toArray (dnA n js) = [i]) (h : p → wpOp P l.toArray Q i (wpAny P .any l.toArray Q fuel (dnA n (i :: js))) a w) : p → wpAny P .any l.toArray Q (fuel + 1) (dnA n js) a w:=anyI hr fun j hj=>by
  simp only [List.mem_cons,List.not_mem_nil,or_false] at hj;subst hj;exact h
theorem any2 (js : List Nat) (i1 i2 : Nat) (hr : Region.ready .any l.toArray (dnA n js) = [i1,i2]) (h : p → wpOp P l.toArray Q i1 (wpAny P .any l.toArray Q fuel (dnA n (i1 :: js))) a w) (h2 : p → wpOp P l.toArray Q i2 (wpAny P .any l.toArray Q fuel (dnA n (i2 :: js))) a w) : p → wpAny P .any l.toArray Q (fuel + 1) (dnA n js) a w:=anyI hr fun j hj=>by
  simp only [List.mem_cons,List.not_mem_nil,or_false] at hj
  rcases hj with hj | hj <;> subst hj
  · exact h
  · exact h2
theorem any3 (js : List Nat) (i1 i2 i3 : Nat) (hr : Region.ready .any l.toArray (dnA n js) = [i1,i2,i3]) (h : p → wpOp P l.toArray Q i1 (wpAny P .any l.toArray Q fuel (dnA n (i1 :: js))) a w) (h2 : p → wpOp P l.toArray Q i2 (wpAny P .any l.toArray Q fuel (dnA n (i2 :: js))) a w) (h3 : p → wpOp P l.toArray Q i3 (wpAny P .any l.toArray Q fuel (dnA n (i3 :: js))) a w) : p → wpAny P .any l.toArray Q (fuel + 1) (dnA n js) a w:=anyI hr fun j hj=>by
  simp only [List.mem_cons,List.not_mem_nil,or_false] at hj
  rcases hj with hj | hj | hj <;> subst hj
  · exact h
  · exact h2
  · exact h3
theorem anyL (hg : o.guard = none) (h : wpList P l.toArray (Exit.then K Q) [o] a w) : o.wp P a w K Q ∨ (o.asks P a w ∧ LetsOut Q):=by
  unfold wpList at h
  rw [if_pos (by simp [Region.wanted,hg])] at h
  rcases h with h | h
  · exact .inl h
  · exact .inr h
theorem anyO (ho : l[i]? = some o) (hg : o.guard = none) (h : p → wpList P l.toArray (Exit.then K Q) [o] a w) : p → wpOp P l.toArray Q i K a w:=fun S=>by
  have ho' : l.toArray[i]? = some o:=by simpa using ho
  unfold wpOp
  rw [ho']
  simp only
  rw [if_pos (by simp [Region.wanted,hg])]
  exact anyL hg (h S)
theorem anyN (h : p → K a w) : p → Exit.then K Q .normal a w:=h
end
end W
end Go.Proofs.YtnjbcjmkkejfpaaGreat
