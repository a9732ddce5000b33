import Derived.MapKept
import Derived.Laws.IdiomRangeMap
import Derived.Shelf.Strconv.Itoa3
import Derived.Test.YtnjbcjmkkejfpaaGreatDoorProg
import Derived.Lib.ItoaMem
import Derived.Test.YtnjbcjmkkejfpaaGreatDoorQDg
set_option linter.unusedVariables false
set_option linter.unusedSimpArgs false
set_option linter.unusedVariables false
set_option linter.unusedSimpArgs false
namespace Go.Proofs.YtnjbcjmkkejfpaaGreatDoor
open Go.RowKit (Below)
open Go.MapKept
def MPE (arr : Array MapEntry) (c : Nat) (es : List (Int × Int)) : Prop:=Stamped arr c ∧ (arr.toList.map fun e=>(e.key,e.val)).Perm (es.map fun p=>(Value.int .i64 p.1,Value.int .i64 p.2))
def MP (es : List (Int × Int)) : MT:=⟨fun v G=>∃ r arr c,v = .map (some r) ∧ G r = some (.map arr c) ∧ MPE arr c es,fun hle ⟨r,arr,c,h1,h2,h3⟩=>⟨r,arr,c,h1,hle _ _ h2,h3⟩⟩
instance {es : List (Int × Int)} : ShK (MP es) none:=⟨fun h=>by obtain ⟨r,arr,c,rfl,_⟩:=h;exact ⟨rfl,rfl⟩⟩
structure StX (r : Nat) (o : Obj) (W0 : World) (G0 : Gh) (N : Nat) (L : List (Nat × MT)) (B : List BX) (a : Act) (w : World) (G : Gh) : Prop where
  s : St W0 G0 N L B a w G
  h0 : W0.heap.size ≤ r
  hG : G r = none
  hB : ∀ x ∈ B,x.b ≠ r
  hm : w.heap[r]? = some o
section
variable {P : Program} {W0 : World} {G0 : Gh} {N : Nat} {L L' : List (Nat × MT)} {B B' : List BX} {a : Act} {w : World} {G : Gh} {r : Nat} {ob : Obj}
theorem St.touch (S : St W0 G0 N L B a w G) {w' : World} (h0 : W0.heap.size ≤ r) (hG : G r = none) (hB : ∀ x ∈ B,x.b ≠ r) (hos : w'.os = w.os ∧ w'.tape = w.tape ∧ w'.output = w.output) (hsz : w'.heap.size = w.heap.size) (hbl : ∀ k,k ≠ r → w'.heap[k]? = w.heap[k]?) : St W0 G0 N L B a w' G where
  nxt:=⟨⟨hos.1.trans S.nxt.below.os,hos.2.1.trans S.nxt.below.tape,hos.2.2.trans S.nxt.below.output,by rw [hsz];exact S.nxt.below.size,fun k hk=>(hbl k (by omega)).trans (S.nxt.below.block k hk)⟩,S.nxt.agree,S.nxt.le,fun b o hb=>(hbl b (fun e=>by rw [e,hG] at hb;cases hb)).trans (S.ok b o hb)⟩
  size:=S.size
  dfr:=S.dfr
  ty:=S.ty
  bx:=fun i x h=>by
    obtain ⟨h1,h2,u,hu,hs,ht⟩:=S.bx i x h
    exact ⟨h1,h2,u,(hbl _ (hB x (List.mem_of_getElem? h))).trans hu,hs,ht⟩
  nd:=S.nd
theorem StX.lt (S : StX r ob W0 G0 N L B a w G) : r < w.heap.size:=(Array.getElem?_eq_some_iff.1 S.hm).1
theorem StX.set (S : StX r ob W0 G0 N L B a w G) (o' : Obj) : StX r o' W0 G0 N L B a { w with heap:=w.heap.setIfInBounds r o' } G :=
  ⟨S.s.touch S.h0 S.hG S.hB ⟨rfl,rfl,rfl⟩ (by simp) fun k hk=>(heap_set S.hm).2 k hk,S.h0,S.hG,S.hB,(heap_set S.hm).1⟩
theorem StX.drew (S : StX r ob W0 G0 N L B a w G) : StX r ob W0 G0 N L B a w.drew G :=
  ⟨S.s.touch S.h0 S.hG S.hB ⟨rfl,rfl,rfl⟩ rfl fun k hk=>rfl,S.h0,S.hG,S.hB,S.hm⟩
theorem StX.put (S : StX r ob W0 G0 N L B a w G) {d : Nat} {v : Value} {w' : World} {G' : Gh} {τ : MT} (hd : d < N) (hf : fresh d L = true) (hv : τ.t v G') (hn : Nxt w G w' G') : StX r ob W0 G0 N ((d,τ) :: L) B (a.put (some d) v) w' G' :=
  ⟨S.s.put hd hf hv hn,S.h0,(hn.agree _ S.lt).trans S.hG,S.hB,(hn.below.block _ S.lt).trans S.hm⟩
theorem StX.fz (S : StX r ob W0 G0 N L B a w G) : ∃ G',G' r = some ob ∧ Gle G G' ∧ St W0 G0 N L B a w G':=by
  have hle : Gle G (Gput G r ob):=fun k o hk=>by
    unfold Gput;split
    · rename_i e;subst e;rw [S.hG] at hk;cases hk
    · exact hk
  refine ⟨Gput G r ob,by simp [Gput],hle,⟨S.s.nxt.below,fun b hb=>?_,S.s.nxt.le.trans hle,fun b o hb=>?_⟩,S.s.size,S.s.dfr,fun i p h=>p.2.mono hle (S.s.ty i p h),fun i x h=>?_,S.s.nd⟩
  · have h0:=S.h0
    rw [← S.s.nxt.agree b hb];unfold Gput;rw [if_neg (by omega)]
  · unfold Gput at hb;split at hb
    · rename_i e;subst e;cases hb;exact S.hm
    · exact S.s.ok b o hb
  · obtain ⟨h1,h2,u,hu,hs,ht⟩:=S.s.bx i x h
    refine ⟨h1,?_,u,hu,hs,x.τ.mono hle ht⟩
    unfold Gput;rw [if_neg (S.hB x (List.mem_of_getElem? h))];exact h2
theorem StX.weak (S : StX r ob W0 G0 N L B a w G) (h : ∀ p ∈ L',p ∈ L) : StX r ob W0 G0 N L' B a w G :=
  ⟨S.s.weak fun i p hi=>by obtain ⟨j,hj⟩:=List.mem_iff_getElem?.1 (h p (List.mem_of_getElem? hi));exact S.s.ty j p hj,S.h0,S.hG,S.hB,S.hm⟩
end
class ApM (l m : List MT) (r : outParam (List MT)) : Prop where
  h : l ++ m = r
instance ApM.nil {m : List MT} : ApM [] m m:=⟨rfl⟩
instance ApM.cons {x : MT} {l m r : List MT} [h : ApM l m r] : ApM (x :: l) m (x :: r):=⟨by rw [← h.h];rfl⟩
instance Op1.apc {P : Program} {L : List (Nat × MT)} {B : List BX} {x y : Operand} {u v : List Nat} {t e by0 : Nat} {τ : MT} {τs σs ρs : List MT} [el : ElS P t e none by0 (.slice none 0 0)] [hx : Opd L x (LSC none τs) u] [hy : Opd L y τ v] [ay : AsLS τ none σs] [ap : ApM τs σs ρs] : Op1 P L B (.call { callee:=.builtin .append,args:=#[x,y],argTypes:=#[t,t] }) (τs.length + σs.length ≤ LIM ∧ (τs.length + σs.length) * by0 ≤ 140737488355328) (LS none ρs) (u ++ v):=⟨fun ho hok e' _ hp=>by
  have h:=OpR.appSC hok ho el.h1 el.h2 ⟨rfl,rfl⟩ (hx.h e'.l) (ay.h (hy.h e'.r)) hp.1 hp.2
  rw [ap.h] at h;exact h⟩
namespace X
section
variable {P : Program} {L L' : List (Nat × MT)} {B B' : List BX} {x y : Operand} {u v : List Nat} {t ty : TypeId} {τ τ' : MT} {n c b i j d : Nat} {k : Option Nat}
variable {W0 : World} {G0 : Gh} {N : Nat} {a : Act} {w : World} {G : Gh} {Q : Exit → Act → World → Prop} {pre : Prop} {rest : List Oper} {arr : Array Oper} {pos : String} {aft : Array Edge} {r : Nat} {ob : Obj} {p : Prop}
theorem op {op : Op} [h : Op1 P L B op pre τ u] (hp : pre) (K : ∀ a w G, StX r ob W0 G0 N ((d, τ) :: L) B a w G → wpList P arr Q rest a w) (hdN : (decide (d < N)) = true := by rfl) (hf : fresh d L = true := by rfl) :
    StX r ob W0 G0 N L B a w G → wpList P arr Q (⟨some d,op,ty,pos,aft,none⟩ :: rest) a w:=fun S =>
  wpList_plain rfl fun K' hK=>h.ok rfl S.s.ok (S.s.env u) (S.s.bok u) hp Q K' fun v w' G' hv hn=>hK _ _ (K _ _ _ (S.put (of_decide_eq_true hdN) hf hv hn))
theorem asg [h : Opd L x τ u] (K : ∀ a w G, StX r ob W0 G0 N ((d, τ) :: L) B a w G → wpList P arr Q rest a w) (hdN : (decide (d < N)) = true := by rfl) (hf : fresh d L = true := by rfl) :
    StX r ob W0 G0 N L B a w G → wpList P arr Q (⟨some d,.assign x,ty,pos,aft,none⟩ :: rest) a w:=fun S =>
  wpList_plain rfl fun K' hK=>by
    unfold Oper.wp
    have hr : (execOp a.eval ⟨some d,.assign x,ty,pos,aft,none⟩).run P w = .ok (.value (a.eval x)) w:=by simp [execOp]
    rw [hr]
    exact hK _ _ (K _ _ _ (S.put (of_decide_eq_true hdN) hf (h.h (S.s.env u)) (Nxt.refl S.s.ok)))
theorem cb {e : Bool} {c c' : Code} [h : Lk L t (BT e)] (h1 : e = true → StX r ob W0 G0 N L B a w G → c.wp P Q a w) (h2 : e = false → StX r ob W0 G0 N L B a w G → c'.wp P Q a w) : StX r ob W0 G0 N L B a w G → (Code.cond (.tmp t) c c').wp P Q a w:=fun S=>S.s.cb (fun e=>h1 e S) (fun e=>h2 e S)
theorem ste [s : Sto P L B t x y j τ pre u] [hB : BAt B j τ B'] (hp : pre) (K : ∀ w,StX r ob W0 G0 N L B' a w G → wpList P arr Q rest a w) {ty' : TypeId} : StX r ob W0 G0 N L B a w G → wpList P arr Q (⟨none,.store t x y,ty',pos,aft,none⟩ :: rest) a w:=fun S =>
  wpList_plain rfl fun K' hK=>by
    obtain ⟨xb,h1,h2⟩:=s.h
    obtain ⟨x0,h3,h4⟩:=hB.h
    rw [h1] at h3;cases h3
    obtain ⟨_,_,v,hv,hs,ht⟩:=S.s.bx j _ h1
    obtain ⟨v1,h5,h6,h7⟩:=h2 hp (S.s.env u) hv hs ht
    have hne : xb.b ≠ r:=S.hB xb (List.mem_of_getElem? h1)
    refine h7 Q K' rfl rfl (hK _ _ (K _ ⟨h4 ▸ S.s.setVar j h1 h5 h6,S.h0,S.hG,fun y hy=>?_,?_⟩))
    · rw [h4] at hy
      obtain ⟨m,hm⟩:=List.mem_iff_getElem?.1 hy
      rw [List.getElem?_set] at hm
      split at hm
      · split at hm
        · cases hm;exact hne
        · cases hm
      · exact S.hB y (List.mem_of_getElem? hm)
    · rw [setRow_other _ _ _ _ hne];exact S.hm
theorem mk (K : ∀ r a w G, StX r (.map #[] 0) W0 G0 N ((d, .ex (.map (some r))) :: L) B a w G → wpList P arr Q rest a w) (hdN : (decide (d < N)) = true := by rfl) (hf : fresh d L = true := by rfl) :
    St W0 G0 N L B a w G → wpList P arr Q (⟨some d,.makeMap t none,ty,pos,aft,none⟩ :: rest) a w:=fun S =>
  wpList_plain rfl fun K' hK=>by
    unfold Oper.wp
    have hr : (execOp a.eval ⟨some d,.makeMap t none,ty,pos,aft,none⟩).run P w = .ok (.value (.map (some w.heap.size))) (w.alloc (.map #[] 0)):=by simp [execOp,Instr.makeMap,Result.andThen]
    rw [hr]
    have hn:=Nxt.alloc S.ok (.map #[] 0)
    refine hK _ _ (K w.heap.size _ _ _ ⟨S.put (of_decide_eq_true hdN) hf rfl hn,S.nxt.below.size,S.ok.none (Nat.le_refl _),fun x hx e=>?_,heap_alloc_new w _⟩)
    obtain ⟨m,hm⟩:=List.mem_iff_getElem?.1 hx
    have:=(S.bx m x hm).lt
    omega
class MapI (P : Program) (t : TypeId) : Prop where
  h : ∃ kt et,P.underlying t = some (.map kt et) ∧ P.underlying kt = some (.int .i64)
theorem fz {es : Array MapEntry} {cl : Nat} {q : Prop} (d : Nat) (ps : List (Int × Int)) [h : Lk L d (.ex (.map (some r)))] [rm : Rm L d L'] (he : MPE es cl ps) (K : ∀ G,St W0 G0 N ((d,MP ps) :: L') B a w G → q) : StX r (.map es cl) W0 G0 N L B a w G → q:=fun S=>by
  obtain ⟨G',h1,h2,S'⟩:=S.fz
  refine K G' (S'.weak fun i p hi=>?_)
  rcases List.mem_cons.1 (List.mem_of_getElem? hi) with e | e
  · subst e;exact ⟨r,es,cl,S'.mem h.m,h1,he⟩
  · exact S'.mem (rm.h p e)
end
section
variable {P : Program} {w : World}
end
section
variable {P : Program} {L L' : List (Nat × MT)} {B B' : List BX} {x y : Operand} {u v : List Nat} {t ty : TypeId} {τ τ' : MT} {n b i j d : Nat} {k : Option Nat}
variable {W0 : World} {G0 : Gh} {N : Nat} {a : Act} {w : World} {G : Gh} {Q : Exit → Act → World → Prop} {pre : Prop} {rest : List Oper} {arr : Array Oper} {pos : String} {aft : Array Edge} {r ib c : Nat} {es : Array MapEntry} {seen : Array Nat} {e : MapEntry}
abbrev ITP (ib : Nat) : MT:=.ex (.pointer (some ⟨ib,0,none⟩))
theorem range [mi : MapI P t] [h : Lk L d (.ex (.map (some r)))] {d' : Nat} (hG : G0 r = some (.map es c)) (K : ∀ ib a w G, StX ib (.mapIter (some r) c #[] c) W0 G0 N ((d', ITP ib) :: L) B a w G → wpList P arr Q rest a w) (hdN : (decide (d' < N)) = true := by rfl) (hf : fresh d' L = true := by rfl) :
    St W0 G0 N L B a w G → wpList P arr Q (⟨some d',.range t (.tmp d),ty,pos,aft,none⟩ :: rest) a w:=fun S =>
  wpList_plain rfl fun K' hK=>by
    unfold Oper.wp
    obtain ⟨kt,et,hm,hd⟩:=mi.h
    have hd' : a.eval (.tmp d) = .map (some r):=S.mem h.m
    have hr : (execOp a.eval ⟨some d',.range t (.tmp d),ty,pos,aft,none⟩).run P w = .ok (.value (.pointer (some ⟨w.heap.size,0,none⟩))) (w.alloc (.mapIter (some r) c #[] c)):=by
      have h1:=run_range_map (P:=P) w t kt et r es c hm (S.ok _ _ (S.nxt.le _ _ hG))
      simp only [execOp,hd']
      simp [h1,Result.andThen]
    rw [hr]
    have hn:=Nxt.alloc S.ok (.mapIter (some r) c #[] c)
    refine hK _ _ (K w.heap.size _ _ _ ⟨S.put (of_decide_eq_true hdN) hf rfl hn,S.nxt.below.size,S.ok.none (Nat.le_refl _),fun x hx e=>?_,heap_alloc_new w _⟩)
    obtain ⟨m,hm⟩:=List.mem_iff_getElem?.1 hx
    have:=(S.bx m x hm).lt
    omega
def Hd (ib r c : Nat) (W0 : World) (G0 : Gh) (N : Nat) (Lh : List (Nat × MT)) (Bh : Array Nat → List BX) (seen : Array Nat) (a : Act) (w : World) : Prop:=∃ G,StX ib (.mapIter (some r) c seen c) W0 G0 N Lh (Bh seen) a w G
theorem lp {cd : Code} (es : Array MapEntry) (Lh : List (Nat × MT)) (Bh : Array Nat → List BX) (hB : B = Bh #[]) (hL : ∀ p ∈ Lh, p ∈ L)
    (round : ∀ seen a w G,StX ib (.mapIter (some r) c seen c) W0 G0 N Lh (Bh seen) a w G → cd.wp P (Exit.then (fun a w=>∃ seen',(leftOf es seen').size < (leftOf es seen).size ∧ Hd ib r c W0 G0 N Lh Bh seen' a w) Q) a w) :
    StX ib (.mapIter (some r) c #[] c) W0 G0 N L B a w G → (Code.loop cd).wp P Q a w:=fun S =>
  wp_loopJ (fun μ a w=>∃ seen,μ = (leftOf es seen).size ∧ Hd ib r c W0 G0 N Lh Bh seen a w) (leftOf es #[]).size ⟨#[],rfl,G,hB ▸ S.weak hL⟩ fun μ a w ⟨seen,e,G,S⟩=>by
    subst e
    refine Code.wp_mono ?_ (round seen a w G S)
    intro e a w h
    cases e <;> first | exact h | skip
    obtain ⟨y,h1,h2⟩:=h
    exact ⟨_,h1,y,rfl,h2⟩
theorem ag {Lh : List (Nat × MT)} {Bh : Array Nat → List BX} (hB : B = Bh (seen.push e.born)) (he : e ∈ (leftOf es seen).toList) (hL : ∀ p ∈ Lh, p ∈ L) :
    StX ib (.mapIter (some r) c (seen.push e.born) c) W0 G0 N L B a w G → Exit.then (fun a w=>∃ seen',(leftOf es seen').size < (leftOf es seen).size ∧ Hd ib r c W0 G0 N Lh Bh seen' a w) Q .normal a w:=fun S =>
  ⟨_,left_shrinks es seen e he,G,hB ▸ S.weak hL⟩
theorem out {id : Nat} {ob : Obj} (K : St W0 G0 N L B a w G → (Code.exit id).wp P Q a w) : StX r ob W0 G0 N L B a w G → (Code.exit id).wp P Q a w:=fun S=>K S.s
instance Op1.ex1 [h : Opd L x (.ex (.tuple #[.bool false])) u] : Op1 P L B (.extract x 0) True (BT false) u:=⟨fun ho hok e' _ _=>.run hok (by simp [execOp,ho,show _ = _ from h.h e',Instr.extract]) rfl⟩
end
end X
end Go.Proofs.YtnjbcjmkkejfpaaGreatDoor
namespace Go.Proofs.YtnjbcjmkkejfpaaGreatDoor
open Go.Shelf
def laysItoa_ren : Go.Shelf.Ren:=⟨fun | 171=>151 | 243=>176 | 246=>197 | 283=>205 | 284=>206 | 285=>207 | 286=>208 | 129=>212 | 317=>211 | 318=>213 | 319=>214 | 320=>215 | 337=>216 | 338=>217 | n=>n,fun | 3=>3 | 9=>9 | 2=>2 | 4=>4 | 171=>218 | 0=>0 | 53=>169 | 37=>199 | 5=>5 | 173=>221 | 212=>228 | 51=>156 | 20=>20 | 213=>229 | 46=>170 | 232=>232 | 233=>233 | n=>n,fun | 17=>0 | 18=>2 | 19=>3 | n=>n⟩
theorem laysItoa : Go.Proofs.LaysM.n171 Tryz.prog laysItoa_ren:={
  mixed:=by kernel_rfl
  f129:=Tryz.func212.trans (congrArg some (by kernel_rfl))
  f171:=Tryz.func151.trans (congrArg some (by kernel_rfl))
  f243:=Tryz.func176.trans (congrArg some (by kernel_rfl))
  f246:=Tryz.func197.trans (congrArg some (by kernel_rfl))
  f283:=Tryz.func205.trans (congrArg some (by kernel_rfl))
  f284:=Tryz.func206.trans (congrArg some (by kernel_rfl))
  f285:=Tryz.func207.trans (congrArg some (by kernel_rfl))
  f286:=Tryz.func208.trans (congrArg some (by kernel_rfl))
  f317:=Tryz.func211.trans (congrArg some (by kernel_rfl))
  f318:=Tryz.func213.trans (congrArg some (by kernel_rfl))
  f319:=Tryz.func214.trans (congrArg some (by kernel_rfl))
  f320:=Tryz.func215.trans (congrArg some (by kernel_rfl))
  f337:=Tryz.func216.trans (congrArg some (by kernel_rfl))
  f338:=Tryz.func217.trans (congrArg some (by kernel_rfl))
  t0:=Tryz.underlying0
  a0:=Tryz.isAgg0
  z0:=Tryz.sizeOf0
  v0:=Tryz.zeroValue0
  t2:=Tryz.underlying2
  a2:=Tryz.isAgg2
  z2:=Tryz.sizeOf2
  v2:=Tryz.zeroValue2
  t3:=Tryz.underlying3
  a3:=Tryz.isAgg3
  z3:=Tryz.sizeOf3
  v3:=Tryz.zeroValue3
  t4:=Tryz.underlying4
  a4:=Tryz.isAgg4
  z4:=Tryz.sizeOf4
  v4:=Tryz.zeroValue4
  t5:=Tryz.underlying5
  a5:=Tryz.isAgg5
  z5:=Tryz.sizeOf5
  v5:=Tryz.zeroValue5
  t9:=Tryz.underlying9
  a9:=Tryz.isAgg9
  z9:=Tryz.sizeOf9
  v9:=Tryz.zeroValue9
  t20:=Tryz.underlying20
  a20:=Tryz.isAgg20
  z20:=Tryz.sizeOf20
  v20:=Tryz.zeroValue20
  t37:=Tryz.underlying199
  a37:=Tryz.isAgg199
  z37:=Tryz.sizeOf199
  v37:=Tryz.zeroValue199
  t46:=Tryz.underlying170
  a46:=Tryz.isAgg170
  z46:=Tryz.sizeOf170
  v46:=Tryz.zeroValue170
  t51:=Tryz.underlying156
  a51:=Tryz.isAgg156
  z51:=Tryz.sizeOf156
  v51:=Tryz.zeroValue156
  t53:=Tryz.underlying169
  a53:=Tryz.isAgg169
  z53:=Tryz.sizeOf169
  v53:=Tryz.zeroValue169
  t171:=Tryz.underlying218
  a171:=Tryz.isAgg218
  z171:=Tryz.sizeOf218
  v171:=Tryz.zeroValue218
  t173:=Tryz.underlying221
  a173:=Tryz.isAgg221
  z173:=Tryz.sizeOf221
  v173:=Tryz.zeroValue221
  t212:=Tryz.underlying228
  a212:=Tryz.isAgg228
  z212:=Tryz.sizeOf228
  v212:=Tryz.zeroValue228
  t213:=Tryz.underlying229
  a213:=Tryz.isAgg229
  z213:=Tryz.sizeOf229
  t232:=Tryz.underlying232
  a232:=Tryz.isAgg232
  z232:=Tryz.sizeOf232
  v232:=Tryz.zeroValue232
  t233:=Tryz.underlying233
  a233:=Tryz.isAgg233
  z233:=Tryz.sizeOf233
  v233:=Tryz.zeroValue233
  g17:=by kernel_rfl
  g18:=by kernel_rfl
  g19:=by kernel_rfl
  i0:=by kernel_rfl
  i2:=by kernel_rfl
  i3:=by kernel_rfl
  i4:=by kernel_rfl
  i5:=by kernel_rfl
  i9:=by kernel_rfl
  i20:=by kernel_rfl
  i37:=by kernel_rfl
  i46:=by kernel_rfl
  i51:=by kernel_rfl
  i53:=by kernel_rfl
  i171:=by kernel_rfl
  i173:=by kernel_rfl
  i212:=by kernel_rfl
  i232:=by kernel_rfl
  i233:=by kernel_rfl
  m17:=by kernel_rfl
  m18:=by kernel_rfl
  m19:=by kernel_rfl }
end Go.Proofs.YtnjbcjmkkejfpaaGreatDoor
set_option linter.unusedVariables false
set_option linter.unusedSimpArgs false
namespace Go.Proofs.YtnjbcjmkkejfpaaGreatDoor
open Go.RowKit (Below)
def tabC : Array Value:=(Lib.pow10Tab.map fun z=>Value.int .u64 z).toArray
def TAB (G : Gh) : Prop:=∃ t f,G (laysItoa_ren.g 17) = some (.cells tabC t f)
theorem TAB.mono {G G' : Gh} (h : Gle G G') : TAB G → TAB G':=fun ⟨t,f,e⟩=>⟨t,f,h _ _ e⟩
def TABT : MT:=⟨fun _ G=>TAB G,fun h k=>k.mono h⟩
theorem TAB.is {P : Program} {w : World} {G : Gh} {n : String} (hok : Gok w G) (h : TAB G) (hn : P.globalNamed n = some (laysItoa_ren.g 17)) : Lib.TabIs P w n .u64 Lib.pow10Tab:=by
  obtain ⟨t,f,e⟩:=h
  unfold Lib.TabIs World.var?
  rw [hn,Option.bind_some,hok _ _ e];rfl
theorem TAB.of {P : Program} {W : World} {n : String} (hn : P.globalNamed n = some (laysItoa_ren.g 17)) (h : Lib.TabIs P W n .u64 Lib.pow10Tab) {G : Gh} (hG : ∀ b,G b = W.heap[b]?) : TAB G:=by
  unfold Lib.TabIs World.var? at h
  rw [hn,Option.bind_some] at h
  split at h
  · rename_i cs t f e
    cases h
    exact ⟨t,f,(hG _).trans e⟩
  · cases h
class ConT (P : Program) (f : Nat) (τs : List MT) (pre : outParam Prop) (ρ : outParam MT) : Prop where
  h : ∀ {vs : List Value} {w : World} {G : Gh},Gok w G → TAB G → Args vs τs G → pre → Calls P f vs.toArray w (Ret w G ρ)
section
variable {P : Program} {f : Nat} {τ1 τ2 τ3 τ4 ρ : MT} {pre : Prop}
theorem ConT.o0 (h : ∀ {w : World} {G : Gh},Gok w G → TAB G → pre → Calls P f #[] w (Ret w G ρ)) : ConT P f [] pre ρ:=⟨fun {vs _ _} hok ht ha hp=>match vs,ha with | [],_=>h hok ht hp⟩
theorem ConT.o1 (h : ∀ {v1 : Value} {w : World} {G : Gh},Gok w G → TAB G → τ1.t v1 G → pre → Calls P f #[v1] w (Ret w G ρ)) : ConT P f [τ1] pre ρ:=⟨fun {vs _ _} hok ht ha hp=>match vs,ha with | [_],ha=>h hok ht ha.1 hp⟩
theorem ConT.o2 (h : ∀ {v1 v2 : Value} {w : World} {G : Gh},Gok w G → TAB G → τ1.t v1 G → τ2.t v2 G → pre → Calls P f #[v1,v2] w (Ret w G ρ)) : ConT P f [τ1,τ2] pre ρ:=⟨fun {vs _ _} hok ht ha hp=>match vs,ha with | [_,_],ha=>h hok ht ha.1 ha.2.1 hp⟩
theorem ConT.o3 (h : ∀ {v1 v2 v3 : Value} {w : World} {G : Gh},Gok w G → TAB G → τ1.t v1 G → τ2.t v2 G → τ3.t v3 G → pre → Calls P f #[v1,v2,v3] w (Ret w G ρ)) : ConT P f [τ1,τ2,τ3] pre ρ:=⟨fun {vs _ _} hok ht ha hp=>match vs,ha with | [_,_,_],ha=>h hok ht ha.1 ha.2.1 ha.2.2.1 hp⟩
section
variable {w : World} {G : Gh} {v1 v2 v3 v4 : Value}
theorem ConT.c1 (c : ConT P f [τ1] pre ρ) (hok : Gok w G) (ht : TAB G) (h1 : τ1.t v1 G) (hp : pre) : Calls P f #[v1] w (Ret w G ρ):=c.h (vs:=[v1]) hok ht ⟨h1,trivial⟩ hp
theorem ConT.c2 (c : ConT P f [τ1,τ2] pre ρ) (hok : Gok w G) (ht : TAB G) (h1 : τ1.t v1 G) (h2 : τ2.t v2 G) (hp : pre) : Calls P f #[v1,v2] w (Ret w G ρ):=c.h (vs:=[v1,v2]) hok ht ⟨h1,h2,trivial⟩ hp
theorem ConT.c3 (c : ConT P f [τ1,τ2,τ3] pre ρ) (hok : Gok w G) (ht : TAB G) (h1 : τ1.t v1 G) (h2 : τ2.t v2 G) (h3 : τ3.t v3 G) (hp : pre) : Calls P f #[v1,v2,v3] w (Ret w G ρ):=c.h (vs:=[v1,v2,v3]) hok ht ⟨h1,h2,h3,trivial⟩ hp
end
instance Op1.callT {L : List (Nat × MT)} {B : List BX} {xs : List Operand} {ats : Array TypeId} {τs : List MT} {u : List Nat} [h : OpdL L xs τs u] [l : Lk L 999999 TABT] [c : ConT P f τs pre ρ] [k : Cb P f] : Op1 P L B (.call { callee:=.value (.func f),args:=xs.toArray,argTypes:=ats }) pre ρ (999999 :: u) :=
  ⟨fun ho hok e _ hp=>.call ho k.h (by rw [List.map_toArray];exact c.h hok (e _ _ (.head _) l.m) (h.h fun t τ ht hm=>e t τ (.tail _ ht) hm) hp)⟩
end
section
variable {P : Program} {W0 : World} {G0 : Gh} {N : Nat} {L : List (Nat × MT)} {B : List BX} {a : Act} {w : World} {G : Gh}
theorem W.tab {X : Prop} (ht : TAB G) (h : St W0 G0 N ((999999,TABT) :: L) B a w G → X) : St W0 G0 N L B a w G → X:=fun S=>h ⟨S.nxt,S.size,S.dfr,fun i p hp=>match i,hp with | 0,hp=>by cases hp;exact ht | i + 1,hp=>S.ty i p hp,S.bx,S.nd⟩
end
abbrev TXT (l : List UInt8) : MT:=.ex (.string ⟨l.toArray⟩)
instance {s : ByteArray} : Shp (.ex (.string s)) none:=⟨fun {_ _} h=>by cases h;exact ⟨rfl,rfl⟩⟩
instance (priority:=850) Cv.txt {a b : List UInt8} : Cv (TXT a) (TXT b) (a = b):=⟨fun e _ _ h=>e ▸ h⟩
instance AsT.txt {a : List UInt8} : AsT (TXT a) TXT a:=⟨fun h=>h⟩
section
variable {P : Program} {L : List (Nat × MT)} {B : List BX} {x y : Operand} {u v : List Nat} {t t' : TypeId} {a b : List UInt8}
instance Op1.apcS {L : List (Nat × MT)} {B : List BX} {x y : Operand} {u v : List Nat} {t e by0 : Nat} {τ : MT} {τs σs ρs : List MT} [el : ElS P t e none by0 (.string ⟨#[]⟩)] [hx : Opd L x (LSC none τs) u] [hy : Opd L y τ v] [ay : AsLS τ none σs] [ap : ApM τs σs ρs] : Op1 P L B (.call { callee:=.builtin .append,args:=#[x,y],argTypes:=#[t,t] }) (τs.length + σs.length ≤ LIM ∧ (τs.length + σs.length) * by0 ≤ 140737488355328) (LS none ρs) (u ++ v):=⟨fun ho hok e' _ hp=>by
  have h:=OpR.appSC hok ho el.h1 el.h2 ⟨rfl,rfl⟩ (hx.h e'.l) (ay.h (hy.h e'.r)) hp.1 hp.2
  rw [ap.h] at h;exact h⟩
instance Op1.seql [h : Opd L x (TXT a) u] [k : Opd L y (TXT b) v] : Op1 P L B (.binOp .eql t x y t') True (BT (decide (a = b))) (u ++ v) :=
  ⟨fun ho hok e _ _=>.run hok (by simp only [execOp,ho,show _ = _ from h.h e.l,show _ = _ from k.h e.r];simp [eqGuard,binOp_string_eql];rfl) (by
    show _ = _
    simp [ByteArray.toList_eq]
    by_cases hab : a = b <;> simp [hab])⟩
instance Op1.sadd [h : Opd L x (TXT a) u] [k : Opd L y (TXT b) v] : Op1 P L B (.binOp .add t x y t') (a.length + b.length ≤ 1000000) (TXT (a ++ b)) (u ++ v) :=
  ⟨fun ho hok e _ hp=>.run hok (by simp only [execOp,ho,show _ = _ from h.h e.l,show _ = _ from k.h e.r];simp [eqGuard,binOp_string_add,Op.stringOp,ByteArray.size];rw [if_neg (by omega)]) (by
    show _ = _
    congr 1)⟩
end
end Go.Proofs.YtnjbcjmkkejfpaaGreatDoor
set_option linter.unusedVariables false
set_option linter.unusedSimpArgs false
set_option maxHeartbeats 4000000
set_option maxRecDepth 100000
set_option synthInstance.maxSize 100000
set_option synthInstance.maxHeartbeats 400000
namespace Go.Proofs.YtnjbcjmkkejfpaaGreatDoor
open Go.RowKit (Below)
attribute [local irreducible] Go.Code.wp Go.wpList Go.bodyPost
private theorem gS_ {W0 : World} {G0 : Gh} {N : Nat} {L : List (Nat × MT)} {B : List BX} {a : Act} {w : World} {G : Gh} {q : Prop} (h : St W0 G0 N L B a w G → q) : St W0 G0 N L B a w G → q:=h
private theorem gL_ {p : Prop} {P : Program} {arr : Array Oper} {Q : Exit → Act → World → Prop} {l : List Oper} {a : Act} {w : World} (h : p → wpList P arr Q l a w) : p → wpList P arr Q l a w:=h
private theorem gC_ {p : Prop} {P : Program} {c : Code} {Q : Exit → Act → World → Prop} {a : Act} {w : World} (h : p → c.wp P Q a w) : p → c.wp P Q a w:=h
private theorem mixedOrders : Tryz.prog.follows .mixedOrders = true:=by kernel_rfl
instance {n : Int} : ConT Tryz.prog 151 [IT n] (0 ≤ n ∧ n < 9223372036854775808) (TXT (Lib.itoa n)):=.o1 fun {v1 w G} hok ht h1 hp=>by
  obtain rfl : v1 = .int .i64 n:=h1
  refine Calls.mono (Any.strconv_Itoa laysItoa n (by omega) (by omega) w (ht.is hok laysItoa.m17)) ?_
  rintro e w' ⟨rfl,k,os,rfl⟩
  have hb : Below w.heap.size w (Sort.grow (w.drewN k) os):=⟨rfl,rfl,rfl,by simp [Sort.grow,World.drewN],fun i hi=>by simp [Sort.grow,World.drewN,Array.getElem?_append,hi]⟩
  exact ⟨_,G,rfl,rfl,hb,fun _ _=>rfl,Gle.refl _,fun b o hbo=>(hb.block b (hok.lt hbo)).trans (hok b o hbo)⟩
instance {n x : Nat} : Con Tryz.prog 150 [SN n x,.ex (.int .u32 1000000000)] (True) (MT.tup2 (SN n (x / 1000000000)) (.ex (.int .u32 ((x % 1000000000 : Nat) : Int)))):=.o2 fun hok h1 h2 hp=>short_ok hok h1 (d:=1000000000) h2 (by decide) (by decide)
def tX (x : Int) (j : Nat) : List (List UInt8):=if j = 0 then [] else [Lib.itoa x]
def tV (x : Int) (j : Nat) : Nat:=if j = 0 then x.natAbs else 0
theorem txt_len {x : Int} (h : 0 < x) : ¬ ((words x.natAbs).length : Int) = 0:=by
  have:=@len_pos_iff x.natAbs
  omega
theorem txt_b {x : Int} {j : Nat} (h : 0 < x ∧ x < 1000000000) : ¬ ((words (tV x j / 1000000000)).length : Int) > 0:=by
  have : tV x j / 1000000000 = 0:=by unfold tV;split <;> omega
  rw [this,words_zero];simp
theorem txt_w (n : Nat) : IntKind.i64.wrap ((n % 1000000000 : Nat) : Int) = ((n % 1000000000 : Nat) : Int):=by
  rw [IntKind.wrap_i64];omega
theorem txt_w0 (n : Nat) : 0 ≤ IntKind.i64.wrap ((n % 1000000000 : Nat) : Int):=by rw [txt_w];omega
theorem txt_w1 (n : Nat) : IntKind.i64.wrap ((n % 1000000000 : Nat) : Int) < 9223372036854775808:=by rw [txt_w];omega
theorem tX_len (x : Int) (j : Nat) : (tX x j).length ≤ 1:=by unfold tX;split <;> simp
theorem txt_j {x : Int} {j : Nat} (hc : ((words (tV x j)).length : Int) > 0) : j = 0:=by
  rcases Nat.eq_zero_or_pos j with h | h
  · exact h
  · rw [show tV x j = 0 by unfold tV;rw [if_neg (by omega)],words_zero] at hc;simp at hc
theorem txt_j1 {x : Int} {j : Nat} (h : 0 < x) (hc : ¬ ((words (tV x j)).length : Int) > 0) (hj : j ≤ 1) : j = 1:=by
  rcases Nat.eq_zero_or_pos j with e | e
  · subst e;exact absurd (show ((words x.natAbs).length : Int) > 0 by have:=@len_pos_iff x.natAbs;omega) hc
  · omega
theorem txt_nx {x : Int} {j : Nat} (h : 0 < x ∧ x < 1000000000) (hc : ((words (tV x j)).length : Int) > 0) : tV x j / 1000000000 = tV x (j + 1) ∧ Lib.itoa (IntKind.i64.wrap ((tV x j % 1000000000 : Nat) : Int)) :: tX x j = tX x (j + 1):=by
  obtain rfl:=txt_j hc
  rw [txt_w]
  have e : ((tV x 0 % 1000000000 : Nat) : Int) = x:=by unfold tV;rw [if_pos rfl];omega
  rw [e]
  exact ⟨by unfold tV;rw [if_pos rfl,if_neg (by omega)];omega,rfl⟩
theorem itoa_len {z : Int} (h : 0 < z) (h2 : z < 1000000000) : (Lib.itoa z).length ≤ 20:=by
  obtain ⟨u,rfl⟩ : ∃ u : Nat,z = u:=⟨z.toNat,by omega⟩
  rw [Lib.itoa_nonneg,Lib.decDigits_length]
  have:=Lib.numDigits_eq u (by omega) (by omega)
  split at this <;> omega
theorem cmpZ_one {z : Nat} : cmpZ (z : Int) 1 = 0 ↔ z = 1:=by
  unfold cmpZ
  by_cases h : z = 1
  · subst h;simp
  · constructor
    · intro e;split at e <;> (try split at e) <;> omega
    · intro e;exact absurd e h
instance {ls : List (List UInt8)} : Con Tryz.prog 153 [LS none (ls.map TXT),TXT []] (ls.length = 1) (TXT (ls.getD 0 default)):=.o2 fun hok h1 h2 hp=>by
  refine St.enter (N:=75) Tryz.func153 rfl rfl rfl hok (enter2 h1 h2) fun a=>?_
  repeat' (first|((with_reducible refine gS_ ?_);first|((with_reducible refine gL_ ?_);first|refine W.run ?_ fun a w G=>?_|refine W.mv fun a w G=>?_|refine W.asg fun a w G=>?_|refine W.bx fun b a w G=>?_|(refine W.nn hK ?_;clear hK K)|refine W.nl ?_|refine W.al fun b a w G=>?_|refine W.st fun w=>?_|refine W.stp fun w=>?_|refine W.ste ?_ fun w=>?_)|((with_reducible refine gC_ ?_);first|with_reducible refine W.cbt (by first|assumption|(simp [hp];done)|fail) ?_|with_reducible refine W.cbf (by first|assumption|(simp [hp];done)|fail) ?_|refine W.reg fun K hK=>?_|refine W.reg1 ?_|refine W.sq fun K hK=>?_|refine W.ds ?_ (fun β a w G hu=>W.fin ?_ hu) mixedOrders (by kernel_rfl)|refine W.sk ?_|refine W.cd (fun hc=>?_) (fun hc=>?_)|refine W.cb (fun hc=>?_) (fun hc=>?_)|refine W.bl ?_|refine W.ex ?_|refine W.rt ?_)|((with_reducible refine W.kn hK ?_);clear hK K)|(with_reducible first|refine W.bn ?_|refine W.xt ?_|refine W.xb ?_|refine W.xo ?_|refine W.tr ?_|refine W.br ?_)|refine W.rt1 rfl ?_|refine W.rt2 rfl ?_ ?_|refine W.rt3 rfl ?_ ?_ ?_)|clear hK K|clear hu|exact True.intro|exact Nat.le_trans (by clear hp;omega) hp|exact Nat.le_trans (by clear hp;omega) hp.1|exact Nat.le_trans (by clear hp;omega) hp.2|(clear hp;omega)|apply And.intro|refine GI.i fun _=>?_|with_reducible rfl|decide|(simp only [List.length_cons,List.length_nil];omega))
theorem w105 {n : Nat} {x : Int} : ConT Tryz.prog 105 [W n x] (0 < x ∧ x < 1000000000) (TXT (Lib.itoa x)):=.o1 fun hok ht h1 hp=>by
  refine St.enter (N:=44) Tryz.func105 rfl rfl rfl hok (enter1 h1) fun a=>?_
  refine W.tab ht ?_
  repeat' (first|((with_reducible refine gS_ ?_);first|((with_reducible refine gL_ ?_);first|refine W.run ?_ fun a w G=>?_|refine W.mv fun a w G=>?_|refine W.asg fun a w G=>?_|refine W.bx fun b a w G=>?_|(refine W.nn hK ?_;clear hK K)|refine W.nl ?_|refine W.al fun b a w G=>?_|refine W.st fun w=>?_|refine W.stp fun w=>?_|refine W.ste ?_ fun w=>?_)|((with_reducible refine gC_ ?_);first|with_reducible refine W.cbf (decide_eq_false (txt_len hp.1)) ?_|with_reducible refine W.cbf (decide_eq_false (txt_b hp)) ?_|with_reducible refine W.cbt (by first|assumption|(simp [];done)|fail) ?_|with_reducible refine W.cbf (by first|assumption|(simp [];done)|fail) ?_|refine W.reg fun K hK=>?_|refine W.reg1 ?_|refine W.sq fun K hK=>?_|refine W.ds ?_ (fun β a w G hu=>W.fin ?_ hu) mixedOrders (by kernel_rfl)|refine W.sk ?_|refine W.cd (fun hc=>?_) (fun hc=>?_)|refine W.cb (fun hc=>?_) (fun hc=>?_)|refine W.bl ?_|refine W.ex ?_|refine W.rt ?_)|((with_reducible refine W.kn hK ?_);clear hK K)|(with_reducible first|refine W.bn ?_|refine W.xt ?_|refine W.xb ?_|refine W.xo ?_|refine W.tr ?_|refine W.br ?_)|refine W.rt1 rfl ?_|refine W.rt2 rfl ?_ ?_|refine W.rt3 rfl ?_ ?_ ?_)|refine W.lp 13 (α:=Nat) (fun j=>1 - j) (fun j=>j ≤ 1) [3,4,5,6,13,14,15,16,17,18,19,20,21,22,23,24,25,26,27,28,29,30,31,32,33,34,35,36] (fun j=>[(3,SN n (tV x j)),(4,LS none ((tX x j).map TXT))]) (fun j=>[]) (0) ?_ ?_ ?_ fun j hj a w G=>?_|refine W.ag (x:=j) (j+1) ?_ ?_ ?_ ?_|clear hK K|clear hu|exact True.intro|exact Nat.le_trans (by clear hp;omega) hp|exact Nat.le_trans (by clear hp;omega) hp.1|exact Nat.le_trans (by clear hp;omega) hp.2|(clear hp;omega)|apply And.intro|refine GI.i fun _=>?_|with_reducible rfl|decide|(simp only [List.length_cons,List.length_nil];omega))
  all_goals have htl:=tX_len x
  all_goals first
    | exact txt_w0 _
    | exact txt_w1 _
    | exact (txt_nx hp (by assumption)).1
    | exact (txt_nx hp (by assumption)).2
    | exact (txt_nx hp (by assumption)).1.symm
    | exact (txt_nx hp (by assumption)).2.symm
    | rfl
    | (have:=htl ‹Nat›;simp [LIM] <;> omega)
    | (have:=txt_j (by assumption);omega)
    | (have:=txt_j1 hp.1 (by assumption) (by assumption);subst this;rfl)
    | skip
instance {n : Nat} {x : Int} {τ1 : MT} [j1 : NW τ1 (W n x)] : ConT Tryz.prog 105 [τ1] (0 < x ∧ x < 1000000000) (TXT (Lib.itoa x)):=.o1 fun hok ht h1 hp=>w105.c1 hok ht (j1.h h1) hp
theorem w55 {n : Nat} {x : Rat} : ConT Tryz.prog 55 [QV n x] (0 < x ∧ x.num < 1000000000 ∧ x.den < 1000000000 ∧ n ≤ BIG) (TXT (if x.den = 1 then Lib.itoa x.num else Lib.itoa x.num ++ 47 :: Lib.itoa x.den)):=.o1 fun hok ht h1 hp=>by
  refine St.enter (N:=22) Tryz.func55 rfl rfl rfl hok (enter1 h1) fun a=>?_
  refine W.tab ht ?_
  have hnum : 0 < x.num:=by have:=hp.1;rw [Rat.lt_iff] at this;simpa using this
  have hden : 0 < x.den:=x.den_pos
  repeat' (first|((with_reducible refine gS_ ?_);first|((with_reducible refine gL_ ?_);first|refine W.run ?_ fun a w G=>?_|refine W.mv fun a w G=>?_|refine W.asg fun a w G=>?_|refine W.bx fun b a w G=>?_|(refine W.nn hK ?_;clear hK K)|refine W.nl ?_|refine W.al fun b a w G=>?_|refine W.st fun w=>?_|refine W.stp fun w=>?_|refine W.ste ?_ fun w=>?_)|((with_reducible refine gC_ ?_);first|refine W.reg fun K hK=>?_|refine W.reg1 ?_|refine W.sq fun K hK=>?_|refine W.ds ?_ (fun β a w G hu=>W.fin ?_ hu) mixedOrders (by kernel_rfl)|refine W.sk ?_|refine W.cd (fun hc=>?_) (fun hc=>?_)|refine W.cb (fun hc=>?_) (fun hc=>?_)|refine W.bl ?_|refine W.ex ?_|refine W.rt ?_)|((with_reducible refine W.kn hK ?_);clear hK K)|(with_reducible first|refine W.bn ?_|refine W.xt ?_|refine W.xb ?_|refine W.xo ?_|refine W.tr ?_|refine W.br ?_)|refine W.rt1 rfl ?_|refine W.rt2 rfl ?_ ?_|refine W.rt3 rfl ?_ ?_ ?_)|clear hK K|clear hu|exact True.intro|exact Nat.le_trans (by clear hp;omega) hp|exact Nat.le_trans (by clear hp;omega) hp.1|exact Nat.le_trans (by clear hp;omega) hp.2|(clear hp;omega)|apply And.intro|refine GI.i fun _=>?_|with_reducible rfl|decide|(simp only [List.length_cons,List.length_nil];omega))
  all_goals first
    | with_reducible exact hp.2.2.2
    | with_reducible exact hnum
    | with_reducible exact hp.2.1
    | omega
    | (rw [if_pos (cmpZ_one.1 hc)];done)
    | (rw [if_neg fun e=>hc (cmpZ_one.2 e)];simp;done)
    | (have h1_:=itoa_len hnum hp.2.1;have h2_:=itoa_len (z:=(x.den : Int)) (by omega) (by omega);simp only [List.length_append,List.length_cons,List.length_nil];omega)
    | skip
instance {n : Nat} {x : Rat} {τ1 : MT} [j1 : NQ τ1 (QV n x)] : ConT Tryz.prog 55 [τ1] (0 < x ∧ x.num < 1000000000 ∧ x.den < 1000000000 ∧ n ≤ BIG) (TXT (if x.den = 1 then Lib.itoa x.num else Lib.itoa x.num ++ 47 :: Lib.itoa x.den)):=.o1 fun hok ht h1 hp=>w55.c1 hok ht (j1.h h1) hp
end Go.Proofs.YtnjbcjmkkejfpaaGreatDoor
namespace Go.Proofs.YtnjbcjmkkejfpaaGreatDoor
theorem sq_nn (z : Rat) : 0 ≤ z * z:=by
  rcases (Rat.le_total : 0 ≤ z ∨ z ≤ 0) with h | h
  · exact Rat.mul_nonneg h h
  · have:=Rat.mul_nonneg (show 0 ≤ -z by grind) (show 0 ≤ -z by grind);grind
theorem num_sg (x : Rat) : (x.num.sign = 1 ↔ 0 < x) ∧ (x.num.sign = 0 ↔ x = 0) ∧ (x.num.sign < 0 ↔ x < 0):=by
  have h1:=@rat_pos_iff x;have h2:=@Rat.num_eq_zero x;have h3:=sgn_cases x.num
  refine ⟨by rw [h1];omega,by rw [← h2];omega,?_⟩
  constructor
  · intro h;have : ¬ 0 < x:=fun k=>by have:=h1.1 k;omega
    have : x ≠ 0:=fun e=>by have:=h2.2 e;omega
    grind
  · intro h;have : ¬ 0 < x.num:=fun k=>by have:=h1.2 k;grind
    have : x.num ≠ 0:=fun e=>by have:=h2.1 e;grind
    omega
end Go.Proofs.YtnjbcjmkkejfpaaGreatDoor
set_option linter.unusedVariables false
set_option linter.unusedSimpArgs false
set_option maxHeartbeats 4000000
set_option maxRecDepth 100000
set_option synthInstance.maxSize 100000
set_option synthInstance.maxHeartbeats 400000
namespace Go.Proofs.YtnjbcjmkkejfpaaGreatDoor
open Go.RowKit (Below)
attribute [local irreducible] Go.Code.wp Go.wpList Go.bodyPost
attribute [local irreducible] barC trnC btC ciF enR enL cirs exC ofC ofI boC boI boK dirC dirS cirF
def w2F (g a : FR) (h : Bool) (t : Rat) : Rat:=d2F (wayX g.val a.val h t) (wayY a.val h t)
def ouE (g a b c : FR) (h : Bool) (t : Rat) : Int:=if w2F g a h t = 0 ∧ b.val = c.val then 15 else if dsc g a b c h t < 0 then 16 else 0
def ouK (g a b c : FR) (h : Bool) (t : Rat) : Rat:=(w2F g a h t + b.val - c.val) / (2 * w2F g a h t)
def ouX (g a b c : FR) (h : Bool) (t : Rat) : Rat:=a.val * dirC h t + ouK g a b c h t * wayX g.val a.val h t
def ouY (g a b c : FR) (h : Bool) (t : Rat) : Rat:=a.val * dirS h t + ouK g a b c h t * wayY a.val h t
def ouMX (g a : FR) (h : Bool) (t : Rat) : Rat:=-(1 / (2 * w2F g a h t) * wayY a.val h t)
def ouMY (g a : FR) (h : Bool) (t : Rat) : Rat:=1 / (2 * w2F g a h t) * wayX g.val a.val h t
def ouR (g a b c : FR) (h : Bool) (t : Rat) : List (List Rat):=if ouE g a b c h t = 0 ∧ dsc g a b c h t ≠ 0 then [[dsc g a b c h t]] else []
def ouL (g a b c : FR) (h : Bool) (t : Rat) : List (Int × List Rat × List Rat) :=
  if ouE g a b c h t = 0 then (if dsc g a b c h t = 0 then [(0,[ouX g a b c h t],[ouY g a b c h t])] else
    [(1,[ouX g a b c h t,ouMX g a h t],[ouY g a b c h t,ouMY g a h t]),(-1,[ouX g a b c h t,-ouMX g a h t],[ouY g a b c h t,-ouMY g a h t])]) else []
theorem sg0 {x : Rat} : x.num.sign = 0 ↔ x = 0:=(num_sg x).2.1
section
variable {g a b c : FR} {h : Bool} {t : Rat}
theorem ou_15 (hc : (decide ((d2F (wayX g.val a.val h t) (wayY a.val h t)).num.sign = 0) && decide (cmpQ b.val c.val = 0)) = true) : ouE g a b c h t = 15:=by
  simp only [Bool.and_eq_true,decide_eq_true_eq] at hc
  unfold ouE w2F
  rw [if_pos ⟨sg0.1 hc.1,cmpQ_eq0.1 hc.2⟩]
theorem ou_n (hc : (decide ((d2F (wayX g.val a.val h t) (wayY a.val h t)).num.sign = 0) && decide (cmpQ b.val c.val = 0)) = false) : ¬ (w2F g a h t = 0 ∧ b.val = c.val):=fun e=>by
  rw [show (decide ((d2F (wayX g.val a.val h t) (wayY a.val h t)).num.sign = 0) && decide (cmpQ b.val c.val = 0)) = true by simp only [Bool.and_eq_true,decide_eq_true_eq];exact ⟨sg0.2 e.1,cmpQ_eq0.2 e.2⟩] at hc
  cases hc
theorem ou_16 (h1 : ¬ (w2F g a h t = 0 ∧ b.val = c.val)) (h2 : (dsc g a b c h t).num.sign < 0) : ouE g a b c h t = 16:=by
  unfold ouE;rw [if_neg h1,if_pos ((num_sg _).2.2.1 h2)]
theorem ou_0 (h1 : ¬ (w2F g a h t = 0 ∧ b.val = c.val)) (h2 : ¬ (dsc g a b c h t).num.sign < 0) : ouE g a b c h t = 0:=by
  unfold ouE;rw [if_neg h1,if_neg fun e=>h2 ((num_sg _).2.2.2 e)]
theorem ou_ne (h1 : ¬ (w2F g a h t = 0 ∧ b.val = c.val)) (h2 : ¬ (dsc g a b c h t).num.sign < 0) : w2F g a h t ≠ 0:=fun e=>by
  refine h2 ((num_sg _).2.2.2 ?_)
  unfold dsc
  rw [show d2F (wayX g.val a.val h t) (wayY a.val h t) = 0 from e]
  unfold discF
  have hne : b.val - c.val ≠ 0:=fun e2=>h1 ⟨e,by grind⟩
  have hpos : 0 < (b.val - c.val) * (b.val - c.val):=by
    rcases (Rat.le_total : 0 ≤ b.val - c.val ∨ b.val - c.val ≤ 0) with h | h
    · have hp : 0 < b.val - c.val:=by grind
      exact Rat.mul_pos hp hp
    · have hp : 0 < -(b.val - c.val):=by grind
      have:=Rat.mul_pos hp hp
      grind
  grind
theorem ou_s (h1 : ¬ (w2F g a h t = 0 ∧ b.val = c.val)) (h2 : ¬ (dsc g a b c h t).num.sign < 0) (h3 : (dsc g a b c h t).num.sign = 0) : ouR g a b c h t = [] ∧ ouL g a b c h t = [(0,[ouX g a b c h t],[ouY g a b c h t])]:=by
  have e:=ou_0 h1 h2;have e2:=sg0.1 h3
  unfold ouR ouL;rw [if_neg fun k=>k.2 e2,if_pos e,if_pos e2];exact ⟨rfl,rfl⟩
theorem ou_t (h1 : ¬ (w2F g a h t = 0 ∧ b.val = c.val)) (h2 : ¬ (dsc g a b c h t).num.sign < 0) (h3 : ¬ (dsc g a b c h t).num.sign = 0) : ouR g a b c h t = [[dsc g a b c h t]] ∧ ouL g a b c h t =
    [(1,[ouX g a b c h t,ouMX g a h t],[ouY g a b c h t,ouMY g a h t]),(-1,[ouX g a b c h t,-ouMX g a h t],[ouY g a b c h t,-ouMY g a h t])]:=by
  have e:=ou_0 h1 h2;have e2:=fun k=>h3 (sg0.2 k)
  unfold ouR ouL;rw [if_pos ⟨e,e2⟩,if_pos e,if_neg e2];exact ⟨rfl,rfl⟩
theorem two_ne {x : Rat} (h : x ≠ 0) : 2 * x ≠ 0:=fun e=>h (by grind)
theorem ou_e {e : Int} (h0 : ouE g a b c h t = e) (he : e ≠ 0) : ouR g a b c h t = [] ∧ ouL g a b c h t = []:=by
  unfold ouR ouL;rw [if_neg (by rw [h0];exact fun e=>he e.1),if_neg (by rw [h0];exact he)];exact ⟨rfl,rfl⟩
end
def okV (c : Int) (x : Rat) : Rat:=if c = 0 then x else 0
theorem okV_0 {c : Int} {x : Rat} (h : c = 0) : okV c x = x:=if_pos h
theorem okV_n {c : Int} {x : Rat} (h : ¬ c = 0) : okV c x = 0:=if_neg h
theorem bt_00 {l : List FR} {h : Bool} {t : FR} (e : btC l h t = 0) : barC l = 0 ∧ trnF h t = true:=by
  unfold btC at e
  split at e
  · rename_i hb
    refine ⟨hb,?_⟩
    unfold trnC at e
    split at e
    · assumption
    · cases e
  · cases e
def oaE (g a b c : FR) (h : Bool) (t : FR) : Int:=if btC [g,a,b,c] h t = 0 then ouE g a b c h t.val else btC [g,a,b,c] h t
def oaR (g a b c : FR) (h : Bool) (t : FR) : List (List Rat):=if btC [g,a,b,c] h t = 0 then ouR g a b c h t.val else []
def oaL (g a b c : FR) (h : Bool) (t : FR) : List (Int × List Rat × List Rat):=if btC [g,a,b,c] h t = 0 then ouL g a b c h t.val else []
theorem atPM {n m : Nat} {rg ra rb rc t : FR} {h : Bool} : Con Tryz.prog 13 [QUD n rg ra rb rc,TRN m t h] (10000 * n + 10000 * m + 100000 ≤ BIG ∧ barC [rg,ra,rb,rc] = 0 ∧ trnF h t = true) (MT.tup3 (TWR (100 * n + 200 * m + 10000) (ouR rg ra rb rc h t.val)) (LS (some 3) ((ouL rg ra rb rc h t.val).map (BPT (100 * n + 200 * m + 10000)))) (.ex (errV 67 (ouE rg ra rb rc h t.val)))):=.o2 fun hok h1 h2 hp=>by
  refine St.enter (N:=146) Tryz.func13 rfl rfl rfl hok (enter2 h1 h2) fun a=>?_
  have hb:=hp.2.1
  have ht:=trn_0 hp.2.2
  have hbt:=bt_0 hp.2.1 hp.2.2
  repeat' (first|((with_reducible refine gS_ ?_);first|((with_reducible refine gL_ ?_);first|refine W.run ?_ fun a w G=>?_|refine W.mv fun a w G=>?_|refine W.asg fun a w G=>?_|refine W.bx fun b a w G=>?_|(refine W.nn hK ?_;clear hK K)|refine W.nl ?_|refine W.al fun b a w G=>?_|refine W.st fun w=>?_|refine W.stp fun w=>?_|refine W.ste ?_ fun w=>?_)|((with_reducible refine gC_ ?_);first|refine W.reg fun K hK=>?_|refine W.reg1 ?_|refine W.sq fun K hK=>?_|refine W.ds ?_ (fun β a w G hu=>W.fin ?_ hu) mixedOrders (by kernel_rfl)|refine W.sk ?_|refine W.cd (fun hc=>?_) (fun hc=>?_)|refine W.cb (fun hc=>?_) (fun hc=>?_)|refine W.bl ?_|refine W.ex ?_|refine W.rt ?_)|((with_reducible refine W.kn hK ?_);clear hK K)|(with_reducible first|refine W.bn ?_|refine W.xt ?_|refine W.xb ?_|refine W.xo ?_|refine W.tr ?_|refine W.br ?_)|refine W.rt1 rfl ?_|refine W.rt2 rfl ?_ ?_|refine W.rt3 rfl ?_ ?_ ?_)|clear hK K|clear hu|exact True.intro|exact Nat.le_trans (by clear hp;omega) hp|exact Nat.le_trans (by clear hp;omega) hp.1|exact Nat.le_trans (by clear hp;omega) hp.2|(clear hp;omega)|apply And.intro|refine GI.i fun _=>?_|with_reducible rfl|decide|(simp only [List.length_cons,List.length_nil];omega))
  all_goals first
    | (exfalso;omega)
    | assumption
    | exact hp.2.2
    | exact hp.2.1
    | exact (ou_15 hc).symm
    | exact (ou_e (ou_15 hc) (by decide)).1.symm
    | exact (ou_e (ou_15 hc) (by decide)).2
    | (have hn := ou_n (by assumption)
       first
       | exact (ou_16 hn hc).symm
       | exact (ou_e (ou_16 hn hc) (by decide)).1.symm
       | exact (ou_e (ou_16 hn hc) (by decide)).2
       | exact two_ne (ou_ne hn hc)
       | (have hd : ¬ (dsc rg ra rb rc h t.val).num.sign < 0 := by assumption
          first
          | exact ou_0 hn hd
          | exact (ou_0 hn hd).symm
          | exact (ou_s hn hd (by assumption)).1.symm
          | exact (ou_s hn hd (by assumption)).2.symm
          | exact (ou_t hn hd (by assumption)).1.symm
          | exact (ou_t hn hd (by assumption)).2.symm)
       | exact two_ne (ou_ne hn (by assumption))
       | skip)
    | skip
theorem bad21 {n m : Nat} {rg ra rb rc t : FR} {h : Bool} : Con Tryz.prog 21 [QUD n rg ra rb rc,TRN m t h] (10000 * n + 10000 * m + 100000 ≤ BIG ∧ ¬ btC [rg,ra,rb,rc] h t = 0) (MT.tup2 (PLQ (n + 4 * m + 130) (okV (btC [rg,ra,rb,rc] h t) (ra.val * dirC h t.val)) (okV (btC [rg,ra,rb,rc] h t) (ra.val * dirS h t.val))) (.ex (errV 67 (btC [rg,ra,rb,rc] h t)))):=.o2 fun hok h1 h2 hp=>by
  refine St.enter (N:=36) Tryz.func21 rfl rfl rfl hok (enter2 h1 h2) fun a=>?_
  have hz:=hp.2
  repeat' (first|((with_reducible refine gS_ ?_);first|((with_reducible refine gL_ ?_);first|refine W.run ?_ fun a w G=>?_|refine W.mv fun a w G=>?_|refine W.asg fun a w G=>?_|refine W.bx fun b a w G=>?_|(refine W.nn hK ?_;clear hK K)|refine W.nl ?_|refine W.al fun b a w G=>?_|refine W.st fun w=>?_|refine W.stp fun w=>?_|refine W.ste ?_ fun w=>?_)|((with_reducible refine gC_ ?_);first|with_reducible refine W.cbt (by first|assumption|(simp [hz];done)|fail) ?_|with_reducible refine W.cbf (by first|assumption|(simp [hz];done)|fail) ?_|refine W.reg fun K hK=>?_|refine W.reg1 ?_|refine W.sq fun K hK=>?_|refine W.ds ?_ (fun β a w G hu=>W.fin ?_ hu) mixedOrders (by kernel_rfl)|refine W.sk ?_|refine W.cd (fun hc=>?_) (fun hc=>?_)|refine W.cb (fun hc=>?_) (fun hc=>?_)|refine W.bl ?_|refine W.ex ?_|refine W.rt ?_)|((with_reducible refine W.kn hK ?_);clear hK K)|(with_reducible first|refine W.bn ?_|refine W.xt ?_|refine W.xb ?_|refine W.xo ?_|refine W.tr ?_|refine W.br ?_)|refine W.rt1 rfl ?_|refine W.rt2 rfl ?_ ?_|refine W.rt3 rfl ?_ ?_ ?_)|clear hK K|clear hu|exact True.intro|exact Nat.le_trans (by clear hp;omega) hp|exact Nat.le_trans (by clear hp;omega) hp.1|exact Nat.le_trans (by clear hp;omega) hp.2|(clear hp;omega)|apply And.intro|refine GI.i fun _=>?_|with_reducible rfl|decide|(simp only [List.length_cons,List.length_nil];omega))
  all_goals first
    | omega
    | exact hp.1
    | exact okV_n hp.2
    | exact (okV_n hp.2).symm
    | exact (if_neg hp.2).symm
    | exact if_neg hp.2
    | rfl
    | skip
instance (priority:=2000) {n m : Nat} {rg ra rb rc t : FR} {h : Bool} {τ1 τ2 : MT} [j1 : NF τ1 (QUD n rg ra rb rc)] [j2 : NF τ2 (TRN m t h)] : Con Tryz.prog 21 [τ1,τ2] (10000 * n + 10000 * m + 100000 ≤ BIG) (MT.tup2 (PLQ (n + 4 * m + 130) (okV (btC [rg,ra,rb,rc] h t) (ra.val * dirC h t.val)) (okV (btC [rg,ra,rb,rc] h t) (ra.val * dirS h t.val))) (.ex (errV 67 (btC [rg,ra,rb,rc] h t)))):=.o2 fun hok h1 h2 hp=>by
  by_cases e : btC [rg,ra,rb,rc] h t = 0
  · simp only [oaE,oaR,oaL,okV,e,if_true,ite_true]
    exact w21.c2 hok (j1.h h1) (j2.h h2) ⟨hp,bt_00 e⟩
  · exact bad21.c2 hok (j1.h h1) (j2.h h2) ⟨hp,e⟩
theorem bad56 {n m : Nat} {rg ra rb rc t : FR} {h : Bool} : Con Tryz.prog 56 [QUD n rg ra rb rc,TRN m t h] (10000 * n + 10000 * m + 100000 ≤ BIG ∧ ¬ btC [rg,ra,rb,rc] h t = 0) (MT.tup2 (PTS [(some 6,PLQ (n + 4 * m + 130) (okV (btC [rg,ra,rb,rc] h t) (ra.val * dirC h t.val)) (okV (btC [rg,ra,rb,rc] h t) (ra.val * dirS h t.val))),(some 6,PLQ (2 * n + 4 * m + 131) (okV (btC [rg,ra,rb,rc] h t) (wayX rg.val ra.val h t.val)) (okV (btC [rg,ra,rb,rc] h t) (wayY ra.val h t.val))),(some 3,QC (8 * n + 16 * m + 525) (okV (btC [rg,ra,rb,rc] h t) (d2F (wayX rg.val ra.val h t.val) (wayY ra.val h t.val))))]) (.ex (errV 67 (btC [rg,ra,rb,rc] h t)))):=.o2 fun hok h1 h2 hp=>by
  refine St.enter (N:=38) Tryz.func56 rfl rfl rfl hok (enter2 h1 h2) fun a=>?_
  have hz:=hp.2
  repeat' (first|((with_reducible refine gS_ ?_);first|((with_reducible refine gL_ ?_);first|refine W.run ?_ fun a w G=>?_|refine W.mv fun a w G=>?_|refine W.asg fun a w G=>?_|refine W.bx fun b a w G=>?_|(refine W.nn hK ?_;clear hK K)|refine W.nl ?_|refine W.al fun b a w G=>?_|refine W.st fun w=>?_|refine W.stp fun w=>?_|refine W.ste ?_ fun w=>?_)|((with_reducible refine gC_ ?_);first|with_reducible refine W.cbt (by first|assumption|(simp [hz];done)|fail) ?_|with_reducible refine W.cbf (by first|assumption|(simp [hz];done)|fail) ?_|refine W.reg fun K hK=>?_|refine W.reg1 ?_|refine W.sq fun K hK=>?_|refine W.ds ?_ (fun β a w G hu=>W.fin ?_ hu) mixedOrders (by kernel_rfl)|refine W.sk ?_|refine W.cd (fun hc=>?_) (fun hc=>?_)|refine W.cb (fun hc=>?_) (fun hc=>?_)|refine W.bl ?_|refine W.ex ?_|refine W.rt ?_)|((with_reducible refine W.kn hK ?_);clear hK K)|(with_reducible first|refine W.bn ?_|refine W.xt ?_|refine W.xb ?_|refine W.xo ?_|refine W.tr ?_|refine W.br ?_)|refine W.rt1 rfl ?_|refine W.rt2 rfl ?_ ?_|refine W.rt3 rfl ?_ ?_ ?_)|clear hK K|clear hu|exact True.intro|exact Nat.le_trans (by clear hp;omega) hp|exact Nat.le_trans (by clear hp;omega) hp.1|exact Nat.le_trans (by clear hp;omega) hp.2|(clear hp;omega)|apply And.intro|refine GI.i fun _=>?_|with_reducible rfl|decide|(simp only [List.length_cons,List.length_nil];omega))
  all_goals first
    | omega
    | exact hp.1
    | exact okV_n hp.2
    | exact (okV_n hp.2).symm
    | exact (if_neg hp.2).symm
    | exact if_neg hp.2
    | rfl
    | skip
instance (priority:=2000) {n m : Nat} {rg ra rb rc t : FR} {h : Bool} {τ1 τ2 : MT} [j1 : NF τ1 (QUD n rg ra rb rc)] [j2 : NF τ2 (TRN m t h)] : Con Tryz.prog 56 [τ1,τ2] (10000 * n + 10000 * m + 100000 ≤ BIG) (MT.tup2 (PTS [(some 6,PLQ (n + 4 * m + 130) (okV (btC [rg,ra,rb,rc] h t) (ra.val * dirC h t.val)) (okV (btC [rg,ra,rb,rc] h t) (ra.val * dirS h t.val))),(some 6,PLQ (2 * n + 4 * m + 131) (okV (btC [rg,ra,rb,rc] h t) (wayX rg.val ra.val h t.val)) (okV (btC [rg,ra,rb,rc] h t) (wayY ra.val h t.val))),(some 3,QC (8 * n + 16 * m + 525) (okV (btC [rg,ra,rb,rc] h t) (d2F (wayX rg.val ra.val h t.val) (wayY ra.val h t.val))))]) (.ex (errV 67 (btC [rg,ra,rb,rc] h t)))):=.o2 fun hok h1 h2 hp=>by
  by_cases e : btC [rg,ra,rb,rc] h t = 0
  · simp only [oaE,oaR,oaL,okV,e,if_true,ite_true]
    exact w56.c2 hok (j1.h h1) (j2.h h2) ⟨hp,bt_00 e⟩
  · exact bad56.c2 hok (j1.h h1) (j2.h h2) ⟨hp,e⟩
theorem bad22 {n m : Nat} {rg ra rb rc t : FR} {h : Bool} : Con Tryz.prog 22 [QUD n rg ra rb rc,TRN m t h] (10000 * n + 10000 * m + 100000 ≤ BIG ∧ ¬ btC [rg,ra,rb,rc] h t = 0) (MT.tup2 (QC (22 * n + 32 * m + 1119) (okV (btC [rg,ra,rb,rc] h t) (dsc rg ra rb rc h t.val))) (.ex (errV 67 (btC [rg,ra,rb,rc] h t)))):=.o2 fun hok h1 h2 hp=>by
  refine St.enter (N:=22) Tryz.func22 rfl rfl rfl hok (enter2 h1 h2) fun a=>?_
  have hz:=hp.2
  repeat' (first|((with_reducible refine gS_ ?_);first|((with_reducible refine gL_ ?_);first|refine W.run ?_ fun a w G=>?_|refine W.mv fun a w G=>?_|refine W.asg fun a w G=>?_|refine W.bx fun b a w G=>?_|(refine W.nn hK ?_;clear hK K)|refine W.nl ?_|refine W.al fun b a w G=>?_|refine W.st fun w=>?_|refine W.stp fun w=>?_|refine W.ste ?_ fun w=>?_)|((with_reducible refine gC_ ?_);first|with_reducible refine W.cbt (by first|assumption|(simp [hz];done)|fail) ?_|with_reducible refine W.cbf (by first|assumption|(simp [hz];done)|fail) ?_|refine W.reg fun K hK=>?_|refine W.reg1 ?_|refine W.sq fun K hK=>?_|refine W.ds ?_ (fun β a w G hu=>W.fin ?_ hu) mixedOrders (by kernel_rfl)|refine W.sk ?_|refine W.cd (fun hc=>?_) (fun hc=>?_)|refine W.cb (fun hc=>?_) (fun hc=>?_)|refine W.bl ?_|refine W.ex ?_|refine W.rt ?_)|((with_reducible refine W.kn hK ?_);clear hK K)|(with_reducible first|refine W.bn ?_|refine W.xt ?_|refine W.xb ?_|refine W.xo ?_|refine W.tr ?_|refine W.br ?_)|refine W.rt1 rfl ?_|refine W.rt2 rfl ?_ ?_|refine W.rt3 rfl ?_ ?_ ?_)|clear hK K|clear hu|exact True.intro|exact Nat.le_trans (by clear hp;omega) hp|exact Nat.le_trans (by clear hp;omega) hp.1|exact Nat.le_trans (by clear hp;omega) hp.2|(clear hp;omega)|apply And.intro|refine GI.i fun _=>?_|with_reducible rfl|decide|(simp only [List.length_cons,List.length_nil];omega))
  all_goals first
    | omega
    | exact hp.1
    | exact okV_n hp.2
    | exact (okV_n hp.2).symm
    | exact (if_neg hp.2).symm
    | exact if_neg hp.2
    | rfl
    | skip
instance (priority:=2000) {n m : Nat} {rg ra rb rc t : FR} {h : Bool} {τ1 τ2 : MT} [j1 : NF τ1 (QUD n rg ra rb rc)] [j2 : NF τ2 (TRN m t h)] : Con Tryz.prog 22 [τ1,τ2] (10000 * n + 10000 * m + 100000 ≤ BIG) (MT.tup2 (QC (22 * n + 32 * m + 1119) (okV (btC [rg,ra,rb,rc] h t) (dsc rg ra rb rc h t.val))) (.ex (errV 67 (btC [rg,ra,rb,rc] h t)))):=.o2 fun hok h1 h2 hp=>by
  by_cases e : btC [rg,ra,rb,rc] h t = 0
  · simp only [oaE,oaR,oaL,okV,e,if_true,ite_true]
    exact w22.c2 hok (j1.h h1) (j2.h h2) ⟨hp,bt_00 e⟩
  · exact bad22.c2 hok (j1.h h1) (j2.h h2) ⟨hp,e⟩
theorem bad13 {n m : Nat} {rg ra rb rc t : FR} {h : Bool} : Con Tryz.prog 13 [QUD n rg ra rb rc,TRN m t h] (10000 * n + 10000 * m + 100000 ≤ BIG ∧ ¬ btC [rg,ra,rb,rc] h t = 0) (MT.tup3 (TWR (100 * n + 200 * m + 10000) (oaR rg ra rb rc h t)) (LS (some 3) ((oaL rg ra rb rc h t).map (BPT (100 * n + 200 * m + 10000)))) (.ex (errV 67 (oaE rg ra rb rc h t)))):=.o2 fun hok h1 h2 hp=>by
  refine St.enter (N:=146) Tryz.func13 rfl rfl rfl hok (enter2 h1 h2) fun a=>?_
  have hz:=hp.2
  repeat' (first|((with_reducible refine gS_ ?_);first|((with_reducible refine gL_ ?_);first|refine W.run ?_ fun a w G=>?_|refine W.mv fun a w G=>?_|refine W.asg fun a w G=>?_|refine W.bx fun b a w G=>?_|(refine W.nn hK ?_;clear hK K)|refine W.nl ?_|refine W.al fun b a w G=>?_|refine W.st fun w=>?_|refine W.stp fun w=>?_|refine W.ste ?_ fun w=>?_)|((with_reducible refine gC_ ?_);first|with_reducible refine W.cbt (by first|assumption|(simp [hz];done)|fail) ?_|with_reducible refine W.cbf (by first|assumption|(simp [hz];done)|fail) ?_|refine W.reg fun K hK=>?_|refine W.reg1 ?_|refine W.sq fun K hK=>?_|refine W.ds ?_ (fun β a w G hu=>W.fin ?_ hu) mixedOrders (by kernel_rfl)|refine W.sk ?_|refine W.cd (fun hc=>?_) (fun hc=>?_)|refine W.cb (fun hc=>?_) (fun hc=>?_)|refine W.bl ?_|refine W.ex ?_|refine W.rt ?_)|((with_reducible refine W.kn hK ?_);clear hK K)|(with_reducible first|refine W.bn ?_|refine W.xt ?_|refine W.xb ?_|refine W.xo ?_|refine W.tr ?_|refine W.br ?_)|refine W.rt1 rfl ?_|refine W.rt2 rfl ?_ ?_|refine W.rt3 rfl ?_ ?_ ?_)|clear hK K|clear hu|exact True.intro|exact Nat.le_trans (by clear hp;omega) hp|exact Nat.le_trans (by clear hp;omega) hp.1|exact Nat.le_trans (by clear hp;omega) hp.2|(clear hp;omega)|apply And.intro|refine GI.i fun _=>?_|with_reducible rfl|decide|(simp only [List.length_cons,List.length_nil];omega))
  all_goals first
    | omega
    | exact hp.1
    | exact okV_n hp.2
    | exact (okV_n hp.2).symm
    | exact (if_neg hp.2).symm
    | exact if_neg hp.2
    | rfl
    | skip
instance (priority:=2000) {n m : Nat} {rg ra rb rc t : FR} {h : Bool} {τ1 τ2 : MT} [j1 : NF τ1 (QUD n rg ra rb rc)] [j2 : NF τ2 (TRN m t h)] : Con Tryz.prog 13 [τ1,τ2] (10000 * n + 10000 * m + 100000 ≤ BIG) (MT.tup3 (TWR (100 * n + 200 * m + 10000) (oaR rg ra rb rc h t)) (LS (some 3) ((oaL rg ra rb rc h t).map (BPT (100 * n + 200 * m + 10000)))) (.ex (errV 67 (oaE rg ra rb rc h t)))):=.o2 fun hok h1 h2 hp=>by
  by_cases e : btC [rg,ra,rb,rc] h t = 0
  · simp only [oaE,oaR,oaL,okV,e,if_true,ite_true]
    exact atPM.c2 hok (j1.h h1) (j2.h h2) ⟨hp,bt_00 e⟩
  · exact bad13.c2 hok (j1.h h1) (j2.h h2) ⟨hp,e⟩
end Go.Proofs.YtnjbcjmkkejfpaaGreatDoor
set_option linter.unusedVariables false
set_option linter.unusedSimpArgs false
namespace Go.Proofs.YtnjbcjmkkejfpaaGreatDoor
open Go.RowKit (Below)
namespace W
section
variable {P : Program} {B : List BX} {L : List (Nat × MT)} {W0 : World} {G0 : Gh} {N : Nat} {a : Act} {w : World} {G : Gh} {Q : Exit → Act → World → Prop} {p : Prop} {id n i i1 i2 i3 fuel : Nat} {l : List Oper} {js : List Nat} {K : Act → World → Prop} {o : Oper}
theorem cvt {τ : MT} {pc : Prop} (t : Nat) (τ' : MT) [h : Lk L t τ] [c : Cv τ τ' pc] (hp : pc) (K : St W0 G0 N ((t,τ') :: L) B a w G → p) : St W0 G0 N L B a w G → p:=fun S =>
  K ⟨S.nxt,S.size,S.dfr,fun i q hi=>match i,hi with | 0,hi=>by cases hi;exact c.h hp (S.env [t] t τ (by simp) h.m) | i + 1,hi=>S.ty i q hi,S.bx,S.nd⟩
theorem cut {c : Code} {arr : Array Oper} (num d : Nat) (ty : TypeId) (k : Option Nat) (τ : MT) (h1 : ∀ b a w G, St W0 G0 N ((d, MT.ex (.pointer (some ⟨b, 0, none⟩))) :: L) (⟨b, ty, k, τ⟩ :: B) a w G → c.wp P Q a w)
    (h2 : ∀ K : Act → World → Prop,(∀ b a w G,St W0 G0 N ((d,MT.ex (.pointer (some ⟨b,0,none⟩))) :: L) (⟨b,ty,k,τ⟩ :: B) a w G → K a w) → St W0 G0 N L B a w G → (Code.region num arr true).wp P (Exit.then K Q) a w) :
    St W0 G0 N L B a w G → (Code.seq (.region num arr true) c).wp P Q a w:=fun S=>wp_seq_k fun K hK=>h2 K (fun b a w G S=>hK a w (h1 b a w G S)) S
end
end W
end Go.Proofs.YtnjbcjmkkejfpaaGreatDoor
set_option linter.unusedVariables false
set_option linter.unusedSimpArgs false
set_option maxHeartbeats 4000000
set_option maxRecDepth 100000
set_option synthInstance.maxSize 100000
set_option synthInstance.maxHeartbeats 400000
namespace Go.Proofs.YtnjbcjmkkejfpaaGreatDoor
open Go.RowKit (Below)
attribute [local irreducible] Go.Code.wp Go.wpList Go.bodyPost
attribute [local irreducible] barC trnC btC dirC dirS dsc okV
section
variable {g a b c : FR} {h : Bool} {t : Rat}
end
section
variable {g a b c : FR} {h : Bool} {t : Rat}
end
instance gTO3_17_2 : GcT 17 2 false 5 [6,16,17,18,19,20,21]:=⟨⟩
instance gTO3_17_3 : GcT 17 3 false 2 [3,7,8,22,23,24]:=⟨⟩
instance gTO3_17_5 : GcT 17 5 false 2 [3,7,8,22,23,24,26,27,28]:=⟨⟩
instance gTO3_17_6 : GcT 17 6 false 22 [23,24,26,27,28]:=⟨⟩
instance gTO3_17_7 : GcT 17 7 false 2 [3,30,31,32,33,34,35]:=⟨⟩
instance gTO3_17_10 : GcT 17 10 false 7 [10,36,37,48,49,50,51,52,53,54,55]:=⟨⟩
end Go.Proofs.YtnjbcjmkkejfpaaGreatDoor
set_option linter.unusedVariables false
set_option linter.unusedSimpArgs false
set_option maxHeartbeats 4000000
set_option maxRecDepth 100000
set_option synthInstance.maxSize 100000
set_option synthInstance.maxHeartbeats 400000
namespace Go.Proofs.YtnjbcjmkkejfpaaGreatDoor
open Go.RowKit (Below)
attribute [local irreducible] Go.Code.wp Go.wpList Go.bodyPost
attribute [local irreducible] barC trnC btC ciF dsc enR enL cirs exC ofC ofI boC boI boK dirC dirS cirF
theorem ex_bar : barC [FR.of 4,FR.of 1,FR.of 9,FR.of 9] = 0:=by
  unfold barC;simp only [List.all_cons,List.all_nil,posR_of4];decide +kernel
theorem ex_dL : dsc (FR.of 4) (FR.of 1) (FR.of 9) (FR.of 9) true zFR.val = 275:=by unfold dsc;simp only [FR.of_val,zv0];decide +kernel
instance iK6_113  : Con Tryz.prog 54 [] (True) (QUD 64 (FR.of 4) (FR.of 1) (FR.of 9) (FR.of 9)):=.o0 fun hok  hp=>by
  refine St.enter (N:=6) Tryz.func54 rfl rfl rfl hok enter0 fun a=>?_
  repeat' (first|((with_reducible refine gS_ ?_);first|((with_reducible refine gL_ ?_);first|refine W.run ?_ fun a w G=>?_|refine W.mv fun a w G=>?_|refine W.asg fun a w G=>?_|refine W.bx fun b a w G=>?_|(refine W.nn hK ?_;clear hK K)|refine W.nl ?_|refine W.al fun b a w G=>?_|refine W.st fun w=>?_|refine W.stp fun w=>?_|refine W.ste ?_ fun w=>?_)|((with_reducible refine gC_ ?_);first|refine W.reg fun K hK=>?_|refine W.reg1 ?_|refine W.sq fun K hK=>?_|refine W.ds ?_ (fun β a w G hu=>W.fin ?_ hu) mixedOrders (by kernel_rfl)|refine W.sk ?_|refine W.cd (fun hc=>?_) (fun hc=>?_)|refine W.cb (fun hc=>?_) (fun hc=>?_)|refine W.bl ?_|refine W.ex ?_|refine W.rt ?_)|((with_reducible refine W.kn hK ?_);clear hK K)|(with_reducible first|refine W.bn ?_|refine W.xt ?_|refine W.xb ?_|refine W.xo ?_|refine W.tr ?_|refine W.br ?_)|refine W.rt1 rfl ?_|refine W.rt2 rfl ?_ ?_|refine W.rt3 rfl ?_ ?_ ?_)|clear hK K|clear hu|exact True.intro|exact Nat.le_trans (by clear hp;omega) hp|exact Nat.le_trans (by clear hp;omega) hp.1|exact Nat.le_trans (by clear hp;omega) hp.2|(clear hp;omega)|apply And.intro|refine GI.i fun _=>?_|with_reducible rfl|decide|(simp only [List.length_cons,List.length_nil];omega))
end Go.Proofs.YtnjbcjmkkejfpaaGreatDoor
set_option linter.unusedVariables false
set_option linter.unusedSimpArgs false
set_option maxHeartbeats 4000000
set_option maxRecDepth 100000
set_option synthInstance.maxSize 100000
set_option synthInstance.maxHeartbeats 400000
namespace Go.Proofs.YtnjbcjmkkejfpaaGreatDoor
open Go.RowKit (Below)
attribute [local irreducible] Go.Code.wp Go.wpList Go.bodyPost
attribute [local irreducible] barC trnC btC dirC dirS dsc ouE ouR ouL ouX ouY ouMX ouMY
theorem a36_b : btC [FR.of 4,FR.of 1,FR.of 9,FR.of 9] true zFR = 0:=bt_0 ex_bar trn_zero
theorem a36_d : dsc (FR.of 4) (FR.of 1) (FR.of 9) (FR.of 9) true zFR.val = 275:=ex_dL
theorem a36_ok {x : Rat} : okV (btC [FR.of 4,FR.of 1,FR.of 9,FR.of 9] true zFR) x = x:=okV_0 a36_b
theorem a36_x : ouX (FR.of 4) (FR.of 1) (FR.of 9) (FR.of 9) true zFR.val = 3 / 2:=by
  unfold ouX ouK w2F
  simp only [FR.of_val,zv0]
  decide +kernel
theorem a36_e : oaE (FR.of 4) (FR.of 1) (FR.of 9) (FR.of 9) true zFR = 0:=by
  unfold oaE
  rw [if_pos a36_b]
  unfold ouE
  rw [if_neg (fun e=>absurd e.1 (by unfold w2F;simp only [FR.of_val,zv0];decide +kernel)),if_neg (by rw [a36_d];decide)]
theorem a36_o : ouE (FR.of 4) (FR.of 1) (FR.of 9) (FR.of 9) true zFR.val = 0:=by have h:=a36_e;unfold oaE at h;rw [if_pos a36_b] at h;exact h
theorem a36_r : oaR (FR.of 4) (FR.of 1) (FR.of 9) (FR.of 9) true zFR = [[275]]:=by
  unfold oaR ouR
  rw [if_pos a36_b,if_pos ⟨a36_o,by rw [a36_d];decide⟩,a36_d]
theorem a36_l : oaL (FR.of 4) (FR.of 1) (FR.of 9) (FR.of 9) true zFR = [(1,[3 / 2,ouMX (FR.of 4) (FR.of 1) true zFR.val],[ouY (FR.of 4) (FR.of 1) (FR.of 9) (FR.of 9) true zFR.val,ouMY (FR.of 4) (FR.of 1) true zFR.val]),(-1,[3 / 2,-ouMX (FR.of 4) (FR.of 1) true zFR.val],[ouY (FR.of 4) (FR.of 1) (FR.of 9) (FR.of 9) true zFR.val,-ouMY (FR.of 4) (FR.of 1) true zFR.val])]:=by
  unfold oaL ouL
  rw [if_pos a36_b,if_pos a36_o,a36_d,if_neg (by decide),a36_x]
theorem w12 {t : FR} {h : Bool} : Con Tryz.prog 12 [PTS [(some 3,RX t),(none,BT h)]] (True) (BT (shortR t)):=.o1 fun hok h1 hp=>by
  refine St.enter (N:=15) Tryz.func12 rfl rfl rfl hok (enter1 h1) fun a=>?_
  repeat' (first|((with_reducible refine gS_ ?_);first|((with_reducible refine gL_ ?_);first|refine W.run ?_ fun a w G=>?_|refine W.mv fun a w G=>?_|refine W.asg fun a w G=>?_|refine W.bx fun b a w G=>?_|(refine W.nn hK ?_;clear hK K)|refine W.nl ?_|refine W.al fun b a w G=>?_|refine W.st fun w=>?_|refine W.stp fun w=>?_|refine W.ste ?_ fun w=>?_)|((with_reducible refine gC_ ?_);first|refine W.reg fun K hK=>?_|refine W.reg1 ?_|refine W.sq fun K hK=>?_|refine W.ds ?_ (fun β a w G hu=>W.fin ?_ hu) mixedOrders (by kernel_rfl)|refine W.sk ?_|refine W.cd (fun hc=>?_) (fun hc=>?_)|refine W.cb (fun hc=>?_) (fun hc=>?_)|refine W.bl ?_|refine W.ex ?_|refine W.rt ?_)|((with_reducible refine W.kn hK ?_);clear hK K)|(with_reducible first|refine W.bn ?_|refine W.xt ?_|refine W.xb ?_|refine W.xo ?_|refine W.tr ?_|refine W.br ?_)|refine W.rt1 rfl ?_|refine W.rt2 rfl ?_ ?_|refine W.rt3 rfl ?_ ?_ ?_)|clear hK K|clear hu|exact True.intro|exact Nat.le_trans (by clear hp;omega) hp|exact Nat.le_trans (by clear hp;omega) hp.1|exact Nat.le_trans (by clear hp;omega) hp.2|(clear hp;omega)|apply And.intro|refine GI.i fun _=>?_|with_reducible rfl|decide|(simp only [List.length_cons,List.length_nil];omega))
  all_goals first | omega | rfl | (unfold shortR;congr 1 <;> exact decide_eq_decide.2 (by omega)) | (unfold shortR;rw [Bool.eq_iff_iff];simp only [Bool.and_eq_true,decide_eq_true_eq];omega) | skip
instance {t : FR} {h : Bool} {τ1 : MT} [j1 : NR τ1 (PTS [(some 3,RX t),(none,BT h)])] : Con Tryz.prog 12 [τ1] (True) (BT (shortR t)):=.o1 fun hok h1 hp=>w12.c1 hok (j1.h h1) hp
instance  : ConT Tryz.prog 10 [] (True) (BT true):=.o0 fun hok ht  hp=>by
  refine St.enter (N:=75) Tryz.func10 rfl rfl rfl hok enter0 fun a=>?_
  refine W.tab ht ?_
  have x1:=a36_b
  have x3:=a36_e
  have x4:=a36_r
  have x5:=a36_l
  repeat' (first|((with_reducible refine gS_ ?_);first|((with_reducible refine gL_ ?_);first|refine W.run ?_ fun a w G=>?_|refine W.mv fun a w G=>?_|refine W.asg fun a w G=>?_|refine W.bx fun b a w G=>?_|(refine W.nn hK ?_;clear hK K)|refine W.nl ?_|refine W.al fun b a w G=>?_|refine W.st fun w=>?_|refine W.stp fun w=>?_|refine W.ste ?_ fun w=>?_)|((with_reducible refine gC_ ?_);first|refine W.reg fun K hK=>?_|refine W.reg1 ?_|refine W.sq fun K hK=>?_|refine W.ds ?_ (fun β a w G hu=>W.fin ?_ hu) mixedOrders (by kernel_rfl)|refine W.sk ?_|refine W.cd (fun hc=>?_) (fun hc=>?_)|refine W.cb (fun hc=>?_) (fun hc=>?_)|refine W.bl ?_|refine W.ex ?_|refine W.rt ?_)|((with_reducible refine W.kn hK ?_);clear hK K)|(with_reducible first|refine W.bn ?_|refine W.xt ?_|refine W.xb ?_|refine W.xo ?_|refine W.tr ?_|refine W.br ?_)|refine W.rt1 rfl ?_|refine W.rt2 rfl ?_ ?_|refine W.rt3 rfl ?_ ?_ ?_)|clear hK K|clear hu|exact True.intro|exact Nat.le_trans (by clear hp;omega) hp|exact Nat.le_trans (by clear hp;omega) hp.1|exact Nat.le_trans (by clear hp;omega) hp.2|(clear hp;omega)|apply And.intro|refine GI.i fun _=>?_|with_reducible rfl|decide|(simp only [List.length_cons,List.length_nil];omega))
  all_goals (try simp only [a36_ok,a36_d,a36_r,a36_l,a36_e,List.length_cons,List.length_nil] at *)
  all_goals first
    | omega
    | (show (0 : Rat) < 3 / 2;decide +kernel)
    | (show (3 / 2 : Rat).num < 1000000000;decide +kernel)
    | (show (3 / 2 : Rat).den < 1000000000;decide +kernel)
    | decide
    | rfl
    | (rw [a36_b];decide +kernel)
    | skip
end Go.Proofs.YtnjbcjmkkejfpaaGreatDoor
set_option linter.unusedVariables false
set_option linter.unusedSimpArgs false
set_option maxHeartbeats 4000000
set_option maxRecDepth 100000
set_option synthInstance.maxSize 100000
set_option synthInstance.maxHeartbeats 400000
namespace Go.Proofs.YtnjbcjmkkejfpaaGreatDoor
open Go.RowKit (Below)
attribute [local irreducible] Go.Code.wp Go.wpList Go.bodyPost
theorem gi2_0 {s1 s2 : Bool} (h : (s1 && s2) = false) (g : ((!true || !s1) || !s2) = false) : False:=by cases s1 <;> cases s2 <;> simp_all
theorem gi2_1 {s1 s2 A1 : Bool} (h : (s1 && s2) = false) (g : (((!true || !s1) || !s2) || A1) = false) : False:=by cases s1 <;> cases s2 <;> simp_all
theorem long2_2 {s1 s2 A1 A2 : Bool} (h : (s1 && s2) = false) : ((((!true || !s1) || !s2) || A1) || A2) = true:=by cases s1 <;> cases s2 <;> simp_all
attribute [local irreducible] barC trnC btC dirC dirS dsc ouE ouR ouL ouX ouY ouMX ouMY oaE oaR oaL
section
variable {a b c d t : FR} {h : Bool}
theorem ouL_t (g a b c : FR) (h : Bool) (t : Rat) : (ouL g a b c h t).length ≤ 2:=by
  unfold ouL;split
  · split
    · exact Nat.le_succ 1
    · exact Nat.le_refl 2
  · exact Nat.zero_le _
end
instance gTO5_3_2 : GcT 3 2 false 2 [3,4,12,13,14,15,16,17,18,19,20,21,22,23]:=⟨⟩
instance gTO5_3_3 : GcT 3 3 false 4 [12,13,14,15,16,17,18,19,20,21,22,23]:=⟨⟩
instance gTO5_3_4 : GcT 3 4 false 25 [26,27,28,29,30,31]:=⟨⟩
instance gTO5_3_7 : GcT 3 7 false 32 [33,34,35,36,37,38,39,40]:=⟨⟩
instance gTO5_3_10 : GcT 3 10 false 2 [3,41,42,58,59,60,61,62,63,64]:=⟨⟩
instance gTO5_3_11 : GcT 3 11 false 5 [6,7,8,9,10,65,66,67,68,69,70,71,72,73,74,75,76,77,78,79,80,81]:=⟨⟩
instance gTO5_3_12 : GcT 3 12 false 5 [7,8,9,65,66,67,68,69,70,71,72,73,74,75,76,77,78,79,80,81]:=⟨⟩
instance gTO5_3_16 : GcT 3 16 false 11 [85,86,87,88,89,90,91,92,93,94,95,96,97,98,99,100,101,102,103,104,105,106,107,108,109,110,111,112,113,114,115,116,117,118,119,120,121,122,123,124,125,126,127,128,129]:=⟨⟩
end Go.Proofs.YtnjbcjmkkejfpaaGreatDoor
namespace Go.Proofs.YtnjbcjmkkejfpaaGreatDoor
open Go.RowKit (Below)
end Go.Proofs.YtnjbcjmkkejfpaaGreatDoor
namespace Go.Proofs.YtnjbcjmkkejfpaaGreatDoor
theorem fr_self {r : FR} (hw : wfl r.p ∧ wfl r.q) (hok : r.ok = true) : FR.of r.val = r:=by
  obtain ⟨s,p,q⟩:=r
  have hw : wfl p ∧ wfl q:=hw
  have hok : qok s p q = true:=hok
  by_cases hp : p.length = 0
  · have e:=List.length_eq_zero_iff.1 hp
    subst e
    have h : qok s [] q = true:=hok
    have hv : FR.val ⟨s,[],q⟩ = 0:=qval_nil rfl
    unfold qok at h
    split at h
    · rename_i k
      obtain rfl:=k.2
      rw [hv]
      have : s = false:=by simpa using h
      subst this
      unfold FR.of dwords
      rw [if_pos rfl,show (0 : Rat).num.natAbs = 0 from rfl,words_zero];rfl
    · simp at h
  · obtain ⟨_,h3,h4,h5,h6⟩:=qval_parts hw hok hp
    have hp0 : val p ≠ 0:=fun e=>ne_of_len hp (val_eq_zero h3 e)
    have hne : FR.val ⟨s,p,q⟩ ≠ 0:=fun e=>by
      have h5' : (FR.val ⟨s,p,q⟩).num = sg s (val p):=h5
      rw [e] at h5'
      have:=congrArg Int.natAbs h5'
      rw [sg_abs] at this;exact hp0 this.symm
    have hs : decide (FR.val ⟨s,p,q⟩ < 0) = s:=by
      have h5' : (FR.val ⟨s,p,q⟩).num = sg s (val p):=h5
      have h7 : FR.val ⟨s,p,q⟩ < 0 ↔ (FR.val ⟨s,p,q⟩).num < 0:=by
        rw [← Rat.not_le,← Rat.num_nonneg];omega
      rw [Bool.eq_iff_iff,decide_eq_true_iff,h7,h5']
      cases s <;> simp [sg] <;> omega
    unfold FR.of dwords
    rw [if_neg hne,hs]
    have e1 : (FR.val ⟨s,p,q⟩).num.natAbs = val p:=(congrArg Int.natAbs h5).trans sg_abs
    have e2 : (FR.val ⟨s,p,q⟩).den = val q:=h6
    rw [e1,e2,words_val hw.1 h3,words_val hw.2 h4]
theorem FX.self {n : Nat} {r : FR} {v : Value} {G : Gh} (h : (FX n r).t v G) (hok : r.ok = true) : (FX n (FR.of r.val)).t v G:=FX.eq h (fr_self (QR.wf (FX.qr h)) hok).symm
theorem FX.inv {n : Nat} {ra rb rc rd : FR} {k : Int} {j : Nat} {v : Value} {G : Gh} (hck : chkF [ra,rb,rc,rd] = 0) (h : (FX n ([ra,rb,rc,rd].getD ((j + md4 k) % 4) default)).t v G) : (FX n (invF [ra,rb,rc,rd] k j)).t v G:=by
  have hp:=chk_pos hck
  unfold invF;rw [if_pos hck]
  refine FX.self h ?_
  have hlt : (j + md4 k) % 4 < [ra,rb,rc,rd].length:=Nat.mod_lt _ (by decide)
  have hm : [ra,rb,rc,rd].getD ((j + md4 k) % 4) default ∈ [ra,rb,rc,rd]:=by
    rw [List.getD_eq_getElem?_getD,List.getElem?_eq_getElem hlt];exact List.getElem_mem hlt
  have:=List.all_eq_true.1 hp _ hm
  unfold posR at this
  exact (Bool.and_eq_true_iff.1 this).1
section
variable {a b c d A B C D : Rat}
end
end Go.Proofs.YtnjbcjmkkejfpaaGreatDoor
