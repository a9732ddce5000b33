import Derived.WalkKit
import Derived.Orders
import Derived.KernelRfl
import Derived.Laws.CopyRow
set_option linter.unusedVariables false
set_option linter.unusedSimpArgs false
namespace Go.Proofs.YtboicjlbbbodgaaGreatDoor
open Go.RowKit (Below)
abbrev Gh:=Nat → Option Obj
def Gok (w : World) (G : Gh) : Prop:=∀ b o,G b = some o → w.heap[b]? = some o
def Gle (G G' : Gh) : Prop:=∀ b o,G b = some o → G' b = some o
theorem Gle.refl (G : Gh) : Gle G G:=fun _ _ h=>h
theorem Gle.trans {a b c : Gh} (h : Gle a b) (k : Gle b c) : Gle a c:=fun _ _ x=>k _ _ (h _ _ x)
structure MT where
  t : Value → Gh → Prop
  mono : ∀ {v : Value} {G G' : Gh},Gle G G' → t v G → t v G'
def MT.ex (v : Value) : MT:=⟨fun u _=>u = v,fun _ h=>h⟩
def MT.any : MT:=⟨fun _ _=>True,fun _ h=>h⟩
structure GF where
  p : Gh → Prop
  mono : ∀ {G G' : Gh},Gle G G' → p G → p G'
def MT.exw (v : Value) (f : GF) : MT:=⟨fun u G=>u = v ∧ f.p G,fun hle h=>⟨h.1,f.mono hle h.2⟩⟩
def MT.tup2 (a b : MT) : MT:=⟨fun v G=>∃ x y,v = .tuple #[x,y] ∧ a.t x G ∧ b.t y G,fun hle ⟨x,y,h,h1,h2⟩=>⟨x,y,h,a.mono hle h1,b.mono hle h2⟩⟩
def MT.tup3 (a b c : MT) : MT:=⟨fun v G=>∃ x y z,v = .tuple #[x,y,z] ∧ a.t x G ∧ b.t y G ∧ c.t z G,fun hle ⟨x,y,z,h,h1,h2,h3⟩=>⟨x,y,z,h,a.mono hle h1,b.mono hle h2,c.mono hle h3⟩⟩
structure Nxt (w : World) (G : Gh) (w' : World) (G' : Gh) : Prop where
  below : Below w.heap.size w w'
  agree : ∀ b,b < w.heap.size → G' b = G b
  le : Gle G G'
  ok : Gok w' G'
theorem Nxt.refl {w : World} {G : Gh} (h : Gok w G) : Nxt w G w G:=⟨Below.refl _ _,fun _ _=>rfl,Gle.refl _,h⟩
theorem Nxt.trans {w w' w'' : World} {G G' G'' : Gh} (h : Nxt w G w' G') (k : Nxt w' G' w'' G'') : Nxt w G w'' G'' :=
  ⟨h.below.trans (k.below.mono h.below.size),fun b hb=>(k.agree b (Nat.lt_of_lt_of_le hb h.below.size)).trans (h.agree b hb),h.le.trans k.le,k.ok⟩
theorem Gok.lt {w : World} {G : Gh} (h : Gok w G) {b : Nat} {o : Obj} (hb : G b = some o) : b < w.heap.size:=by
  have:=h b o hb
  rcases Nat.lt_or_ge b w.heap.size with hlt | hge
  · exact hlt
  · rw [Array.getElem?_eq_none hge] at this;cases this
theorem Gok.none {w : World} {G : Gh} (h : Gok w G) {b : Nat} (hb : w.heap.size ≤ b) : G b = none:=by
  cases hG : G b with
  | none=>rfl
  | some o=>have:=h.lt hG;omega
theorem Gok.alloc {w : World} {G : Gh} (h : Gok w G) (o : Obj) : Gok (w.alloc o) G:=fun b x hb=>by
  rw [Below.heap_alloc w o b (h.lt hb)];exact h b x hb
theorem Nxt.alloc {w : World} {G : Gh} (h : Gok w G) (o : Obj) : Nxt w G (w.alloc o) G :=
  ⟨(Below.refl _ _).alloc (Nat.le_refl _) o,fun _ _=>rfl,Gle.refl _,h.alloc o⟩
def Gput (G : Gh) (b : Nat) (o : Obj) : Gh:=fun k=>if k = b then some o else G k
theorem Nxt.allocPut {w : World} {G : Gh} (h : Gok w G) (o : Obj) : Nxt w G (w.alloc o) (Gput G w.heap.size o):=by
  have hn:=h.none (Nat.le_refl _)
  refine ⟨(Below.refl _ _).alloc (Nat.le_refl _) o,fun b hb=>by simp [Gput];omega,fun b x hb=>?_,fun b x hb=>?_⟩
  · unfold Gput;split
    · rename_i e;subst e;rw [hn] at hb;cases hb
    · exact hb
  · unfold Gput at hb;split at hb
    · rename_i e;subst e;injection hb with hb;subst hb;exact heap_alloc_new w o
    · rw [Below.heap_alloc w o b (h.lt hb)];exact h b x hb
theorem Nxt.drew {w : World} {G : Gh} (h : Gok w G) : Nxt w G w.drew G:=⟨(Below.refl _ _).drew,fun _ _=>rfl,Gle.refl _,h⟩
def Ret (w : World) (G : Gh) (τ : MT) : Ending → World → Prop:=fun e w'=>∃ v G',e = .returned v ∧ τ.t v G' ∧ Nxt w G w' G'
def Shaped : Option Nat → Value → Prop
  | some n,v=>∃ cs : Array Value,v = .agg cs ∧ cs.size = n ∧ ∀ c ∈ cs.toList,c.oneCell' = true
  | none,v=>v.cells = #[v] ∧ v.oneCell' = true
class Shp (τ : MT) (k : outParam (Option Nat)) : Prop where
  sh : ∀ {v : Value} {G : Gh},τ.t v G → Shaped k v
instance {b : Bool} : Shp (.ex (.bool b)) none:=⟨fun {_ _} h=>by cases h;exact ⟨rfl,rfl⟩⟩
instance {k : IntKind} {n : Int} : Shp (.ex (.int k n)) none:=⟨fun {_ _} h=>by cases h;exact ⟨rfl,rfl⟩⟩
instance {a : Option Addr} {n c : Nat} : Shp (.ex (.slice a n c)) none:=⟨fun {_ _} h=>by cases h;exact ⟨rfl,rfl⟩⟩
instance {a : Option Addr} : Shp (.ex (.pointer a)) none:=⟨fun {_ _} h=>by cases h;exact ⟨rfl,rfl⟩⟩
instance : Shp (.ex .nilIface) none:=⟨fun {_ _} h=>by cases h;exact ⟨rfl,rfl⟩⟩
instance {t : TypeId} {v : Value} : Shp (.ex (.iface t v)) none:=⟨fun {_ _} h=>by cases h;exact ⟨rfl,rfl⟩⟩
instance {a : Option Addr} {n c : Nat} {f : GF} : Shp (.exw (.slice a n c) f) none:=⟨fun {_ _} h=>by cases h.1;exact ⟨rfl,rfl⟩⟩
structure BX where
  b : Nat
  ty : TypeId
  k : Option Nat
  τ : MT
def BX.ok (x : BX) (W0 : World) (w : World) (G : Gh) : Prop :=
  W0.heap.size ≤ x.b ∧ G x.b = none ∧ ∃ v,w.heap[x.b]? = some (.cells v.cells x.ty (0,0)) ∧ Shaped x.k v ∧ x.τ.t v G
theorem BX.ok.lt {x : BX} {W0 w : World} {G : Gh} (h : x.ok W0 w G) : x.b < w.heap.size:=by
  obtain ⟨_,_,v,hv,_⟩:=h
  rcases Nat.lt_or_ge x.b w.heap.size with hlt | hge
  · exact hlt
  · rw [Array.getElem?_eq_none hge] at hv;cases hv
theorem BX.ok.nxt {x : BX} {W0 w w' : World} {G G' : Gh} (h : x.ok W0 w G) (hn : Nxt w G w' G') : x.ok W0 w' G':=by
  have hlt:=h.lt
  obtain ⟨h1,h2,v,hv,hs,ht⟩:=h
  exact ⟨h1,(hn.agree _ hlt).trans h2,v,(hn.below.block _ hlt).trans hv,hs,x.τ.mono hn.le ht⟩
abbrev tm (a : Act) (t : Nat) : Value:=a.tmps.getD t undef
structure St (W0 : World) (G0 : Gh) (N : Nat) (L : List (Nat × MT)) (B : List BX) (a : Act) (w : World) (G : Gh) : Prop where
  nxt : Nxt W0 G0 w G
  size : a.tmps.size = N
  dfr : a.defers = []
  ty : ∀ (i : Nat) (p : Nat × MT),L[i]? = some p → p.2.t (tm a p.1) G
  bx : ∀ (i : Nat) (x : BX),B[i]? = some x → x.ok W0 w G
  nd : ∀ (i j : Nat) (x y : BX),B[i]? = some x → B[j]? = some y → i ≠ j → x.b ≠ y.b
section
variable {P : Program} {W0 : World} {G0 : Gh} {N : Nat} {L : List (Nat × MT)} {B : List BX} {a : Act} {w : World} {G : Gh}
theorem St.ok (S : St W0 G0 N L B a w G) : Gok w G:=S.nxt.ok
theorem St.g (S : St W0 G0 N L B a w G) (i : Nat) {t : Nat} {τ : MT} (h : L[i]? = some (t,τ)) : τ.t (tm a t) G:=S.ty i _ h
theorem St.e (S : St W0 G0 N L B a w G) (i : Nat) {t : Nat} {v : Value} (h : L[i]? = some (t,.ex v)) : tm a t = v:=S.ty i _ h
theorem St.box (S : St W0 G0 N L B a w G) (i : Nat) {x : BX} (h : B[i]? = some x) : x.ok W0 w G:=S.bx i _ h
theorem tm_put_same {d : Nat} {v : Value} (h : d < a.tmps.size) : tm (a.put (some d) v) d = v:=by
  simp [tm,Act.put,h]
theorem tm_put_ne {d t : Nat} {v : Value} (h : t ≠ d) : tm (a.put (some d) v) t = tm a t:=by
  simp [tm,Act.put,Array.getElem?_setIfInBounds_ne (Ne.symm h)]
theorem size_put {d : Option Nat} {v : Value} : (a.put d v).tmps.size = a.tmps.size:=by cases d <;> simp [Act.put]
theorem dfr_put {d : Option Nat} {v : Value} : (a.put d v).defers = a.defers:=by cases d <;> simp [Act.put]
def fresh (d : Nat) (L : List (Nat × MT)) : Bool:=L.all fun p=>p.1 != d
theorem St.put (S : St W0 G0 N L B a w G) {d : Nat} {v : Value} {w' : World} {G' : Gh} {τ : MT} (hd : d < N) (hf : fresh d L = true)
    (hv : τ.t v G') (hn : Nxt w G w' G') : St W0 G0 N ((d,τ) :: L) B (a.put (some d) v) w' G' where
  nxt:=S.nxt.trans hn
  size:=by rw [size_put];exact S.size
  dfr:=by rw [dfr_put];exact S.dfr
  ty:=fun i p h=>by
    cases i with
    | zero=>cases h;rw [tm_put_same (by rw [S.size];exact hd)];exact hv
    | succ i =>
      have h' : L[i]? = some p:=h
      have hne : p.1 ≠ d:=by
        have:=List.all_eq_true.1 hf p (List.mem_of_getElem? h')
        simpa using this
      rw [tm_put_ne hne]
      exact p.2.mono hn.le (S.ty i p h')
  bx:=fun i x h=>(S.bx i x h).nxt hn
  nd:=S.nd
def pickL {α : Type} (L : List α) (l : List Nat) : List α:=l.filterMap fun i : Nat=>L[i]?
theorem pickL_get {α : Type} {L : List α} {l : List Nat} {p : α} {i : Nat} (h : (pickL L l)[i]? = some p) : ∃ j : Nat,L[j]? = some p:=by
  have:=List.mem_of_getElem? h
  obtain ⟨j,_,hj⟩:=List.mem_filterMap.1 this
  exact ⟨j,hj⟩
theorem St.keep (S : St W0 G0 N L B a w G) (l : List Nat) : St W0 G0 N (pickL L l) B a w G :=
  { S with ty:=fun _ p h=>by obtain ⟨j,hj⟩:=pickL_get h;exact S.ty j p hj }
theorem St.weak (S : St W0 G0 N L B a w G) {L' : List (Nat × MT)} (h : ∀ (i : Nat) (p : Nat × MT),L'[i]? = some p → p.2.t (tm a p.1) G) : St W0 G0 N L' B a w G :=
  { S with ty:=h }
theorem St.also (S : St W0 G0 N L B a w G) {t : Nat} {τ : MT} (h : τ.t (tm a t) G) : St W0 G0 N ((t,τ) :: L) B a w G :=
  S.weak fun i p hi=>by
    cases i with
    | zero=>cases hi;exact h
    | succ i=>exact S.ty i p hi
theorem St.rm (S : St W0 G0 N L B a w G) (n : Nat) : St W0 G0 N (L.eraseIdx n) B a w G :=
  S.weak fun i p h=>by
    have hm:=List.mem_of_getElem? h
    obtain ⟨j,hj⟩:=List.mem_iff_getElem?.1 (List.mem_of_mem_eraseIdx hm)
    exact S.ty j p hj
section
variable {x0 x1 x2 x3 x4 x5 x6 x7 x8 x9 x10 x11 x12 x13 x14 x15 x16 x17 x18 x19 x20 x21 x22 x23 x24 x25 x26 x27 x28 x29 x30 x31 x32 x33 x34 x35 x36 x37 x38 x39 x40 : Nat × MT} {M : List (Nat × MT)}
theorem St.d0 (S : St W0 G0 N (x0 :: M) B a w G) : St W0 G0 N (M) B a w G:=S.rm 0
theorem St.d1 (S : St W0 G0 N (x0 :: x1 :: M) B a w G) : St W0 G0 N (x0 :: M) B a w G:=S.rm 1
theorem St.d2 (S : St W0 G0 N (x0 :: x1 :: x2 :: M) B a w G) : St W0 G0 N (x0 :: x1 :: M) B a w G:=S.rm 2
theorem St.d3 (S : St W0 G0 N (x0 :: x1 :: x2 :: x3 :: M) B a w G) : St W0 G0 N (x0 :: x1 :: x2 :: M) B a w G:=S.rm 3
theorem St.d4 (S : St W0 G0 N (x0 :: x1 :: x2 :: x3 :: x4 :: M) B a w G) : St W0 G0 N (x0 :: x1 :: x2 :: x3 :: M) B a w G:=S.rm 4
theorem St.d5 (S : St W0 G0 N (x0 :: x1 :: x2 :: x3 :: x4 :: x5 :: M) B a w G) : St W0 G0 N (x0 :: x1 :: x2 :: x3 :: x4 :: M) B a w G:=S.rm 5
theorem St.d6 (S : St W0 G0 N (x0 :: x1 :: x2 :: x3 :: x4 :: x5 :: x6 :: M) B a w G) : St W0 G0 N (x0 :: x1 :: x2 :: x3 :: x4 :: x5 :: M) B a w G:=S.rm 6
theorem St.d7 (S : St W0 G0 N (x0 :: x1 :: x2 :: x3 :: x4 :: x5 :: x6 :: x7 :: M) B a w G) : St W0 G0 N (x0 :: x1 :: x2 :: x3 :: x4 :: x5 :: x6 :: M) B a w G:=S.rm 7
theorem St.d8 (S : St W0 G0 N (x0 :: x1 :: x2 :: x3 :: x4 :: x5 :: x6 :: x7 :: x8 :: M) B a w G) : St W0 G0 N (x0 :: x1 :: x2 :: x3 :: x4 :: x5 :: x6 :: x7 :: M) B a w G:=S.rm 8
theorem St.d9 (S : St W0 G0 N (x0 :: x1 :: x2 :: x3 :: x4 :: x5 :: x6 :: x7 :: x8 :: x9 :: M) B a w G) : St W0 G0 N (x0 :: x1 :: x2 :: x3 :: x4 :: x5 :: x6 :: x7 :: x8 :: M) B a w G:=S.rm 9
theorem St.d10 (S : St W0 G0 N (x0 :: x1 :: x2 :: x3 :: x4 :: x5 :: x6 :: x7 :: x8 :: x9 :: x10 :: M) B a w G) : St W0 G0 N (x0 :: x1 :: x2 :: x3 :: x4 :: x5 :: x6 :: x7 :: x8 :: x9 :: M) B a w G:=S.rm 10
theorem St.d11 (S : St W0 G0 N (x0 :: x1 :: x2 :: x3 :: x4 :: x5 :: x6 :: x7 :: x8 :: x9 :: x10 :: x11 :: M) B a w G) : St W0 G0 N (x0 :: x1 :: x2 :: x3 :: x4 :: x5 :: x6 :: x7 :: x8 :: x9 :: x10 :: M) B a w G:=S.rm 11
theorem St.d12 (S : St W0 G0 N (x0 :: x1 :: x2 :: x3 :: x4 :: x5 :: x6 :: x7 :: x8 :: x9 :: x10 :: x11 :: x12 :: M) B a w G) : St W0 G0 N (x0 :: x1 :: x2 :: x3 :: x4 :: x5 :: x6 :: x7 :: x8 :: x9 :: x10 :: x11 :: M) B a w G:=S.rm 12
theorem St.d13 (S : St W0 G0 N (x0 :: x1 :: x2 :: x3 :: x4 :: x5 :: x6 :: x7 :: x8 :: x9 :: x10 :: x11 :: x12 :: x13 :: M) B a w G) : St W0 G0 N (x0 :: x1 :: x2 :: x3 :: x4 :: x5 :: x6 :: x7 :: x8 :: x9 :: x10 :: x11 :: x12 :: M) B a w G:=S.rm 13
theorem St.d14 (S : St W0 G0 N (x0 :: x1 :: x2 :: x3 :: x4 :: x5 :: x6 :: x7 :: x8 :: x9 :: x10 :: x11 :: x12 :: x13 :: x14 :: M) B a w G) : St W0 G0 N (x0 :: x1 :: x2 :: x3 :: x4 :: x5 :: x6 :: x7 :: x8 :: x9 :: x10 :: x11 :: x12 :: x13 :: M) B a w G:=S.rm 14
theorem St.d15 (S : St W0 G0 N (x0 :: x1 :: x2 :: x3 :: x4 :: x5 :: x6 :: x7 :: x8 :: x9 :: x10 :: x11 :: x12 :: x13 :: x14 :: x15 :: M) B a w G) : St W0 G0 N (x0 :: x1 :: x2 :: x3 :: x4 :: x5 :: x6 :: x7 :: x8 :: x9 :: x10 :: x11 :: x12 :: x13 :: x14 :: M) B a w G:=S.rm 15
theorem St.d16 (S : St W0 G0 N (x0 :: x1 :: x2 :: x3 :: x4 :: x5 :: x6 :: x7 :: x8 :: x9 :: x10 :: x11 :: x12 :: x13 :: x14 :: x15 :: x16 :: M) B a w G) : St W0 G0 N (x0 :: x1 :: x2 :: x3 :: x4 :: x5 :: x6 :: x7 :: x8 :: x9 :: x10 :: x11 :: x12 :: x13 :: x14 :: x15 :: M) B a w G:=S.rm 16
theorem St.d17 (S : St W0 G0 N (x0 :: x1 :: x2 :: x3 :: x4 :: x5 :: x6 :: x7 :: x8 :: x9 :: x10 :: x11 :: x12 :: x13 :: x14 :: x15 :: x16 :: x17 :: M) B a w G) : St W0 G0 N (x0 :: x1 :: x2 :: x3 :: x4 :: x5 :: x6 :: x7 :: x8 :: x9 :: x10 :: x11 :: x12 :: x13 :: x14 :: x15 :: x16 :: M) B a w G:=S.rm 17
theorem St.d18 (S : St W0 G0 N (x0 :: x1 :: x2 :: x3 :: x4 :: x5 :: x6 :: x7 :: x8 :: x9 :: x10 :: x11 :: x12 :: x13 :: x14 :: x15 :: x16 :: x17 :: x18 :: M) B a w G) : St W0 G0 N (x0 :: x1 :: x2 :: x3 :: x4 :: x5 :: x6 :: x7 :: x8 :: x9 :: x10 :: x11 :: x12 :: x13 :: x14 :: x15 :: x16 :: x17 :: M) B a w G:=S.rm 18
theorem St.d19 (S : St W0 G0 N (x0 :: x1 :: x2 :: x3 :: x4 :: x5 :: x6 :: x7 :: x8 :: x9 :: x10 :: x11 :: x12 :: x13 :: x14 :: x15 :: x16 :: x17 :: x18 :: x19 :: M) B a w G) : St W0 G0 N (x0 :: x1 :: x2 :: x3 :: x4 :: x5 :: x6 :: x7 :: x8 :: x9 :: x10 :: x11 :: x12 :: x13 :: x14 :: x15 :: x16 :: x17 :: x18 :: M) B a w G:=S.rm 19
theorem St.d20 (S : St W0 G0 N (x0 :: x1 :: x2 :: x3 :: x4 :: x5 :: x6 :: x7 :: x8 :: x9 :: x10 :: x11 :: x12 :: x13 :: x14 :: x15 :: x16 :: x17 :: x18 :: x19 :: x20 :: M) B a w G) : St W0 G0 N (x0 :: x1 :: x2 :: x3 :: x4 :: x5 :: x6 :: x7 :: x8 :: x9 :: x10 :: x11 :: x12 :: x13 :: x14 :: x15 :: x16 :: x17 :: x18 :: x19 :: M) B a w G:=S.rm 20
theorem St.d21 (S : St W0 G0 N (x0 :: x1 :: x2 :: x3 :: x4 :: x5 :: x6 :: x7 :: x8 :: x9 :: x10 :: x11 :: x12 :: x13 :: x14 :: x15 :: x16 :: x17 :: x18 :: x19 :: x20 :: x21 :: M) B a w G) : St W0 G0 N (x0 :: x1 :: x2 :: x3 :: x4 :: x5 :: x6 :: x7 :: x8 :: x9 :: x10 :: x11 :: x12 :: x13 :: x14 :: x15 :: x16 :: x17 :: x18 :: x19 :: x20 :: M) B a w G:=S.rm 21
theorem St.d22 (S : St W0 G0 N (x0 :: x1 :: x2 :: x3 :: x4 :: x5 :: x6 :: x7 :: x8 :: x9 :: x10 :: x11 :: x12 :: x13 :: x14 :: x15 :: x16 :: x17 :: x18 :: x19 :: x20 :: x21 :: x22 :: M) B a w G) : St W0 G0 N (x0 :: x1 :: x2 :: x3 :: x4 :: x5 :: x6 :: x7 :: x8 :: x9 :: x10 :: x11 :: x12 :: x13 :: x14 :: x15 :: x16 :: x17 :: x18 :: x19 :: x20 :: x21 :: M) B a w G:=S.rm 22
theorem St.d23 (S : St W0 G0 N (x0 :: x1 :: x2 :: x3 :: x4 :: x5 :: x6 :: x7 :: x8 :: x9 :: x10 :: x11 :: x12 :: x13 :: x14 :: x15 :: x16 :: x17 :: x18 :: x19 :: x20 :: x21 :: x22 :: x23 :: M) B a w G) : St W0 G0 N (x0 :: x1 :: x2 :: x3 :: x4 :: x5 :: x6 :: x7 :: x8 :: x9 :: x10 :: x11 :: x12 :: x13 :: x14 :: x15 :: x16 :: x17 :: x18 :: x19 :: x20 :: x21 :: x22 :: M) B a w G:=S.rm 23
end
section
variable {x0 x1 x2 x3 x4 x5 x6 x7 x8 x9 x10 x11 x12 x13 x14 x15 y : BX} {M : List BX}
theorem St.n0 (S : St W0 G0 N L ((x0 :: M).set 0 y) a w G) : St W0 G0 N L (y :: M) a w G:=S
theorem St.n1 (S : St W0 G0 N L ((x0 :: x1 :: M).set 1 y) a w G) : St W0 G0 N L (x0 :: y :: M) a w G:=S
theorem St.n2 (S : St W0 G0 N L ((x0 :: x1 :: x2 :: M).set 2 y) a w G) : St W0 G0 N L (x0 :: x1 :: y :: M) a w G:=S
theorem St.n3 (S : St W0 G0 N L ((x0 :: x1 :: x2 :: x3 :: M).set 3 y) a w G) : St W0 G0 N L (x0 :: x1 :: x2 :: y :: M) a w G:=S
theorem St.n4 (S : St W0 G0 N L ((x0 :: x1 :: x2 :: x3 :: x4 :: M).set 4 y) a w G) : St W0 G0 N L (x0 :: x1 :: x2 :: x3 :: y :: M) a w G:=S
theorem St.n5 (S : St W0 G0 N L ((x0 :: x1 :: x2 :: x3 :: x4 :: x5 :: M).set 5 y) a w G) : St W0 G0 N L (x0 :: x1 :: x2 :: x3 :: x4 :: y :: M) a w G:=S
theorem St.n6 (S : St W0 G0 N L ((x0 :: x1 :: x2 :: x3 :: x4 :: x5 :: x6 :: M).set 6 y) a w G) : St W0 G0 N L (x0 :: x1 :: x2 :: x3 :: x4 :: x5 :: y :: M) a w G:=S
theorem St.n7 (S : St W0 G0 N L ((x0 :: x1 :: x2 :: x3 :: x4 :: x5 :: x6 :: x7 :: M).set 7 y) a w G) : St W0 G0 N L (x0 :: x1 :: x2 :: x3 :: x4 :: x5 :: x6 :: y :: M) a w G:=S
theorem St.n8 (S : St W0 G0 N L ((x0 :: x1 :: x2 :: x3 :: x4 :: x5 :: x6 :: x7 :: x8 :: M).set 8 y) a w G) : St W0 G0 N L (x0 :: x1 :: x2 :: x3 :: x4 :: x5 :: x6 :: x7 :: y :: M) a w G:=S
theorem St.n9 (S : St W0 G0 N L ((x0 :: x1 :: x2 :: x3 :: x4 :: x5 :: x6 :: x7 :: x8 :: x9 :: M).set 9 y) a w G) : St W0 G0 N L (x0 :: x1 :: x2 :: x3 :: x4 :: x5 :: x6 :: x7 :: x8 :: y :: M) a w G:=S
theorem St.n10 (S : St W0 G0 N L ((x0 :: x1 :: x2 :: x3 :: x4 :: x5 :: x6 :: x7 :: x8 :: x9 :: x10 :: M).set 10 y) a w G) : St W0 G0 N L (x0 :: x1 :: x2 :: x3 :: x4 :: x5 :: x6 :: x7 :: x8 :: x9 :: y :: M) a w G:=S
theorem St.n11 (S : St W0 G0 N L ((x0 :: x1 :: x2 :: x3 :: x4 :: x5 :: x6 :: x7 :: x8 :: x9 :: x10 :: x11 :: M).set 11 y) a w G) : St W0 G0 N L (x0 :: x1 :: x2 :: x3 :: x4 :: x5 :: x6 :: x7 :: x8 :: x9 :: x10 :: y :: M) a w G:=S
theorem St.n12 (S : St W0 G0 N L ((x0 :: x1 :: x2 :: x3 :: x4 :: x5 :: x6 :: x7 :: x8 :: x9 :: x10 :: x11 :: x12 :: M).set 12 y) a w G) : St W0 G0 N L (x0 :: x1 :: x2 :: x3 :: x4 :: x5 :: x6 :: x7 :: x8 :: x9 :: x10 :: x11 :: y :: M) a w G:=S
theorem St.n13 (S : St W0 G0 N L ((x0 :: x1 :: x2 :: x3 :: x4 :: x5 :: x6 :: x7 :: x8 :: x9 :: x10 :: x11 :: x12 :: x13 :: M).set 13 y) a w G) : St W0 G0 N L (x0 :: x1 :: x2 :: x3 :: x4 :: x5 :: x6 :: x7 :: x8 :: x9 :: x10 :: x11 :: x12 :: y :: M) a w G:=S
end
theorem MT.self {v : Value} {G : Gh} : (MT.ex v).t v G:=rfl
def OpR (P : Program) (o : Oper) (a : Act) (w : World) (G : Gh) (τ : MT) : Prop :=
  ∀ (Q : Exit → Act → World → Prop) (K : Act → World → Prop),(∀ v w' G',τ.t v G' → Nxt w G w' G' → K (a.put o.dst v) w') → o.wp P a w K Q
variable {ops : Array Oper} {rest : List Oper} {o : Oper} {Q : Exit → Act → World → Prop}
theorem St.step (S : St W0 G0 N L B a w G) {d : Nat} {τ : MT} (h : OpR P o a w G τ) (hd : o.dst = some d) (hg : o.guard = none) (hdN : (decide (d < N)) = true) (hf : fresh d L = true)
    (K : ∀ a' w' G',St W0 G0 N ((d,τ) :: L) B a' w' G' → wpList P ops Q rest a' w') : wpList P ops Q (o :: rest) a w :=
  wpList_plain hg fun K' hK=>h Q K' fun v w' G' hv hn=>by
    rw [hd]
    exact hK _ _ (K _ _ _ (S.put (of_decide_eq_true hdN) hf hv hn))
theorem St.s (S : St W0 G0 N L B a w G) {d : Nat} {τ : MT} (h : OpR P o a w G τ) (hd : o.dst = some d) (K : ∀ a' w' G',St W0 G0 N ((d,τ) :: L) B a' w' G' → wpList P ops Q rest a' w') (hg : o.guard = none:=by rfl) (hdN : (decide (d < N)) = true:=by rfl) (hf : fresh d L = true:=by rfl) : wpList P ops Q (o :: rest) a w :=
  S.step h hd hg hdN hf K
theorem St.stepG (S : St W0 G0 N L B a w G) {d j dj : Nat} {b : Bool} {τ : MT} (k : Nat) (h : OpR P o a w G τ) (hd : o.dst = some d) (hg : o.guard = some (j, b)) (hj : (ops[j]?).bind (·.dst) = some dj)
    (hk : L[k]? = some (dj,.ex (.bool b))) (hdN : (decide (d < N)) = true) (hf : fresh d L = true)
    (K : ∀ a' w' G',St W0 G0 N ((d,τ) :: L) B a' w' G' → wpList P ops Q rest a' w') : wpList P ops Q (o :: rest) a w:=by
  have he:=S.e k hk
  have hlt : dj < a.tmps.size:=by
    rcases Nat.lt_or_ge dj a.tmps.size with h1 | h1
    · exact h1
    · simp [tm,Array.getElem?_eq_none h1,undef] at he
  have hw : Region.wanted o (yielded ops a.tmps) = true:=by
    have hx : a.tmps[dj] = .bool b:=by simpa [tm,hlt] using he
    simp [Region.wanted,hg,yielded,hj,hlt,hx]
  refine wpList_step fun K' hK=>?_
  rw [if_pos hw]
  exact h Q K' fun v w' G' hv hn=>by
    rw [hd]
    exact hK _ _ (K _ _ _ (S.put (of_decide_eq_true hdN) hf hv hn))
theorem St.skipG (S : St W0 G0 N L B a w G) {d j dj : Nat} {b : Bool} (k : Nat) (hd : o.dst = some d) (hg : o.guard = some (j, !b)) (hj : (ops[j]?).bind (·.dst) = some dj)
    (hk : L[k]? = some (dj,.ex (.bool b))) (hdN : (decide (d < N)) = true) (hf : fresh d L = true)
    (K : ∀ a' w' G',St W0 G0 N ((d,.ex undef) :: L) B a' w' G' → wpList P ops Q rest a' w') : wpList P ops Q (o :: rest) a w:=by
  have he:=S.e k hk
  have hlt : dj < a.tmps.size:=by
    rcases Nat.lt_or_ge dj a.tmps.size with h1 | h1
    · exact h1
    · simp [tm,Array.getElem?_eq_none h1,undef] at he
  have hw : Region.wanted o (yielded ops a.tmps) = false:=by
    have hx : a.tmps[dj] = .bool b:=by simpa [tm,hlt] using he
    simp [Region.wanted,hg,yielded,hj,hlt,hx]
  refine wpList_step fun K' hK=>?_
  rw [if_neg (by simp [hw])]
  rw [hd]
  exact hK _ _ (K _ _ _ (S.put (of_decide_eq_true hdN) hf rfl (Nxt.refl S.ok)))
end
end Go.Proofs.YtboicjlbbbodgaaGreatDoor
namespace Go.Proofs.YtboicjlbbbodgaaGreatDoor
open Go.RowKit (Below)
section
variable {P : Program} {o : Oper} {a : Act} {w : World} {G : Gh} {τ : MT} {W0 : World}
theorem OpR.run {v : Value} (hok : Gok w G) (h : (execOp a.eval o).run P w = .ok (.value v) w) (hv : τ.t v G) : OpR P o a w G τ :=
  fun Q K hK=>by unfold Oper.wp;rw [h];exact hK v w G hv (Nxt.refl hok)
theorem OpR.run' {v : Value} {w' : World} {G' : Gh} (h : (execOp a.eval o).run P w = .ok (.value v) w') (hn : Nxt w G w' G') (hv : τ.t v G') : OpR P o a w G τ :=
  fun Q K hK=>by unfold Oper.wp;rw [h];exact hK v w' G' hv hn
theorem OpR.mv {x : Operand} (hok : Gok w G) (ho : o.op = .move x) (h : τ.t (a.eval x) G) : OpR P o a w G τ :=
  .run hok (by simp [execOp,ho]) h
theorem OpR.asn {x : Operand} (hok : Gok w G) (ho : o.op = .assign x) (h : τ.t (a.eval x) G) : OpR P o a w G τ :=
  .run hok (by simp [execOp,ho]) h
theorem OpR.pick {c x y : Operand} {b : Bool} (hok : Gok w G) (ho : o.op = .pick c x y) (hc : a.eval c = .bool b) (h : τ.t (if b then a.eval x else a.eval y) G) : OpR P o a w G τ :=
  .run hok (by simp [execOp,ho,hc,asBool]) h
theorem OpR.ext2a {x : Operand} {τ' : MT} (hok : Gok w G) (ho : o.op = .extract x 0) (h : (MT.tup2 τ τ').t (a.eval x) G) : OpR P o a w G τ:=by
  obtain ⟨u,v,h,h1,h2⟩:=h
  exact .run hok (by simp [execOp,ho,h,Instr.extract]) h1
theorem OpR.ext2b {x : Operand} {τ' : MT} (hok : Gok w G) (ho : o.op = .extract x 1) (h : (MT.tup2 τ' τ).t (a.eval x) G) : OpR P o a w G τ:=by
  obtain ⟨u,v,h,h1,h2⟩:=h
  exact .run hok (by simp [execOp,ho,h,Instr.extract]) h2
theorem OpR.ext3a {x : Operand} {τ1 τ2 : MT} (hok : Gok w G) (ho : o.op = .extract x 0) (h : (MT.tup3 τ τ1 τ2).t (a.eval x) G) : OpR P o a w G τ:=by
  obtain ⟨u,v,z,h,h1,h2,h3⟩:=h
  exact .run hok (by simp [execOp,ho,h,Instr.extract]) h1
theorem OpR.ext3b {x : Operand} {τ1 τ2 : MT} (hok : Gok w G) (ho : o.op = .extract x 1) (h : (MT.tup3 τ1 τ τ2).t (a.eval x) G) : OpR P o a w G τ:=by
  obtain ⟨u,v,z,h,h1,h2,h3⟩:=h
  exact .run hok (by simp [execOp,ho,h,Instr.extract]) h2
theorem OpR.ext3c {x : Operand} {τ1 τ2 : MT} (hok : Gok w G) (ho : o.op = .extract x 2) (h : (MT.tup3 τ1 τ2 τ).t (a.eval x) G) : OpR P o a w G τ:=by
  obtain ⟨u,v,z,h,h1,h2,h3⟩:=h
  exact .run hok (by simp [execOp,ho,h,Instr.extract]) h3
theorem OpR.iadd {x y : Operand} {k : IntKind} {t t' : TypeId} {m n : Int} (hok : Gok w G) (ho : o.op = .binOp .add t x y t') (hx : a.eval x = .int k m) (hy : a.eval y = .int k n)
    (h : τ.t (.int k (k.wrap (m + n))) G) : OpR P o a w G τ:=.run hok (by simp [execOp,ho,hx,hy,eqGuard,binOp,Op.intArith]) h
theorem OpR.isub {x y : Operand} {k : IntKind} {t t' : TypeId} {m n : Int} (hok : Gok w G) (ho : o.op = .binOp .sub t x y t') (hx : a.eval x = .int k m) (hy : a.eval y = .int k n)
    (h : τ.t (.int k (k.wrap (m - n))) G) : OpR P o a w G τ:=.run hok (by simp [execOp,ho,hx,hy,eqGuard,binOp,Op.intArith]) h
theorem OpR.imul {x y : Operand} {k : IntKind} {t t' : TypeId} {m n : Int} (hok : Gok w G) (ho : o.op = .binOp .mul t x y t') (hx : a.eval x = .int k m) (hy : a.eval y = .int k n)
    (h : τ.t (.int k (k.wrap (m * n))) G) : OpR P o a w G τ:=.run hok (by simp [execOp,ho,hx,hy,eqGuard,binOp,Op.intArith]) h
theorem OpR.iquo {x y : Operand} {k : IntKind} {t t' : TypeId} {m n : Int} (hok : Gok w G) (ho : o.op = .binOp .quo t x y t') (hx : a.eval x = .int k m) (hy : a.eval y = .int k n)
    (h0 : n ≠ 0) (h : τ.t (.int k (k.wrap (m.tdiv n))) G) : OpR P o a w G τ:=.run hok (by simp [execOp,ho,hx,hy,eqGuard,binOp,Op.intDiv,h0]) h
theorem OpR.irem {x y : Operand} {k : IntKind} {t t' : TypeId} {m n : Int} (hok : Gok w G) (ho : o.op = .binOp .rem t x y t') (hx : a.eval x = .int k m) (hy : a.eval y = .int k n)
    (h0 : n ≠ 0) (h : τ.t (.int k (m.tmod n)) G) : OpR P o a w G τ:=.run hok (by simp [execOp,ho,hx,hy,eqGuard,binOp,Op.intDiv,h0]) h
theorem OpR.ieql {x y : Operand} {k : IntKind} {t t' : TypeId} {m n : Int} (hok : Gok w G) (ho : o.op = .binOp .eql t x y t') (hx : a.eval x = .int k m) (hy : a.eval y = .int k n)
    (h : τ.t (.bool (m == n)) G) : OpR P o a w G τ:=.run hok (by simp [execOp,ho,hx,hy,eqGuard,binOp,Op.intCmp]) h
theorem OpR.ineq {x y : Operand} {k : IntKind} {t t' : TypeId} {m n : Int} (hok : Gok w G) (ho : o.op = .binOp .neq t x y t') (hx : a.eval x = .int k m) (hy : a.eval y = .int k n)
    (h : τ.t (.bool (m != n)) G) : OpR P o a w G τ:=.run hok (by simp [execOp,ho,hx,hy,eqGuard,binOp,Op.intCmp]) h
theorem OpR.ilss {x y : Operand} {k : IntKind} {t t' : TypeId} {m n : Int} (hok : Gok w G) (ho : o.op = .binOp .lss t x y t') (hx : a.eval x = .int k m) (hy : a.eval y = .int k n)
    (h : τ.t (.bool (decide (m < n))) G) : OpR P o a w G τ:=.run hok (by simp [execOp,ho,hx,hy,eqGuard,binOp,Op.intCmp]) h
theorem OpR.ileq {x y : Operand} {k : IntKind} {t t' : TypeId} {m n : Int} (hok : Gok w G) (ho : o.op = .binOp .leq t x y t') (hx : a.eval x = .int k m) (hy : a.eval y = .int k n)
    (h : τ.t (.bool (decide (m ≤ n))) G) : OpR P o a w G τ:=.run hok (by simp [execOp,ho,hx,hy,eqGuard,binOp,Op.intCmp]) h
theorem OpR.igtr {x y : Operand} {k : IntKind} {t t' : TypeId} {m n : Int} (hok : Gok w G) (ho : o.op = .binOp .gtr t x y t') (hx : a.eval x = .int k m) (hy : a.eval y = .int k n)
    (h : τ.t (.bool (decide (m > n))) G) : OpR P o a w G τ:=.run hok (by simp [execOp,ho,hx,hy,eqGuard,binOp,Op.intCmp]) h
theorem OpR.igeq {x y : Operand} {k : IntKind} {t t' : TypeId} {m n : Int} (hok : Gok w G) (ho : o.op = .binOp .geq t x y t') (hx : a.eval x = .int k m) (hy : a.eval y = .int k n)
    (h : τ.t (.bool (decide (m ≥ n))) G) : OpR P o a w G τ:=.run hok (by simp [execOp,ho,hx,hy,eqGuard,binOp,Op.intCmp]) h
theorem OpR.ineg {x : Operand} {k : IntKind} {t : TypeId} {m : Int} (hok : Gok w G) (ho : o.op = .unOp .neg t x) (hx : a.eval x = .int k m)
    (h : τ.t (.int k (k.wrap (0 - m))) G) : OpR P o a w G τ:=.run hok (by simp [execOp,ho,hx,Op.unary,Op.intArith]) h
theorem OpR.bnot {x : Operand} {t : TypeId} {b : Bool} (hok : Gok w G) (ho : o.op = .unOp .not t x) (hx : a.eval x = .bool b)
    (h : τ.t (.bool (!b)) G) : OpR P o a w G τ:=.run hok (by simp [execOp,ho,hx,Op.unary]) h
theorem OpR.shr {x y : Operand} {k k' : IntKind} {t t' : TypeId} {m n : Int} (hok : Gok w G) (ho : o.op = .binOp .shr t x y t') (hx : a.eval x = .int k m) (hy : a.eval y = .int k' n)
    (h0 : 0 ≤ n) (h : τ.t (.int k (m.fdiv (2 ^ (min n.toNat k.bits)))) G) : OpR P o a w G τ:=.run hok (by simp [execOp,ho,hx,hy,eqGuard,binOp,Op.shift,Int.not_lt.2 h0]) h
theorem OpR.shl {x y : Operand} {k k' : IntKind} {t t' : TypeId} {m n : Int} (hok : Gok w G) (ho : o.op = .binOp .shl t x y t') (hx : a.eval x = .int k m) (hy : a.eval y = .int k' n)
    (h0 : 0 ≤ n) (h : τ.t (.int k (k.wrap (m * 2 ^ (min n.toNat k.bits)))) G) : OpR P o a w G τ:=.run hok (by simp [execOp,ho,hx,hy,eqGuard,binOp,Op.shift,Int.not_lt.2 h0]) h
theorem OpR.bits {op : BinOp} {x y : Operand} {k : IntKind} {t t' : TypeId} {m n : Int} (hok : Gok w G) (ho : o.op = .binOp op t x y t') (hx : a.eval x = .int k m) (hy : a.eval y = .int k n)
    (h : (op = .and ∧ τ.t (.int k (k.wrap (BitVec.ofInt k.bits m &&& BitVec.ofInt k.bits n).toNat)) G) ∨ (op = .or ∧ τ.t (.int k (k.wrap (BitVec.ofInt k.bits m ||| BitVec.ofInt k.bits n).toNat)) G)) : OpR P o a w G τ:=by
  rcases h with ⟨rfl,h⟩ | ⟨rfl,h⟩
  · exact .run hok (by simp [execOp,ho,hx,hy,eqGuard,binOp,Op.intBits]) h
  · exact .run hok (by simp [execOp,ho,hx,hy,eqGuard,binOp,Op.intBits]) h
def intTy (P : Program) (t : TypeId) (k : IntKind) : Bool:=match P.underlying t with | some (.int k')=>k' == k | _=>false
theorem OpR.conv {x : Operand} {k k0 : IntKind} {t t' : TypeId} {m : Int} (hok : Gok w G) (ho : o.op = .convert t t' x) (hx : a.eval x = .int k0 m) (h1 : intTy P t k0 = true) (h2 : intTy P t' k = true)
    (h : τ.t (.int k (k.wrap m)) G) : OpR P o a w G τ:=by
  unfold intTy at h1 h2
  split at h1 <;> rename_i h1' <;> simp at h1
  split at h2 <;> rename_i h2' <;> simp at h2
  subst h1 h2
  exact .run hok (by simp [execOp,ho,hx,convert,underlying,h1',h2',Conv.intToInt]) h
theorem OpR.beql {x y : Operand} {t t' : TypeId} {m n : Bool} (hok : Gok w G) (ho : o.op = .binOp .eql t x y t') (hx : a.eval x = .bool m) (hy : a.eval y = .bool n) (ht : P.underlying t = some .bool)
    (h : τ.t (.bool (m == n)) G) : OpR P o a w G τ:=.run hok (by simp only [execOp,ho,hx,hy,eqGuard,Sem.run_bind,Sem.run_pure,Result.andThen_ok];simp;rw [run_eql_bool w t m n ht];rfl) h
def tyS (P : Program) (t : TypeId) (k : Option Nat) : Bool :=
  match P.underlying t,P.info? t,k with
  | some (.struct _),some i,some n=>i.size == n
  | some (.array _ _),some i,some n=>i.size == n
  | some (.struct _),_,none=>false
  | some (.array _ _),_,none=>false
  | some _,some i,none=>i.size == 1
  | _,_,_=>false
theorem tyS_some {t : TypeId} {n : Nat} (h : tyS P t (some n) = true) (w : World) : (isAgg t).run P w = .ok true w ∧ (sizeOf t).run P w = .ok n w:=by
  unfold tyS at h
  split at h
  · rename_i h1 h2 h3;cases h3
    have h4:=by simpa using h
    exact ⟨by simp [isAgg,run_underlying h1],by simp [sizeOf,typeInfo,h2,h4]⟩
  · rename_i h1 h2 h3;cases h3
    have h4:=by simpa using h
    exact ⟨by simp [isAgg,run_underlying h1],by simp [sizeOf,typeInfo,h2,h4]⟩
  all_goals (first | cases h | (rename_i h3;cases h3))
theorem tyS_none {t : TypeId} (h : tyS P t none = true) (w : World) : (isAgg t).run P w = .ok false w ∧ (sizeOf t).run P w = .ok 1 w:=by
  unfold tyS at h
  split at h
  case h_5 d i hn ha h1 h2 h3 =>
    have h4:=by simpa using h
    refine ⟨?_,by simp [sizeOf,typeInfo,h2,h4]⟩
    simp only [isAgg,Sem.run_bind,run_underlying h1,Result.andThen_ok]
    cases d <;> first | rfl | exact absurd rfl (hn _) | exact absurd rfl (ha _ _)
  all_goals (first | cases h | (rename_i h3;cases h3))
theorem load_cells {b i n : Nat} {cs : Array Value} {ty : TypeId} {fr : Nat × Nat} (hb : w.heap[b]? = some (.cells cs ty fr)) (hn : i + n ≤ cs.size) :
    (loadCells ⟨b,i,none⟩ n).run P w = .ok (cs.extract i (i + n)) w:=by
  have hl : (cs.extract i (i + n)).toList.length = n:=by simp;omega
  have:=run_loadCells_list (P:=P) (w:=w) ⟨b,i,none⟩ (cs.extract i (i + n)).toList (fun j v hj=>by
    have hjl : j < n:=by
      have:=(List.getElem?_eq_some_iff.1 hj).1;omega
    have hx : cs[i + j]? = some v:=by
      simp only [Array.getElem?_toList] at hj
      rw [Array.getElem?_extract] at hj
      split at hj
      · exact hj
      · cases hj
    unfold Addr.add
    by_cases h0 : j = 0
    · subst h0;simpa [World.cell?,hb] using hx
    · simpa [h0,World.cell?,hb] using hx)
  rw [hl] at this
  simpa only [Array.toArray_toList] using this
theorem load_var {b i : Nat} {t ty : TypeId} {k : Option Nat} {cs : Array Value} {fr : Nat × Nat} (hT : tyS P t k = true) (hb : w.heap[b]? = some (.cells cs ty fr)) :
    match k with
    | some n=>i + n ≤ cs.size → (loadVar t ⟨b,i,none⟩).run P w = .ok (.agg (cs.extract i (i + n))) w
    | none=>∀ v,cs[i]? = some v → (loadVar t ⟨b,i,none⟩).run P w = .ok v w:=by
  cases k with
  | some n =>
    intro hn
    obtain ⟨h1,h2⟩:=tyS_some hT w
    simp [loadVar,h1,h2,load_cells hb hn]
  | none =>
    intro v hv
    obtain ⟨h1,h2⟩:=tyS_none hT w
    have hc : w.cell? ⟨b,i,none⟩ = some v:=by simpa [World.cell?,hb] using hv
    simp [loadVar,h1,hc]
theorem load_whole {b : Nat} {t ty : TypeId} {k : Option Nat} {v : Value} (hT : tyS P t k = true) (hb : w.heap[b]? = some (.cells v.cells ty (0, 0))) (hs : Shaped k v) :
    (loadVar t ⟨b,0,none⟩).run P w = .ok v w:=by
  cases k with
  | some n =>
    obtain ⟨cs,rfl,hn,_⟩:=hs
    have:=load_var (i:=0) hT hb
    simp only [Value.cells] at this
    have h:=this (by omega)
    rw [h];simp [← hn]
  | none =>
    have:=load_var (i:=0) hT hb
    exact this v (by rw [hs.1];rfl)
theorem OpR.ldCell {x : Operand} {t ty : TypeId} {b i : Nat} {k : Option Nat} {τb : MT} (hok : Gok w G) (ho : o.op = .load t x) (hx : a.eval x = .pointer (some ⟨b, i, none⟩)) (hb : BX.ok ⟨b, ty, k, τb⟩ W0 w G)
    (hT : tyS P t none = true) (h : ∀ v,τb.t v G → Shaped k v → ∃ u,v.cells[i]? = some u ∧ τ.t u G) : OpR P o a w G τ:=by
  obtain ⟨_,_,v,hv,hs,ht⟩:=hb
  obtain ⟨u,hu,hτ⟩:=h v ht hs
  exact .run hok (by simp [execOp,ho,hx,Instr.loadAt,Instr.sureAddr,load_var (i:=i) hT hv u hu]) hτ
theorem OpR.ldPart {x : Operand} {t ty : TypeId} {b i n : Nat} {k : Option Nat} {τb : MT} (hok : Gok w G) (ho : o.op = .load t x) (hx : a.eval x = .pointer (some ⟨b, i, none⟩)) (hb : BX.ok ⟨b, ty, k, τb⟩ W0 w G)
    (hT : tyS P t (some n) = true) (h : ∀ v,τb.t v G → Shaped k v → i + n ≤ v.cells.size ∧ τ.t (.agg (v.cells.extract i (i + n))) G) : OpR P o a w G τ:=by
  obtain ⟨_,_,v,hv,hs,ht⟩:=hb
  obtain ⟨hu,hτ⟩:=h v ht hs
  exact .run hok (by simp [execOp,ho,hx,Instr.loadAt,Instr.sureAddr,load_var (i:=i) hT hv hu]) hτ
theorem OpR.ldG1 {x : Operand} {t ty : TypeId} {b i : Nat} {cs : Array Value} {fr : Nat × Nat} {v : Value} (hok : Gok w G) (ho : o.op = .load t x) (hx : a.eval x = .pointer (some ⟨b, i, none⟩)) (hb : G b = some (.cells cs ty fr))
    (hT : tyS P t none = true) (hv : cs[i]? = some v) (h : τ.t v G) : OpR P o a w G τ :=
  .run hok (by simp [execOp,ho,hx,Instr.loadAt,Instr.sureAddr,load_var (i:=i) hT (hok _ _ hb) v hv]) h
def fldOff (P : Program) (s f : Nat) : Option Nat :=
  match P.underlying s with
  | some (.struct fs)=>(fs[f]?).bind fun g=>(P.info? g.type).bind fun i=>if i.size = 0 then none else some g.offset
  | _=>none
theorem addr_add {b i n : Nat} : (⟨b,i,none⟩ : Addr).add n = ⟨b,i + n,none⟩:=by
  unfold Addr.add;split
  · rename_i h;subst h;rfl
  · rfl
theorem OpR.fldA {x : Operand} {s f b i off : Nat} (hok : Gok w G) (ho : o.op = .fieldAddr s x f) (hx : a.eval x = .pointer (some ⟨b, i, none⟩)) (hf : fldOff P s f = some off)
    (h : τ.t (.pointer (some ⟨b,i + off,none⟩)) G) : OpR P o a w G τ:=by
  unfold fldOff at hf
  split at hf
  · rename_i fs hs
    cases hg : fs[f]? with
    | none=>simp [hg] at hf
    | some g =>
      cases hi : P.info? g.type with
      | none=>simp [hg,hi] at hf
      | some inf =>
        simp only [hg,hi,Option.bind_some] at hf
        split at hf
        · cases hf
        · rename_i h0
          cases hf
          exact .run hok (by simp [execOp,ho,hx,Instr.fieldAt,run_underlying hs,hg,Instr.sureAddr,fieldPlace,sizeOf,typeInfo,hi,h0,addr_add]) h
  · cases hf
end
end Go.Proofs.YtboicjlbbbodgaaGreatDoor
namespace Go.Proofs.YtboicjlbbbodgaaGreatDoor
open Go.RowKit (Below)
section
variable {P : Program} {W0 : World} {G0 : Gh} {N : Nat} {L : List (Nat × MT)} {B : List BX} {a : Act} {w : World} {G : Gh}
variable {ops : Array Oper} {rest : List Oper} {o : Oper} {Q : Exit → Act → World → Prop}
theorem St.newVar (S : St W0 G0 N L B a w G) {v : Value} {t : TypeId} {k : Option Nat} {τ : MT} (hs : Shaped k v) (hv : τ.t v G) :
    St W0 G0 N L (⟨w.heap.size,t,k,τ⟩ :: B) a (w.alloc (.cells v.cells t)) G where
  nxt:=S.nxt.trans (Nxt.alloc S.ok _)
  size:=S.size
  dfr:=S.dfr
  ty:=S.ty
  bx:=fun i x h=>by
    cases i with
    | zero=>cases h;exact ⟨S.nxt.below.size,S.ok.none (Nat.le_refl _),v,heap_alloc_new w _,hs,hv⟩
    | succ i=>exact (S.bx i x h).nxt (Nxt.alloc S.ok _)
  nd:=fun i j x y hx hy hij=>by
    cases i with
    | zero =>
      cases hx
      cases j with
      | zero=>exact absurd rfl hij
      | succ j=>have:=(S.bx j y hy).lt;exact Nat.ne_of_gt this
    | succ i =>
      cases j with
      | zero=>cases hy;have:=(S.bx i x hx).lt;exact Nat.ne_of_lt this
      | succ j=>exact S.nd i j x y hx hy (by omega)
theorem zero_run {t : TypeId} {z : Value} (hz : (P.info? t).bind (·.zero) = some z) : (zeroValue t).run P w = .ok z w:=by
  cases hi : P.info? t with
  | none=>simp [hi] at hz
  | some i=>simp [hi] at hz;simp [zeroValue,typeInfo,hi,hz]
theorem St.alloc (S : St W0 G0 N L B a w G) {d : Nat} {t : TypeId} {k : Option Nat} {z : Value} (ho : o.op = .alloc t) (hd : o.dst = some d) (hg : o.guard = none)
    (hz : (P.info? t).bind (·.zero) = some z) (hs : Shaped k z) (hdN : (decide (d < N)) = true) (hf : fresh d L = true)
    (K : ∀ b a' w' G',St W0 G0 N ((d,.ex (.pointer (some ⟨b,0,none⟩))) :: L) (⟨b,t,k,.ex z⟩ :: B) a' w' G' → wpList P ops Q rest a' w') : wpList P ops Q (o :: rest) a w :=
  wpList_plain hg fun K' hK=>by
    have hr : (execOp a.eval o).run P w = .ok (.value (.pointer (some ⟨w.heap.size,0,none⟩))) (w.alloc (.cells z.cells t)):=by
      simp [execOp,ho,Instr.alloc,zero_run hz,Go.newVar,newRow]
    unfold Oper.wp
    rw [hr]
    simp only [Oper.upon,hd]
    exact hK _ _ (K w.heap.size _ _ G ((S.newVar hs rfl).put (of_decide_eq_true hdN) hf rfl (Nxt.refl (S.ok.alloc _))))
theorem St.boxop (S : St W0 G0 N L B a w G) {d : Nat} {t : TypeId} {k : Option Nat} {x : Operand} {τ : MT} (h : τ.t (a.eval x) G) (hs : Shaped k (a.eval x)) (ho : o.op = .box t x) (hd : o.dst = some d) (hg : o.guard = none)
    (hdN : (decide (d < N)) = true) (hf : fresh d L = true)
    (K : ∀ b a' w' G',St W0 G0 N ((d,.ex (.pointer (some ⟨b,0,none⟩))) :: L) (⟨b,t,k,τ⟩ :: B) a' w' G' → wpList P ops Q rest a' w') : wpList P ops Q (o :: rest) a w :=
  wpList_plain hg fun K' hK=>by
    have hr : (execOp a.eval o).run P w = .ok (.value (.pointer (some ⟨w.heap.size,0,none⟩))) (w.alloc (.cells (a.eval x).cells t)):=by
      simp [execOp,ho,Instr.box,Go.newVar,newRow]
    unfold Oper.wp
    rw [hr]
    simp only [Oper.upon,hd]
    exact hK _ _ (K w.heap.size _ _ G ((S.newVar hs h).put (of_decide_eq_true hdN) hf rfl (Nxt.refl (S.ok.alloc _))))
theorem setRow_other (w : World) (g k : Nat) (cs : Array Value) (h : g ≠ k) : (w.setRow g cs).heap[k]? = w.heap[k]?:=by
  simp only [World.setRow,Array.getElem?_modify,if_neg h]
theorem setRow_size (w : World) (g : Nat) (cs : Array Value) : (w.setRow g cs).heap.size = w.heap.size:=by simp [World.setRow]
theorem St.setVar (S : St W0 G0 N L B a w G) (i : Nat) {x : BX} (hi : B[i]? = some x) {v : Value} {τ : MT} (hs : Shaped x.k v) (hv : τ.t v G) :
    St W0 G0 N L (B.set i ⟨x.b,x.ty,x.k,τ⟩) a (w.setRow x.b v.cells) G where
  nxt:=by
    obtain ⟨h1,h2,u,hu,_⟩:=S.bx i x hi
    refine ⟨⟨S.nxt.below.os,S.nxt.below.tape,S.nxt.below.output,by rw [setRow_size];exact S.nxt.below.size,fun k hk=>?_⟩,S.nxt.agree,S.nxt.le,fun b o hb=>?_⟩
    · rw [setRow_other _ _ _ _ (by omega)];exact S.nxt.below.block k hk
    · rw [setRow_other _ _ _ _ (fun e=>by rw [e,hb] at h2;cases h2)];exact S.ok b o hb
  size:=S.size
  dfr:=S.dfr
  ty:=S.ty
  bx:=fun j y hj=>by
    rw [List.getElem?_set] at hj
    split at hj
    · rename_i e;subst e
      split at hj
      · cases hj
        obtain ⟨h1,h2,u,hu,_⟩:=S.bx i x hi
        exact ⟨h1,h2,v,setRow_heap w _ _ _ _ _ hu,hs,hv⟩
      · cases hj
    · rename_i hne
      obtain ⟨h1,h2,u,hu,hsu,htu⟩:=S.bx j y hj
      exact ⟨h1,h2,u,by rw [setRow_other _ _ _ _ (S.nd i j x y hi hj hne)];exact hu,hsu,htu⟩
  nd:=fun j k y z hj hk hjk=>by
    have key : ∀ (j : Nat) (y : BX),(B.set i ⟨x.b,x.ty,x.k,τ⟩)[j]? = some y → ∃ y' : BX,B[j]? = some y' ∧ y'.b = y.b:=fun j y hj=>by
      rw [List.getElem?_set] at hj
      split at hj
      · rename_i e;subst e
        split at hj
        · cases hj;exact ⟨x,hi,rfl⟩
        · cases hj
      · exact ⟨y,hj,rfl⟩
    obtain ⟨y',hy',e1⟩:=key j y hj
    obtain ⟨z',hz',e2⟩:=key k z hk
    rw [← e1,← e2]
    exact S.nd j k y' z' hy' hz' hjk
theorem shaped_cells {k : Option Nat} {v : Value} (h : Shaped k v) : ∀ c ∈ v.cells.toList,c.oneCell' = true:=by
  cases k with
  | some n=>obtain ⟨cs,rfl,_,h⟩:=h;exact h
  | none=>rw [h.1];intro c hc;simp at hc;subst hc;exact h.2
theorem shaped_size {k : Option Nat} {v : Value} (h : Shaped k v) : v.cells.size = k.getD 1:=by
  cases k with
  | some n=>obtain ⟨cs,rfl,h,_⟩:=h;exact h
  | none=>rw [h.1];rfl
theorem tyS_size {t : TypeId} {k : Option Nat} (h : tyS P t k = true) : (sizeOf t).run P w = .ok (k.getD 1) w:=by
  cases k with
  | some n=>exact (tyS_some h w).2
  | none=>exact (tyS_none h w).2
theorem St.store (S : St W0 G0 N L B a w G) (i : Nat) {b : Nat} {ty t : TypeId} {k : Option Nat} {τ0 τ : MT} {x y : Operand} (ho : o.op = .store t x y) (hd : o.dst = none) (hg : o.guard = none)
    (hi : B[i]? = some ⟨b,ty,k,τ0⟩) (hx : a.eval x = .pointer (some ⟨b,0,none⟩)) (hT : tyS P t k = true) (hv : τ.t (a.eval y) G) (hs : Shaped k (a.eval y))
    (K : ∀ w',St W0 G0 N L (B.set i ⟨b,ty,k,τ⟩) a w' G → wpList P ops Q rest a w') : wpList P ops Q (o :: rest) a w :=
  wpList_plain hg fun K' hK=>by
    obtain ⟨_,_,u,hu,hsu,_⟩:=S.bx i _ hi
    have hsz : (a.eval y).cells.size = u.cells.size:=by rw [shaped_size hs,shaped_size hsu]
    have hst:=run_storeCells_at b 0 ty (a.eval y).cells.toList 0 u.cells w (P:=P) hu (by simp;omega) (shaped_cells hs)
    have hr : (execOp a.eval o).run P w = .ok .skip (w.setRow b (a.eval y).cells):=by
      simp only [execOp,ho,Instr.storeAt,hx,Instr.sureAddr,storeVar,Sem.run_bind,Sem.run_pure,Result.andThen_ok,tyS_size hT,shaped_size hs]
      simp only [Nat.add_zero,List.take_zero,List.nil_append,Nat.zero_add] at hst
      rw [List.drop_of_length_le (by simp;omega),List.append_nil,Array.toArray_toList] at hst
      simp [hst]
    unfold Oper.wp
    rw [hr]
    simp only [Oper.upon,hd]
    exact hK _ _ (K _ (S.setVar i hi hs hv))
theorem St.storeAt (S : St W0 G0 N L B a w G) (i : Nat) {b j n : Nat} {ty t : TypeId} {k' : Option Nat} {τ0 τ : MT} {x y : Operand} (ho : o.op = .store t x y) (hd : o.dst = none) (hg : o.guard = none)
    (hi : B[i]? = some ⟨b,ty,some n,τ0⟩) (hx : a.eval x = .pointer (some ⟨b,j,none⟩)) (hT : tyS P t k' = true) (hs : Shaped k' (a.eval y)) (hn : j + k'.getD 1 ≤ n)
    (hv : ∀ cs : Array Value,cs.size = n → τ0.t (.agg cs) G → τ.t (.agg (cs.toList.take j ++ (a.eval y).cells.toList ++ cs.toList.drop (j + k'.getD 1)).toArray) G)
    (K : ∀ w',St W0 G0 N L (B.set i ⟨b,ty,some n,τ⟩) a w' G → wpList P ops Q rest a w') : wpList P ops Q (o :: rest) a w :=
  wpList_plain hg fun K' hK=>by
    obtain ⟨_,_,u,hu,⟨cs,rfl,hcs,hone⟩,htu⟩:=S.bx i _ hi
    have hl : (a.eval y).cells.toList.length = k'.getD 1:=by simpa using shaped_size hs
    have hst:=run_storeCells_at b j ty (a.eval y).cells.toList 0 cs w (P:=P) hu (by rw [hl];omega) (shaped_cells hs)
    rw [hl] at hst
    simp only [Nat.add_zero] at hst
    have hr : (execOp a.eval o).run P w = .ok .skip (w.setRow b (cs.toList.take j ++ (a.eval y).cells.toList ++ cs.toList.drop (j + k'.getD 1)).toArray):=by
      simp only [execOp,ho,Instr.storeAt,hx,Instr.sureAddr,storeVar,Sem.run_bind,Sem.run_pure,Result.andThen_ok,tyS_size hT,shaped_size hs]
      simp [hst]
    unfold Oper.wp
    rw [hr]
    simp only [Oper.upon,hd]
    refine hK _ _ (K _ (S.setVar i hi (v:=.agg _) ⟨_,rfl,?_,fun c hc=>?_⟩ (hv cs hcs htu)))
    · have:=shaped_size hs;simp at hl ⊢;omega
    · simp only [List.mem_append] at hc
      rcases hc with (hc | hc) | hc
      · exact hone c (List.mem_of_mem_take hc)
      · exact shaped_cells hs c hc
      · exact hone c (List.mem_of_mem_drop hc)
theorem St.freeze (S : St W0 G0 N L B a w G) (i : Nat) {b : Nat} {ty : TypeId} {k : Option Nat} {τ : MT} (hi : B[i]? = some ⟨b, ty, k, τ⟩) :
    ∃ v G',τ.t v G' ∧ Shaped k v ∧ G' b = some (.cells v.cells ty (0,0)) ∧ Gle G G' ∧ St W0 G0 N L (B.eraseIdx i) a w G':=by
  obtain ⟨h1,h2,v,hv,hs,ht⟩:=S.bx i _ hi
  have hle : Gle G (Gput G b (.cells v.cells ty (0,0))):=fun k o hk=>by
    unfold Gput;split
    · rename_i e;subst e;rw [show G k = none from h2] at hk;cases hk
    · exact hk
  refine ⟨v,Gput G b (.cells v.cells ty (0,0)),τ.mono hle ht,hs,by simp [Gput],hle,?_⟩
  have hget : ∀ (j : Nat) (x : BX),(B.eraseIdx i)[j]? = some x → ∃ j',j' ≠ i ∧ B[j']? = some x ∧ (j < i → j' = j) ∧ (¬ j < i → j' = j + 1):=fun j x hj=>by
    rw [List.getElem?_eraseIdx] at hj
    split at hj
    · exact ⟨j,by omega,hj,fun _=>rfl,fun h=>absurd ‹_› h⟩
    · exact ⟨j + 1,by omega,hj,fun h=>absurd h ‹_›,fun _=>rfl⟩
  exact {
    nxt:=⟨S.nxt.below,fun c hc=>by unfold Gput;rw [if_neg (by have : W0.heap.size ≤ b:=h1;omega)];exact S.nxt.agree c hc,S.nxt.le.trans hle,fun c o hc=>by
      unfold Gput at hc;split at hc
      · rename_i e;subst e;cases hc;exact hv
      · exact S.ok c o hc⟩
    size:=S.size
    dfr:=S.dfr
    ty:=fun j p hj=>p.2.mono hle (S.ty j p hj)
    bx:=fun j x hj=>by
      obtain ⟨j',hne,hj',_⟩:=hget j x hj
      obtain ⟨g1,g2,u,hu,hsu,htu⟩:=S.bx j' x hj'
      refine ⟨g1,?_,u,hu,hsu,x.τ.mono hle htu⟩
      have:=S.nd j' i x _ hj' hi hne
      unfold Gput;rw [if_neg this];exact g2
    nd:=fun j l x y hj hl hjl=>by
      obtain ⟨j',_,hj',ha,hb⟩:=hget j x hj
      obtain ⟨l',_,hl',hc,hd⟩:=hget l y hl
      refine S.nd j' l' x y hj' hl' ?_
      by_cases h5 : j < i <;> by_cases h6 : l < i
      · have:=ha h5;have:=hc h6;omega
      · have:=ha h5;have:=hd h6;omega
      · have:=hb h5;have:=hc h6;omega
      · have:=hb h5;have:=hd h6;omega }
def callable (P : Program) (f : Nat) : Bool:=match P.funcs[f]? with | some fn=>!(fn.name == "runtime.NumGoroutine") && fn.body.isSome | none=>false
theorem run_callFunc {f : Nat} (h : callable P f = true) (args : Array Value) : (callFunc f args).run P w = .ok (.enter f args) w:=by
  unfold callable at h
  split at h
  · rename_i fn hf
    simp only [Bool.and_eq_true,Bool.not_eq_true'] at h
    obtain ⟨h1,h2⟩:=h
    have h3 : fn.body.isNone = false:=by cases hb : fn.body <;> simp_all
    simp only [callFunc,Sem.run_bind,run_program,Result.andThen_ok,hf,h1,h3,Bool.false_eq_true,if_false,Sem.run_pure]
  · cases h
theorem OpR.call {f : Nat} {args : Array Operand} {ats : Array TypeId} {τ : MT} (ho : o.op = .call { callee := .value (.func f), args := args, argTypes := ats }) (hc : callable P f = true)
    (h : Calls P f (args.map a.eval) w (Ret w G τ)) : OpR P o a w G τ:=fun Q K hK=>by
  have hr : (execOp a.eval o).run P w = .ok (.enter f (args.map a.eval)) w:=by
    simp [execOp,ho,resolve,Act.eval,Deferred.ofValue,invoke,run_callFunc hc]
  unfold Oper.wp
  rw [hr]
  refine Calls.mono h fun e w' he=>?_
  obtain ⟨v,G',rfl,hv,hn⟩:=he
  exact hK v w' G' hv hn
theorem OpR.call1 {f : Nat} {ats : Array TypeId} {x : Operand} {τ : MT} (ho : o.op = .call { callee := .value (.func f), args := #[x], argTypes := ats }) (hc : callable P f = true)
    (h : Calls P f #[a.eval x] w (Ret w G τ)) : OpR P o a w G τ:=.call ho hc (by simpa using h)
theorem OpR.call2 {f : Nat} {ats : Array TypeId} {x y : Operand} {τ : MT} (ho : o.op = .call { callee := .value (.func f), args := #[x, y], argTypes := ats }) (hc : callable P f = true)
    (h : Calls P f #[a.eval x,a.eval y] w (Ret w G τ)) : OpR P o a w G τ:=.call ho hc (by simpa using h)
theorem St.enter {f : Nat} {fn : Func} {c : Code} {args : List Value} {R : Ending → World → Prop} {G : Gh} (hf : P.funcs[f]? = some fn) (hb : fn.body = some c) (hN : fn.ntmps = N) (hl : (decide (args.length ≤ N)) = true) (hok : Gok w G)
    (hL : ∀ (i : Nat) (p : Nat × MT),L[i]? = some p → ∃ v,args[p.1]? = some v ∧ p.2.t v G)
    (h : ∀ a,St w G N L [] a w G → c.wp P (bodyPost P fn R) a w) : Calls P f args.toArray w R:=by
  have hl':=of_decide_eq_true hl
  refine calls_of_wp hf hb (h _ ⟨Nxt.refl hok,by simp [hN];omega,rfl,fun i p hp=>?_,fun i x hx=>by simp at hx,fun i j x y hx=>by simp at hx⟩)
  obtain ⟨v,hv,ht⟩:=hL i p hp
  have : tm { tmps:=args.toArray ++ Array.replicate (fn.ntmps - args.toArray.size) undef,defers:=[] } p.1 = v:=by
    have hlt : p.1 < args.length:=(List.getElem?_eq_some_iff.1 hv).1
    simp [tm,Array.getElem?_append,hlt];simpa [hlt] using hv
  rw [this];exact ht
variable {fn : Func} {τ : MT}
theorem St.retTmp (S : St W0 G0 N L B a w G) {t : Nat} (hr : fn.results = #[.tmp t]) (h : τ.t (tm a t) G) : bodyPost P fn (Ret W0 G0 τ) .ret a w :=
  bodyPost_ret (results_tmp hr _ _ _) S.dfr ⟨_,G,rfl,h,S.nxt⟩
theorem St.retTmp2 (S : St W0 G0 N L B a w G) {t u : Nat} {τ2 : MT} (hr : fn.results = #[.tmp t,.tmp u]) (h : τ.t (tm a t) G) (h2 : τ2.t (tm a u) G) : bodyPost P fn (Ret W0 G0 (.tup2 τ τ2)) .ret a w :=
  bodyPost_ret (results_tmp2 hr _ _ _) S.dfr ⟨_,G,rfl,⟨_,_,rfl,h,h2⟩,S.nxt⟩
theorem wp_reg {id : Nat} {l : List Oper} {y : Code} {Q : Exit → Act → World → Prop} (h : ∀ K : Act → World → Prop, (∀ a w, y.wp P Q a w → K a w) → wpList P l.toArray (Exit.then K Q) l a w) :
    (Code.seq (.region id l.toArray false) y).wp P Q a w:=wp_seq_k fun K hK=>wp_region_lit (h K hK)
theorem wn {ops : Array Oper} {K R : Act → World → Prop} {Q : Exit → Act → World → Prop} {a : Act} {w : World} (hK : ∀ a w,R a w → K a w) (h : R a w) : wpList P ops (Exit.then K Q) [] a w:=wpList_nil (hK _ _ h)
theorem St.m {rest : List Oper} {o : Oper} {ops : Array Oper} {Q : Exit → Act → World → Prop} (S : St W0 G0 N L B a w G) {d : Nat} {τ : MT} {x : Operand} (ho : o.op = .move x) (h : τ.t (a.eval x) G) (hd : o.dst = some d) (K : ∀ a' w' G',St W0 G0 N ((d,τ) :: L) B a' w' G' → wpList P ops Q rest a' w') (hg : o.guard = none:=by rfl) (hdN : (decide (d < N)) = true:=by rfl) (hf : fresh d L = true:=by rfl) : wpList P ops Q (o :: rest) a w :=
  S.step (OpR.mv S.ok ho h) hd hg hdN hf K
theorem St.q {rest : List Oper} {o : Oper} {ops : Array Oper} {Q : Exit → Act → World → Prop} (S : St W0 G0 N L B a w G) {d : Nat} {τ : MT} {x : Operand} (ho : o.op = .assign x) (h : τ.t (a.eval x) G) (hd : o.dst = some d) (K : ∀ a' w' G',St W0 G0 N ((d,τ) :: L) B a' w' G' → wpList P ops Q rest a' w') (hg : o.guard = none:=by rfl) (hdN : (decide (d < N)) = true:=by rfl) (hf : fresh d L = true:=by rfl) : wpList P ops Q (o :: rest) a w :=
  S.step (OpR.asn S.ok ho h) hd hg hdN hf K
theorem St.cond (S : St W0 G0 N L B a w G) (k : Nat) {t : Nat} {b : Bool} {x y : Code} (hk : L[k]? = some (t, .ex (.bool b))) (h1 : b = true → x.wp P Q a w) (h2 : b = false → y.wp P Q a w) :
    (Code.cond (.tmp t) x y).wp P Q a w:=wp_cond_split (S.e k hk) h1 h2
end
end Go.Proofs.YtboicjlbbbodgaaGreatDoor
namespace Go.Proofs.YtboicjlbbbodgaaGreatDoor
open Go.RowKit (Below)
inductive OT where
  | g (τ : MT)
  | al (mk : Nat → Value) (ty : TypeId) (k : Option Nat) (τ : MT)
def blockOf : Value → Option Nat
  | .pointer (some a)=>some a.block
  | .slice (some a) _ _=>some a.block
  | _=>none
abbrev mkP (b : Nat) : Value:=.pointer (some ⟨b,0,none⟩)
def OpB (P : Program) (o : Oper) (a : Act) (w : World) (G : Gh) (mk : Nat → Value) (ty : TypeId) (k : Option Nat) (τ : MT) : Prop :=
  ∀ (Q : Exit → Act → World → Prop) (K : Act → World → Prop),(∀ b w' G',w.heap.size ≤ b → Nxt w G w' G' → G' b = none → (∃ v,w'.heap[b]? = some (.cells v.cells ty (0,0)) ∧ Shaped k v ∧ τ.t v G') → K (a.put o.dst (mk b)) w') → o.wp P a w K Q
theorem OpB.alloc {P : Program} {o : Oper} {a : Act} {w : World} {G : Gh} {ty : TypeId} {k : Option Nat} {z : Value} (hok : Gok w G) (ho : o.op = .alloc ty) (hz : (P.info? ty).bind (·.zero) = some z) (hs : Shaped k z) : OpB P o a w G mkP ty k (.ex z):=fun Q K hK=>by
  have hr : (execOp a.eval o).run P w = .ok (.value (.pointer (some ⟨w.heap.size,0,none⟩))) (w.alloc (.cells z.cells ty)):=by
    simp [execOp,ho,Instr.alloc,zero_run hz,Go.newVar,newRow]
  unfold Oper.wp
  rw [hr]
  exact hK w.heap.size _ G (Nat.le_refl _) (Nxt.alloc hok _) (hok.none (Nat.le_refl _)) ⟨z,heap_alloc_new w _,hs,rfl⟩
structure PO where
  d : Nat
  τ : OT
  dep : List Nat
def OT.sem (W0 w0 : World) : OT → Value → World → Gh → Prop
  | .g τ,v,_,G=>τ.t v G
  | .al mk ty k τ,v,w,G=>∃ b,v = mk b ∧ w0.heap.size ≤ b ∧ BX.ok ⟨b,ty,k,τ⟩ W0 w G
theorem OT.sem.nxt {W0 w0 w w' : World} {G G' : Gh} {τ : OT} {v : Value} (h : τ.sem W0 w0 v w G) (hn : Nxt w G w' G') : τ.sem W0 w0 v w' G':=by
  cases τ with
  | g τ=>exact τ.mono hn.le h
  | al mk ty k τ=>obtain ⟨b,h1,h2,h3⟩:=h;exact ⟨b,h1,h2,h3.nxt hn⟩
def OT.isAl : OT → Bool
  | .al ..=>true
  | _=>false
def depL (PL : List PO) (l : List Nat) : List (Nat × MT):=l.filterMap fun j=>(PL[j]?).bind fun po=>match po.τ with | .g τ=>some (po.d,τ) | _=>none
section
variable {P : Program} {W0 : World} {G0 : Gh} {N : Nat} {L : List (Nat × MT)} {B : List BX}
def OpG (P : Program) (ops : Array Oper) (o : Oper) (a : Act) (w : World) (G : Gh) (τ : MT) : Prop :=
  (Region.wanted o (yielded ops a.tmps) = true ∧ OpR P o a w G τ) ∨ (Region.wanted o (yielded ops a.tmps) = false ∧ τ.t undef G)
theorem OpG.of {ops : Array Oper} {o : Oper} {a : Act} {w : World} {G : Gh} {τ : MT} (hg : o.guard = none) (h : OpR P o a w G τ) : OpG P ops o a w G τ:=.inl ⟨by simp [Region.wanted,hg],h⟩
def Obl (P : Program) (W0 : World) (G0 : Gh) (N : Nat) (L : List (Nat × MT)) (B : List BX) (ops : Array Oper) (PL : List PO) (i : Nat) (po : PO) : Prop :=
  match po.τ with
  | .g τ=>∀ a w G,St W0 G0 N (depL PL po.dep ++ L) B a w G → OpG P ops (ops.getD i default) a w G τ
  | .al mk ty k τ=>(∀ b,blockOf (mk b) = some b) ∧ (ops.getD i default).guard = none ∧ ∀ a w G,St W0 G0 N (depL PL po.dep ++ L) B a w G → OpB P (ops.getD i default) a w G mk ty k τ
def Obls (P : Program) (W0 : World) (G0 : Gh) (N : Nat) (L : List (Nat × MT)) (B : List BX) (ops : Array Oper) (PL : List PO) : Nat → List PO → Prop
  | _,[]=>True
  | i,po :: rest=>Obl P W0 G0 N L B ops PL i po ∧ Obls P W0 G0 N L B ops PL (i + 1) rest
theorem Obls.get {ops : Array Oper} {PL : List PO} : ∀ {l : List PO} {i : Nat},Obls P W0 G0 N L B ops PL i l → ∀ {j : Nat} {po : PO},l[j]? = some po → Obl P W0 G0 N L B ops PL (i + j) po
  | [],_,_,j,po,h=>by simp at h
  | x :: l,i,hO,0,po,h=>by cases h;exact hO.1
  | x :: l,i,hO,j + 1,po,h=>by
    have:=Obls.get hO.2 (j:=j) (po:=po) h
    rwa [Nat.add_assoc,Nat.add_comm 1 j] at this
def firstN (n m : Nat) : Array Bool:=(Array.range n).map fun i=>decide (i < m)
def waits (ops : Array Oper) : Nat → Nat → Nat → Bool
  | 0,_,_=>false
  | m + 1,j,i=>(ops[j]?).any fun o=>o.after.any fun e=>Region.binds .any e && (e.on == i || waits ops m e.on i)
def drawOk (ops : Array Oper) (PL : List PO) (L : List Nat) (N : Nat) : Bool :=
  decide (PL.length ≤ ops.size) &&
  (List.range PL.length).all (fun i=>(ops[i]?).bind (·.dst) == (PL[i]?).map (·.d)) &&
  (List.range PL.length).all (fun i=>(List.range PL.length).all fun j=>i == j || (PL[i]?).map (·.d) != (PL[j]?).map (·.d)) &&
  PL.all (fun po=>!L.contains po.d && decide (po.d < N)) &&
  (List.range PL.length).all (fun i=>(ops[i]?).all fun o=>o.after.all fun e=>!Region.binds .any e || decide (e.on < i)) &&
  (List.range PL.length).all (fun i=>(PL[i]?).all fun po=>po.dep.all fun j=>decide (j < PL.length) && waits ops ops.size i j) &&
  (List.range (ops.size - PL.length)).all (fun j=>(List.range PL.length).all fun i=>waits ops ops.size (PL.length + j) i) &&
  (List.range (ops.size - PL.length)).all (fun j=>Region.ready .any ops (firstN ops.size (PL.length + j)) == [PL.length + j])
theorem ready_all {ops : Array Oper} {md : Region.Mode} : Region.ready md ops (firstN ops.size ops.size) = []:=by
  rw [Region.ready,List.filter_eq_nil_iff]
  intro i hi
  have hlt : i < ops.size:=by simpa using hi
  simp [firstN,hlt]
theorem firstN_succ {n m : Nat} (_h : m < n) : (firstN n m).setIfInBounds m true = firstN n (m + 1):=by
  apply Array.ext
  · simp [firstN]
  · intro k h1 h2
    simp only [firstN,Array.size_setIfInBounds,Array.size_map,Array.size_range] at h1
    rw [Array.getElem_setIfInBounds]
    split
    · rename_i e;subst e;simp [firstN]
    · simp [firstN];omega
    · simpa [firstN] using h1
theorem tail_any {ops : Array Oper} {Q : Exit → Act → World → Prop} : ∀ (m : Nat) (a : Act) (w : World), m ≤ ops.size → (∀ j, ops.size - m ≤ j → j < ops.size → Region.ready .any ops (firstN ops.size j) = [j]) →
    wpList P ops Q (ops.toList.drop (ops.size - m)) a w → wpAny P .any ops Q m (firstN ops.size (ops.size - m)) a w
  | 0,a,w,_,_,h=>by
    have hd : ops.toList.drop (ops.size - 0) = []:=List.drop_of_length_le (by simp)
    rw [hd] at h
    exact ⟨by simpa using ready_all,h⟩
  | m + 1,a,w,hm,hr,h=>by
    have hj:=hr (ops.size - (m + 1)) (Nat.le_refl _) (by omega)
    refine ⟨fun h0=>(by rw [hj] at h0;cases h0),fun i hi=>?_⟩
    rw [hj] at hi
    have hi : i = ops.size - (m + 1):=by simpa using hi
    subst hi
    have hlt : ops.size - (m + 1) < ops.size:=by omega
    have hset : (firstN ops.size (ops.size - (m + 1))).setIfInBounds (ops.size - (m + 1)) true = firstN ops.size (ops.size - m):=by
      rw [firstN_succ hlt];congr 1;omega
    rw [hset]
    have hdrop : ops.toList.drop (ops.size - (m + 1)) = ops[ops.size - (m + 1)] :: ops.toList.drop (ops.size - m):=by
      rw [List.drop_eq_getElem_cons (by simpa using hlt)]
      simp only [Array.getElem_toList]
      congr 2
      omega
    rw [hdrop] at h
    have ih:=fun a w=>tail_any (Q:=Q) m a w (by omega) (fun j h1 h2=>hr j (by omega) h2)
    unfold wpOp
    simp only [Array.getElem?_eq_getElem hlt]
    unfold wpList at h
    split at h
    · rename_i hw;rw [if_pos hw];exact h.imp (Oper.wp_mono ih) id
    · rename_i hw;rw [if_neg hw];exact ih _ _ h
def cnt (l : Array Bool) : Nat:=l.toList.countP id
theorem cnt_set {l : Array Bool} {i : Nat} (hi : i < l.size) (h : l.getD i true = false) : cnt (l.setIfInBounds i true) = cnt l + 1:=by
  have h' : l.toList[i]'(by simpa using hi) = false:=by simpa [hi] using h
  unfold cnt
  rw [Array.toList_setIfInBounds]
  have hs : l.toList.set i true = l.toList.take i ++ true :: l.toList.drop (i + 1):=List.set_eq_take_append_cons_drop .. |>.trans (by rw [if_pos (by simpa using hi)])
  have hl : l.toList = l.toList.take i ++ false :: l.toList.drop (i + 1):=by
    conv=>lhs;rw [← List.take_append_drop i l.toList,List.drop_eq_getElem_cons (by simpa using hi),h']
  rw [hs]
  conv=>rhs;rw [hl]
  simp [List.countP_append]
  omega
theorem cnt_le (l : Array Bool) : cnt l ≤ l.size:=by simpa [cnt] using List.countP_le_length (p:=id) (l:=l.toList)
theorem cnt_firstN {n : Nat} : ∀ {m : Nat},m ≤ n → cnt (firstN n m) = m
  | 0,_=>by simp [cnt,firstN]
  | m + 1,h=>by
    have hm : m < n:=by omega
    rw [← firstN_succ hm,cnt_set (by simp [firstN];omega) (by simp [firstN,hm]),cnt_firstN (by omega)]
structure DInv (P : Program) (W0 : World) (G0 : Gh) (N : Nat) (L : List (Nat × MT)) (B : List BX) (ops : Array Oper) (PL : List PO) (a0 : Act) (w0 : World) (Gs : Gh) (l : Array Bool) (a : Act) (w : World) (G : Gh) : Prop where
  nxt : Nxt w0 Gs w G
  size : a.tmps.size = N
  dfr : a.defers = []
  lsz : l.size = ops.size
  off : ∀ t,(∀ (i : Nat) (po : PO),PL[i]? = some po → po.d ≠ t) → tm a t = tm a0 t
  on : ∀ (i : Nat) (po : PO),PL[i]? = some po → l.getD i false = true → po.τ.sem W0 w0 (tm a po.d) w G
  tl : ∀ j,PL.length ≤ j → l.getD j false = false
  cl : ∀ (j : Nat) (o : Oper),ops[j]? = some o → l.getD j false = true → ∀ e ∈ o.after,Region.binds .any e = true → l.getD e.on false = true
  al : ∀ (i j : Nat) (po po' : PO),PL[i]? = some po → PL[j]? = some po' → po.τ.isAl = true → po'.τ.isAl = true → l.getD i false = true → l.getD j false = true → i ≠ j → blockOf (tm a po.d) ≠ blockOf (tm a po'.d)
theorem DInv.put {ops : Array Oper} {PL : List PO} {a0 a : Act} {w0 w w' : World} {Gs G G' : Gh} {l : Array Bool} (I : DInv P W0 G0 N L B ops PL a0 w0 Gs l a w G) {i : Nat} {po : PO} (hp : PL[i]? = some po) (hi : i < ops.size)
    (hne : ∀ {j : Nat} {po' : PO},PL[j]? = some po' → j ≠ i → po'.d ≠ po.d) (hdN : po.d < N) {v : Value} (hn : Nxt w G w' G') (hv : po.τ.sem W0 w0 v w' G')
    (hal : po.τ.isAl = true → ∀ (j : Nat) (po' : PO),PL[j]? = some po' → po'.τ.isAl = true → l.getD j false = true → j ≠ i → blockOf (tm a po'.d) ≠ blockOf v)
    (hcl : ∀ (o : Oper),ops[i]? = some o → ∀ e ∈ o.after,Region.binds .any e = true → l.getD e.on false = true) :
    DInv P W0 G0 N L B ops PL a0 w0 Gs (l.setIfInBounds i true) (a.put (some po.d) v) w' G':=by
  have hget : ∀ j,j ≠ i → (l.setIfInBounds i true).getD j false = l.getD j false:=fun j hj=>by
    simp [Array.getElem?_setIfInBounds_ne (Ne.symm hj)]
  have hsame : tm (a.put (some po.d) v) po.d = v:=tm_put_same (by rw [I.size];exact hdN)
  refine ⟨I.nxt.trans hn,by rw [size_put];exact I.size,by rw [dfr_put];exact I.dfr,by simpa using I.lsz,fun t ht=>?_,fun j po' hj hl=>?_,fun j hj=>?_,fun j o ho hl e he hb=>?_,fun j k po1 po2 h1 h2 a1 a2 l1 l2 hjk=>?_⟩
  · rw [tm_put_ne (fun e=>ht i po hp e.symm)];exact I.off t ht
  · by_cases e : j = i
    · subst e;rw [hp] at hj;cases hj;rw [hsame];exact hv
    · rw [hget j e] at hl;rw [tm_put_ne (hne hj e)];exact (I.on j po' hj hl).nxt hn
  · have hlt : i < PL.length:=(List.getElem?_eq_some_iff.1 hp).1
    rw [hget j (by omega)];exact I.tl j hj
  · have hl' : l.getD e.on false = true := by
      by_cases e1 : j = i
      · subst e1;exact hcl o ho e he hb
      · rw [hget j e1] at hl;exact I.cl j o ho hl e he hb
    by_cases e2 : e.on = i
    · rw [e2];have : i < l.size:=by rw [I.lsz];exact hi
      simp [this]
    · rw [hget _ e2];exact hl'
  · by_cases e1 : j = i
    · by_cases e2 : k = i
      · omega
      · subst e1;rw [hp] at h1;cases h1;rw [hget k e2] at l2;rw [hsame,tm_put_ne (hne h2 e2)];exact (hal a1 k po2 h2 a2 l2 e2).symm
    · by_cases e2 : k = i
      · subst e2;rw [hp] at h2;cases h2;rw [hget j e1] at l1;rw [hsame,tm_put_ne (hne h1 e1)];exact hal a2 j po1 h1 a1 l1 e1
      · rw [hget j e1] at l1;rw [hget k e2] at l2;rw [tm_put_ne (hne h1 e1),tm_put_ne (hne h2 e2)];exact I.al j k po1 po2 h1 h2 a1 a2 l1 l2 hjk
theorem DInv.waited {ops : Array Oper} {PL : List PO} {a0 a : Act} {w0 w : World} {Gs G : Gh} {l : Array Bool} (I : DInv P W0 G0 N L B ops PL a0 w0 Gs l a w G) : ∀ (m : Nat) {j i : Nat} {o : Oper}, waits ops m j i = true → ops[j]? = some o →
    (∀ e ∈ o.after,Region.binds .any e = true → l.getD e.on false = true) → l.getD i false = true
  | 0,_,_,_,h,_,_=>by cases h
  | m + 1,j,i,o,h,ho,he=>by
    unfold waits at h
    rw [ho] at h
    simp only [Option.any_some,Array.any_eq_true,Bool.and_eq_true,Bool.or_eq_true,beq_iff_eq] at h
    obtain ⟨k,hk,hb,h⟩:=h
    have hl:=he _ (Array.getElem_mem hk) hb
    rcases h with h | h
    · rw [← h];exact hl
    · have hon : (o.after[k]).on < ops.size := by
        have : (o.after[k]).on < l.size:=by
          rcases Nat.lt_or_ge (o.after[k]).on l.size with h1 | h1
          · exact h1
          · simp [Array.getElem?_eq_none h1] at hl
        rw [I.lsz] at this;exact this
      have ho':=Array.getElem?_eq_getElem hon
      exact DInv.waited I m h ho' (I.cl _ _ ho' hl)
def LF (PL : List PO) (β : Nat → Nat) (L : List (Nat × MT)) : Nat → List (Nat × MT)
  | 0=>L
  | m + 1=>match PL[m]? with
    | some po=>(match po.τ with | .g τ=>(po.d,τ) | .al mk _ _ _=>(po.d,.ex (mk (β m)))) :: LF PL β L m
    | none=>LF PL β L m
def BF (PL : List PO) (β : Nat → Nat) (B : List BX) : Nat → List BX
  | 0=>B
  | m + 1=>match PL[m]? with
    | some po=>(match po.τ with | .g _=>BF PL β B m | .al _ ty k τ=>⟨β m,ty,k,τ⟩ :: BF PL β B m)
    | none=>BF PL β B m
theorem LF_mem {PL : List PO} {β : Nat → Nat} {L : List (Nat × MT)} : ∀ {m : Nat} {p : Nat × MT},p ∈ LF PL β L m → p ∈ L ∨ ∃ (i : Nat) (po : PO),i < m ∧ PL[i]? = some po ∧ p = (match po.τ with | .g τ=>(po.d,τ) | .al mk _ _ _=>(po.d,.ex (mk (β i))))
  | 0,p,h=>.inl h
  | m + 1,p,h=>by
    unfold LF at h
    split at h
    · rename_i po hpo
      rcases List.mem_cons.1 h with h | h
      · exact .inr ⟨m,po,by omega,hpo,h⟩
      · rcases LF_mem h with h | ⟨i,po',hi,h1,h2⟩
        · exact .inl h
        · exact .inr ⟨i,po',by omega,h1,h2⟩
    · rcases LF_mem h with h | ⟨i,po',hi,h1,h2⟩
      · exact .inl h
      · exact .inr ⟨i,po',by omega,h1,h2⟩
theorem BF_get {PL : List PO} {β : Nat → Nat} {B : List BX} : ∀ {m j : Nat} {x : BX}, (BF PL β B m)[j]? = some x →
    (∃ j',j = (BF PL β B m).length - B.length + j' ∧ B[j']? = some x) ∨ (j < (BF PL β B m).length - B.length ∧ ∃ (i : Nat) (po : PO) (mk : Nat → Value) (ty : TypeId) (k : Option Nat) (τ : MT),i < m ∧ PL[i]? = some po ∧ po.τ = .al mk ty k τ ∧ x = ⟨β i,ty,k,τ⟩)
  | 0,j,x,h=>.inl ⟨j,by simp [BF],h⟩
  | m + 1,j,x,h=>by
    have hlen : ∀ m,B.length ≤ (BF PL β B m).length:=fun m=>by
      induction m with
      | zero=>exact Nat.le_refl _
      | succ m ih=>unfold BF;split <;> (try split) <;> (try simp) <;> omega
    unfold BF at h ⊢
    split at h
    · rename_i po hpo
      split at h
      · rename_i τ hτ
        rcases BF_get h with h | ⟨h0,i,po',mk',ty,k,z,hi,h⟩
        · exact .inl h
        · exact .inr ⟨h0,i,po',mk',ty,k,z,by omega,h⟩
      · rename_i mk ty k z hτ
        have:=hlen m
        cases j with
        | zero=>cases h;exact .inr ⟨by simp;omega,m,po,mk,ty,k,z,by omega,hpo,hτ,rfl⟩
        | succ j =>
          rcases BF_get (m:=m) (j:=j) h with ⟨j',hj',h⟩ | ⟨h0,i,po',mk',ty,k,z,hi,h⟩
          · exact .inl ⟨j',by simp;omega,h⟩
          · exact .inr ⟨by simp;omega,i,po',mk',ty,k,z,by omega,h⟩
    · rename_i hpo
      rcases BF_get h with h | ⟨h0,i,po',mk',ty,k,z,hi,h⟩
      · exact .inl h
      · exact .inr ⟨h0,i,po',mk',ty,k,z,by omega,h⟩
theorem BF_nd {PL : List PO} {β : Nat → Nat} {B : List BX} (h0 : ∀ (i j : Nat) (x y : BX), B[i]? = some x → B[j]? = some y → i ≠ j → x.b ≠ y.b)
    (h1 : ∀ (i : Nat) (po : PO) (mk : Nat → Value) (ty : TypeId) (k : Option Nat) (z : MT),PL[i]? = some po → po.τ = .al mk ty k z → ∀ (j : Nat) (x : BX),B[j]? = some x → x.b ≠ β i)
    (h2 : ∀ (i j : Nat) (po po' : PO),PL[i]? = some po → PL[j]? = some po' → po.τ.isAl = true → po'.τ.isAl = true → i ≠ j → β i ≠ β j) :
    ∀ (m : Nat) (i j : Nat) (x y : BX),(BF PL β B m)[i]? = some x → (BF PL β B m)[j]? = some y → i ≠ j → x.b ≠ y.b
  | 0,i,j,x,y,hx,hy,hij=>h0 i j x y hx hy hij
  | m + 1,i,j,x,y,hx,hy,hij=>by
    have ih:=BF_nd h0 h1 h2 m
    have hd : ∀ {po : PO} {mk : Nat → Value} {ty : TypeId} {k : Option Nat} {z : MT},PL[m]? = some po → po.τ = .al mk ty k z → ∀ {j : Nat} {y : BX},(BF PL β B m)[j]? = some y → y.b ≠ β m:=fun {po mk ty k z} hp hτ {j y} hy=>by
      rcases BF_get hy with ⟨j',_,h⟩ | ⟨_,i',po',mk',ty',k',z',hi,hpo,hτ',h⟩
      · exact h1 m po mk ty k z hp hτ j' y h
      · subst h;exact h2 i' m po' po hpo hp (by rw [hτ'];rfl) (by rw [hτ];rfl) (by omega)
    unfold BF at hx hy
    split at hx
    · rename_i po hpo
      simp only [hpo] at hy
      split at hx
      · rename_i τ hτ
        simp only [hτ] at hy
        exact ih i j x y hx hy hij
      · rename_i mk ty k z hτ
        simp only [hτ] at hy
        cases i with
        | zero =>
          cases hx
          cases j with
          | zero=>omega
          | succ j=>exact (hd hpo hτ (j:=j) hy).symm
        | succ i =>
          cases j with
          | zero=>cases hy;exact hd hpo hτ (j:=i) hx
          | succ j=>exact ih i j x y hx hy (by omega)
    · rename_i hpo
      simp only [hpo] at hy
      exact ih i j x y hx hy hij
theorem depL_get {PL : List PO} {l : List Nat} {i : Nat} {p : Nat × MT} (h : (depL PL l)[i]? = some p) : ∃ (j : Nat) (po : PO),j ∈ l ∧ PL[j]? = some po ∧ po.τ = .g p.2 ∧ po.d = p.1:=by
  have:=List.mem_of_getElem? h
  obtain ⟨j,hj,hb⟩:=List.mem_filterMap.1 this
  cases hp : PL[j]? with
  | none=>simp [hp] at hb
  | some po =>
    simp only [hp,Option.bind_some] at hb
    split at hb
    · rename_i τ hτ;cases hb;exact ⟨j,po,hj,hp,hτ,rfl⟩
    · cases hb
theorem St.drawn {id : Nat} {ops : Array Oper} {Q : Exit → Act → World → Prop} {a0 : Act} {w0 : World} {Gs : Gh} (S : St W0 G0 N L B a0 w0 Gs) (PL : List PO) (hm : P.follows .mixedOrders = true)
    (hd : drawOk ops PL (L.map (·.1)) N = true) (hO : Obls P W0 G0 N L B ops PL 0 PL)
    (K : ∀ β a w G,St W0 G0 N (LF PL β L PL.length) (BF PL β B PL.length) a w G → wpList P ops Q (ops.toList.drop PL.length) a w) : (Code.region id ops true).wp P Q a0 w0:=by
  simp only [drawOk,Bool.and_eq_true,List.all_eq_true,List.mem_range,decide_eq_true_eq,Bool.or_eq_true,bne_iff_ne,Bool.not_eq_true',beq_iff_eq] at hd
  obtain ⟨⟨⟨⟨⟨⟨⟨h1,h2⟩,h3⟩,h4⟩,h5⟩,h6⟩,h7⟩,h8⟩:=hd
  have hpl : ∀ {i : Nat} {po : PO},PL[i]? = some po → i < PL.length:=fun h=>(List.getElem?_eq_some_iff.1 h).1
  have hdst : ∀ {i : Nat} {po : PO} {o : Oper},PL[i]? = some po → ops[i]? = some o → o.dst = some po.d:=fun {i po o} hp ho=>by
    have:=h2 i (hpl hp)
    rw [hp,ho] at this
    simpa using this
  have hne : ∀ {i j : Nat} {po po' : PO},PL[i]? = some po → PL[j]? = some po' → i ≠ j → po.d ≠ po'.d:=fun {i j po po'} hp hp' hij=>by
    rcases h3 i (hpl hp) j (hpl hp') with h | h
    · exact absurd h hij
    · rw [hp,hp'] at h;simpa using h
  have hfr : ∀ {i : Nat} {po : PO},PL[i]? = some po → po.d < N ∧ ∀ p ∈ L,p.1 ≠ po.d:=fun {i po} hp=>by
    have:=h4 po (List.mem_of_getElem? hp)
    refine ⟨this.2,fun p hpm e=>?_⟩
    have hc:=this.1
    rw [← e] at hc
    have : (L.map (·.1)).contains p.1 = true:=by simpa using ⟨p.2,hpm⟩
    rw [this] at hc;cases hc
  have hL : ∀ {l a w G},DInv P W0 G0 N L B ops PL a0 w0 Gs l a w G → ∀ p ∈ L,p.2.t (tm a p.1) G:=fun {l a w G} I p hp=>by
    rw [I.off p.1 (fun i po hpo=>fun e=>(hfr hpo).2 p hp e.symm)]
    obtain ⟨i,hi⟩:=List.getElem?_of_mem hp
    exact p.2.mono I.nxt.le (S.ty i p hi)
  have fin : ∀ (fuel : Nat) (l : Array Bool) (a : Act) (w : World) (G : Gh),DInv P W0 G0 N L B ops PL a0 w0 Gs l a w G → fuel + cnt l = ops.size → (∀ i,i < PL.length → l.getD i false = true) → wpAny P .any ops Q fuel l a w:=by
    intro fuel l a w G I hc hall
    have hl : l = firstN ops.size PL.length:=by
      apply Array.ext
      · simp [firstN,I.lsz]
      · intro k k1 k2
        by_cases hk : k < PL.length
        · have:=hall k hk;simp [k1] at this;simp [firstN,this,hk]
        · have:=I.tl k (by omega);simp [k1] at this;simp [firstN,this,hk]
    subst hl
    rw [cnt_firstN h1] at hc
    have hf : fuel = ops.size - PL.length:=by omega
    subst hf
    have hpick : ∀ (i : Nat),∃ b : Nat,∀ (po : PO) (mk : Nat → Value) (ty : TypeId) (k : Option Nat) (z : MT),PL[i]? = some po → po.τ = .al mk ty k z → tm a po.d = mk b ∧ w0.heap.size ≤ b ∧ BX.ok ⟨b,ty,k,z⟩ W0 w G:=by
      intro i
      cases hp : PL[i]? with
      | none=>exact ⟨0,fun _ _ _ _ _ h=>by cases h⟩
      | some po =>
        cases hτ : po.τ with
        | g τ=>exact ⟨0,fun po' mk ty k z h h'=>by cases h;rw [hτ] at h';cases h'⟩
        | al mk ty k z =>
          have:=I.on i po hp (hall i (hpl hp))
          rw [hτ] at this
          obtain ⟨b,e1,e2,e3⟩:=this
          exact ⟨b,fun po' mk ty k z h h'=>by cases h;rw [hτ] at h';cases h';exact ⟨e1,e2,e3⟩⟩
    obtain ⟨β,hβ⟩ : ∃ β : Nat → Nat,∀ i (po : PO) (mk : Nat → Value) (ty : TypeId) (k : Option Nat) (z : MT),PL[i]? = some po → po.τ = .al mk ty k z → tm a po.d = mk (β i) ∧ w0.heap.size ≤ β i ∧ BX.ok ⟨β i,ty,k,z⟩ W0 w G :=
      ⟨fun i=>Classical.choose (hpick i),fun i=>Classical.choose_spec (hpick i)⟩
    have hsub : ops.size - (ops.size - PL.length) = PL.length:=by omega
    have hSt : St W0 G0 N (LF PL β L PL.length) (BF PL β B PL.length) a w G:=by
      refine ⟨S.nxt.trans I.nxt,I.size,I.dfr,fun j p hp=>?_,fun j x hx=>?_,fun j k x y hx hy hjk=>?_⟩
      · rcases LF_mem (List.mem_of_getElem? hp) with h | ⟨i,po,hi,hpo,h⟩
        · exact hL I p h
        · cases hτ : po.τ with
          | g τ =>
            rw [hτ] at h;subst h
            have:=I.on i po hpo (hall i hi)
            rw [hτ] at this;exact this
          | al mk ty k z=>rw [hτ] at h;subst h;exact (hβ i po mk ty k z hpo hτ).1
      · rcases BF_get hx with ⟨j',_,h⟩ | ⟨_,i,po,mk,ty,k,z,hi,hpo,hτ,h⟩
        · exact (S.bx j' x h).nxt I.nxt
        · subst h;exact (hβ i po mk ty k z hpo hτ).2.2
      · refine BF_nd S.nd (fun i po mk ty k' z hp hτ j x hx=>?_) (fun i j po po' hp hp' ha ha' hij=>?_) PL.length j k x y hx hy hjk
        · have g1:=(S.bx j x hx).lt
          have g2:=(hβ i po mk ty k' z hp hτ).2.1
          omega
        · have:=I.al i j po po' hp hp' ha ha' (hall i (hpl hp)) (hall j (hpl hp')) hij
          cases hτ : po.τ with
          | g τ=>rw [hτ] at ha;cases ha
          | al mk ty k z =>
            cases hτ' : po'.τ with
            | g τ=>rw [hτ'] at ha';cases ha'
            | al mk' ty' k' z' =>
              have o1:=Obls.get hO hp;have o2:=Obls.get hO hp'
              unfold Obl at o1 o2
              rw [hτ] at o1;rw [hτ'] at o2
              rw [(hβ i po mk ty k z hp hτ).1,(hβ j po' mk' ty' k' z' hp' hτ').1,o1.1,o2.1] at this
              intro e;rw [e] at this;exact this rfl
    have:=tail_any (P:=P) (Q:=Q) (ops:=ops) (ops.size - PL.length) a w (by omega) (fun j hj1 hj2=>by
      have:=h8 (j - PL.length) (by omega)
      rw [show PL.length + (j - PL.length) = j from by omega] at this
      exact this) (by rw [hsub];exact K β a w G hSt)
    rw [hsub] at this
    exact this
  have key : ∀ (fuel : Nat) (l : Array Bool) (a : Act) (w : World) (G : Gh),DInv P W0 G0 N L B ops PL a0 w0 Gs l a w G → fuel + cnt l = ops.size → wpAny P .any ops Q fuel l a w:=by
    intro fuel
    induction fuel with
    | zero =>
      intro l a w G I hc
      refine fin 0 l a w G I hc fun i hi=>?_
      by_cases hx : l.getD i false = true
      · exact hx
      · exfalso
        have hli : i < l.size:=by rw [I.lsz];omega
        have hz : l.getD i true = false:=by simp [hli] at hx ⊢;exact hx
        have h9:=cnt_set hli hz
        have h10:=cnt_le (l.setIfInBounds i true)
        rw [Array.size_setIfInBounds,I.lsz] at h10
        omega
    | succ fuel ih =>
      intro l a w G I hc
      by_cases hall : ∀ i,i < PL.length → l.getD i false = true
      · exact fin (fuel + 1) l a w G I hc hall
      · have hex : ∃ i, i < PL.length ∧ l.getD i false = false := by
          refine Classical.byContradiction fun hn=>hall fun i hi=>?_
          by_cases hx : l.getD i false = true
          · exact hx
          · exact absurd ⟨i,hi,by simpa using hx⟩ hn
        have hpre : ∀ i,i ∈ Region.ready .any ops l → i < PL.length:=fun i hi=>by
          rcases Nat.lt_or_ge i PL.length with h | h
          · exact h
          · exfalso
            obtain ⟨j,hj,hjl⟩:=hex
            obtain ⟨_,o,ho,hall'⟩:=mem_ready.1 hi
            have hio : i < ops.size:=(Array.getElem?_eq_some_iff.1 ho).1
            have hw:=h7 (i - PL.length) (by omega) j hj
            rw [show PL.length + (i - PL.length) = i from by omega] at hw
            have:=I.waited _ hw ho hall'
            rw [hjl] at this;cases this
        have hready : Region.ready .any ops l ≠ []:=by
          have hleast : ∃ i,(i < PL.length ∧ l.getD i false = false) ∧ ∀ j,j < i → ¬ (j < PL.length ∧ l.getD j false = false):=by
            obtain ⟨i,hi⟩:=hex
            induction i using Nat.strongRecOn with
            | _ i ih' =>
              by_cases hh : ∃ j,j < i ∧ (j < PL.length ∧ l.getD j false = false)
              · obtain ⟨j,hj,hj2⟩:=hh;exact ih' j hj hj2
              · exact ⟨i,hi,fun j hj hc=>hh ⟨j,hj,hc⟩⟩
          obtain ⟨i,⟨hi,hil⟩,hmin⟩:=hleast
          have hio : i < ops.size:=by omega
          have : i ∈ Region.ready .any ops l:=by
            refine mem_ready.2 ⟨?_,ops[i],Array.getElem?_eq_getElem hio,fun e he hb=>?_⟩
            · have hli : i < l.size:=by rw [I.lsz];exact hio
              simp [hli] at hil ⊢;exact hil
            · have h5':=h5 i hi
              rw [Array.getElem?_eq_getElem hio] at h5'
              simp only [Option.all_some,Array.all_eq_true,Bool.or_eq_true,Bool.not_eq_true',decide_eq_true_eq] at h5'
              obtain ⟨k,hk,hke⟩:=Array.mem_iff_getElem.1 he
              have hlt : e.on < i:=by
                rcases h5' k hk with h | h
                · rw [hke,hb] at h;cases h
                · rw [hke] at h;exact h
              have:=hmin e.on hlt
              by_cases hx : l.getD e.on false = true
              · exact hx
              · exact absurd ⟨by omega,by simpa using hx⟩ this
          intro h;rw [h] at this;cases this
        refine ⟨fun h=>absurd h hready,fun i hi=>?_⟩
        have hip:=hpre i hi
        obtain ⟨hun,o,ho,hedge⟩:=mem_ready.1 hi
        have hio : i < ops.size:=(Array.getElem?_eq_some_iff.1 ho).1
        have hli : i < l.size:=by rw [I.lsz];exact hio
        have hpo : PL[i]? = some PL[i]:=List.getElem?_eq_getElem hip
        generalize PL[i] = po at hpo
        have hob:=Obls.get hO hpo
        rw [Nat.zero_add] at hob
        have hgd : ops.getD i default = o:=by simp [ho]
        have hdo:=hdst hpo ho
        have hcnt : fuel + cnt (l.setIfInBounds i true) = ops.size:=by rw [cnt_set hli hun];omega
        have hne' : ∀ {j : Nat} {po' : PO},PL[j]? = some po' → j ≠ i → po'.d ≠ po.d:=fun h h'=>hne h hpo h'
        unfold wpOp
        rw [ho]
        simp only
        unfold Obl at hob
        cases hτ : po.τ with
        | g τ =>
          rw [hτ] at hob
          have hSt : St W0 G0 N (depL PL po.dep ++ L) B a w G:=by
            refine ⟨S.nxt.trans I.nxt,I.size,I.dfr,fun j p hp=>?_,fun j x hx=>(S.bx j x hx).nxt I.nxt,S.nd⟩
            rcases List.mem_append.1 (List.mem_of_getElem? hp) with h | h
            · obtain ⟨j',hj'⟩:=List.getElem?_of_mem h
              obtain ⟨m,po',hmem,hpo',hτ',hd'⟩:=depL_get hj'
              have h6':=h6 i hip
              rw [hpo] at h6'
              simp only [Option.all_some,List.all_eq_true,Bool.and_eq_true,decide_eq_true_eq] at h6'
              have hw:=(h6' m hmem).2
              have hlm:=I.waited _ hw ho hedge
              have:=I.on m po' hpo' hlm
              rw [hτ',hd'] at this
              exact this
            · exact hL I p h
          have hg:=hob a w G hSt
          rw [hgd] at hg
          rcases hg with ⟨hw,hr⟩ | ⟨hw,hu⟩
          · rw [if_pos hw]
            refine .inl (hr Q _ fun v w' G' hv hn=>?_)
            rw [hdo]
            exact ih _ _ _ G' (I.put hpo hio hne' (hfr hpo).1 hn (by rw [hτ];exact hv) (fun h=>by rw [hτ] at h;cases h) (fun o' ho'=>by rw [ho] at ho';cases ho';exact hedge)) hcnt
          · rw [if_neg (by simp [hw]),hdo]
            exact ih _ _ _ G (I.put hpo hio hne' (hfr hpo).1 (Nxt.refl I.nxt.ok) (by rw [hτ];exact hu) (fun h=>by rw [hτ] at h;cases h) (fun o' ho'=>by rw [ho] at ho';cases ho';exact hedge)) hcnt
        | al mk ty k z =>
          rw [hτ] at hob
          obtain ⟨ho1,ho2,ho3⟩:=hob
          rw [hgd] at ho2 ho3
          rw [if_pos (by simp [Region.wanted,ho2])]
          have hSt : St W0 G0 N (depL PL po.dep ++ L) B a w G:=by
            refine ⟨S.nxt.trans I.nxt,I.size,I.dfr,fun j p hp=>?_,fun j x hx=>(S.bx j x hx).nxt I.nxt,S.nd⟩
            rcases List.mem_append.1 (List.mem_of_getElem? hp) with h | h
            · obtain ⟨j',hj'⟩:=List.getElem?_of_mem h
              obtain ⟨m,po',hmem,hpo',hτ',hd'⟩:=depL_get hj'
              have h6':=h6 i hip
              rw [hpo] at h6'
              simp only [Option.all_some,List.all_eq_true,Bool.and_eq_true,decide_eq_true_eq] at h6'
              have hw:=(h6' m hmem).2
              have hlm:=I.waited _ hw ho hedge
              have:=I.on m po' hpo' hlm
              rw [hτ',hd'] at this
              exact this
            · exact hL I p h
          refine .inl (ho3 a w G hSt Q _ fun b w' G' hb hn hG hv=>?_)
          rw [hdo]
          refine ih _ _ _ G' (I.put hpo hio hne' (hfr hpo).1 hn ?_ (fun _ j po' hj ha hlj hji=>?_) (fun o' ho'=>by rw [ho] at ho';cases ho';exact hedge)) hcnt
          · rw [hτ]
            exact ⟨b,rfl,Nat.le_trans I.nxt.below.size hb,Nat.le_trans S.nxt.below.size (Nat.le_trans I.nxt.below.size hb),hG,hv⟩
          · have:=I.on j po' hj hlj
            cases hτ' : po'.τ with
            | g τ=>rw [hτ'] at ha;cases ha
            | al mk' ty' k' z' =>
              rw [hτ'] at this
              obtain ⟨b',e1,_,e3⟩:=this
              have o2:=Obls.get hO hj
              unfold Obl at o2
              rw [hτ'] at o2
              rw [e1,o2.1,ho1]
              intro e
              injection e with e
              have:=e3.lt
              simp only at this
              omega
  refine wp_region_any hm (key _ _ _ _ Gs ⟨Nxt.drew S.ok,S.size,S.dfr,by simp,fun _ _=>rfl,fun i po hp hl=>?_,fun j _=>?_,fun j o ho hl=>?_,fun i j po po' hp hp' _ _ hl=>?_⟩ ?_)
  · have:=hpl hp;simp at hl;have : i < ops.size:=by omega
    simp [this] at hl
  · by_cases hj : j < ops.size <;> simp [hj]
  · have : j < ops.size:=(Array.getElem?_eq_some_iff.1 ho).1
    simp [this] at hl
  · have:=hpl hp;simp at hl;have : i < ops.size:=by omega
    simp [this] at hl
  · simp [cnt]
end
end Go.Proofs.YtboicjlbbbodgaaGreatDoor
namespace Go.Proofs.YtboicjlbbbodgaaGreatDoor
def val : List Nat → Nat
  | []=>0
  | x :: l=>x + 4294967296 * val l
def words (n : Nat) : List Nat:=if h : n = 0 then [] else n % 4294967296 :: words (n / 4294967296)
  termination_by n
  decreasing_by omega
def wfl (l : List Nat) : Prop:=∀ x ∈ l,x < 4294967296
def canl (l : List Nat) : Bool:=match l.getLast? with | none=>true | some x=>x != 0
theorem words_zero : words 0 = []:=by rw [words];simp
theorem words_pos {n : Nat} (h : n ≠ 0) : words n = n % 4294967296 :: words (n / 4294967296):=by rw [words];simp [h]
theorem val_words (n : Nat) : val (words n) = n:=by
  induction n using Nat.strongRecOn with
  | _ n ih =>
    by_cases h : n = 0
    · subst h;rw [words_zero];rfl
    · rw [words_pos h,val,ih _ (by omega)];omega
theorem wfl_words (n : Nat) : wfl (words n):=by
  induction n using Nat.strongRecOn with
  | _ n ih =>
    by_cases h : n = 0
    · subst h;rw [words_zero];intro x hx;cases hx
    · rw [words_pos h];intro x hx
      rcases List.mem_cons.1 hx with rfl | hx
      · omega
      · exact ih _ (by omega) x hx
theorem wfl_nil : wfl []:=fun x h=>by cases h
theorem wfl_cons {x : Nat} {l : List Nat} : wfl (x :: l) ↔ x < 4294967296 ∧ wfl l:=by simp [wfl]
theorem wfl.get {l : List Nat} (h : wfl l) {i x : Nat} (hi : l[i]? = some x) : x < 4294967296:=h x (List.mem_of_getElem? hi)
theorem wfl.take {l : List Nat} (h : wfl l) (n : Nat) : wfl (l.take n):=fun x hx=>h x (List.mem_of_mem_take hx)
theorem wfl.drop {l : List Nat} (h : wfl l) (n : Nat) : wfl (l.drop n):=fun x hx=>h x (List.mem_of_mem_drop hx)
theorem val_append (l m : List Nat) : val (l ++ m) = val l + 4294967296 ^ l.length * val m:=by
  induction l with
  | nil=>simp [val]
  | cons x l ih=>simp only [List.cons_append,val,ih,List.length_cons,Nat.pow_succ];rw [Nat.mul_add,← Nat.mul_assoc,Nat.mul_comm 4294967296 (4294967296 ^ l.length)];omega
theorem val_lt {l : List Nat} (h : wfl l) : val l < 4294967296 ^ l.length:=by
  induction l with
  | nil=>simp [val]
  | cons x l ih =>
    obtain ⟨h1,h2⟩:=wfl_cons.1 h
    have:=ih h2
    simp only [val,List.length_cons,Nat.pow_succ]
    omega
theorem val_replicate_zero (n : Nat) : val (List.replicate n 0) = 0:=by
  induction n with
  | zero=>rfl
  | succ n ih=>simp [List.replicate_succ,val,ih]
theorem canl_words (n : Nat) : canl (words n) = true:=by
  induction n using Nat.strongRecOn with
  | _ n ih =>
    by_cases h : n = 0
    · subst h;rw [words_zero];rfl
    · rw [words_pos h]
      by_cases h2 : n / 4294967296 = 0
      · rw [h2,words_zero];simp [canl];omega
      · have:=ih _ (show n / 4294967296 < n by omega)
        have hne : words (n / 4294967296) ≠ []:=by rw [words_pos h2];simp
        unfold canl at this ⊢
        rw [List.getLast?_cons,List.getLast?_eq_some_getLast hne] at *
        simpa using this
theorem val_eq_zero {l : List Nat} (hc : canl l = true) (h : val l = 0) : l = []:=by
  rcases List.eq_nil_or_concat l with rfl | ⟨m,x,rfl⟩
  · rfl
  · exfalso
    have hx : x ≠ 0:=by simpa [canl] using hc
    rw [List.concat_eq_append,val_append] at h
    simp only [val,Nat.mul_zero,Nat.add_zero] at h
    have hp : 0 < 4294967296 ^ m.length:=Nat.pow_pos (by omega)
    have : 0 < 4294967296 ^ m.length * x:=Nat.mul_pos hp (by omega)
    omega
theorem canl_tail {x : Nat} {l : List Nat} (h : canl (x :: l) = true) (hne : l ≠ []) : canl l = true:=by
  unfold canl at h ⊢
  rw [List.getLast?_cons,List.getLast?_eq_some_getLast hne] at *
  simpa using h
theorem words_val {l : List Nat} (h : wfl l) (hc : canl l = true) : words (val l) = l:=by
  induction l with
  | nil=>simp [val,words_zero]
  | cons x l ih =>
    obtain ⟨h1,h2⟩:=wfl_cons.1 h
    by_cases hv : val (x :: l) = 0
    · have:=val_eq_zero hc hv;cases this
    · rw [words_pos hv]
      have e1 : val (x :: l) % 4294967296 = x:=by simp only [val];omega
      have e2 : val (x :: l) / 4294967296 = val l:=by simp only [val];omega
      rw [e1,e2]
      by_cases hne : l = []
      · subst hne;simp [val,words_zero]
      · rw [ih h2 (canl_tail hc hne)]
theorem words_length_le {n k : Nat} (h : n < 4294967296 ^ k) : (words n).length ≤ k:=by
  induction k generalizing n with
  | zero => have : n = 0 := by omega
            subst this;simp [words_zero]
  | succ k ih =>
    by_cases hn : n = 0
    · subst hn;simp [words_zero]
    · rw [words_pos hn,List.length_cons]
      have:=ih (n:=n / 4294967296) (by rw [Nat.pow_succ] at h;omega)
      omega
theorem words_nil_iff {n : Nat} : words n = [] ↔ n = 0:=by
  constructor
  · intro h;by_cases hn : n = 0
    · exact hn
    · rw [words_pos hn] at h;cases h
  · rintro rfl;exact words_zero
theorem pow_bits {n : Nat} : 2 ^ n ≤ 4294967296 ^ (n / 32 + 1):=by
  have : (4294967296 : Nat) = 2 ^ 32:=by decide
  rw [this,← Nat.pow_mul]
  exact Nat.pow_le_pow_right (by omega) (by omega)
theorem words_length_bits {n m : Nat} (h : m < 2 ^ n) : (words m).length ≤ n / 32 + 1:=words_length_le (Nat.lt_of_lt_of_le h pow_bits)
theorem words_last {n : Nat} (h : n ≠ 0) : ∃ x,(words n).getLast? = some x ∧ x ≠ 0:=by
  have hc:=canl_words n
  unfold canl at hc
  cases hl : (words n).getLast? with
  | none=>rw [List.getLast?_eq_none_iff] at hl;exact absurd (words_nil_iff.1 hl) h
  | some x=>rw [hl] at hc;exact ⟨x,rfl,by simpa using hc⟩
theorem val_take_succ {l : List Nat} {k x : Nat} (h : l[k]? = some x) : val (l.take (k + 1)) = val (l.take k) + 4294967296 ^ k * x:=by
  have hk : k < l.length:=(List.getElem?_eq_some_iff.1 h).1
  have : l.take (k + 1) = l.take k ++ [x]:=by
    rw [List.take_add_one,h];rfl
  rw [this,val_append]
  simp [val,Nat.min_eq_left (Nat.le_of_lt hk)]
theorem val_take_of_ge {l : List Nat} {k : Nat} (h : l.length ≤ k) : val (l.take k) = val l:=by rw [List.take_of_length_le h]
def dig (l : List Nat) (k : Nat) : Nat:=l.getD k 0
theorem val_take_dig (l : List Nat) (k : Nat) : val (l.take (k + 1)) = val (l.take k) + 4294967296 ^ k * dig l k:=by
  unfold dig
  cases h : l[k]? with
  | some x=>rw [val_take_succ h];simp [h]
  | none =>
    have hk : l.length ≤ k:=by simpa using h
    rw [val_take_of_ge (by omega),val_take_of_ge hk];simp [h]
theorem dig_lt {l : List Nat} (h : wfl l) (k : Nat) : dig l k < 4294967296:=by
  unfold dig
  cases hx : l[k]? with
  | some x=>simp [hx];exact h.get hx
  | none=>simp [hx]
theorem val_split (l : List Nat) (k : Nat) : val l = val (l.take k) + 4294967296 ^ k * val (l.drop k):=by
  by_cases hk : k ≤ l.length
  · conv=>lhs;rw [← List.take_append_drop k l]
    rw [val_append,List.length_take,Nat.min_eq_left hk]
  · rw [List.take_of_length_le (by omega),List.drop_of_length_le (by omega)];simp [val]
theorem val_drop_dig (l : List Nat) (k : Nat) : val (l.drop k) = dig l k + 4294967296 * val (l.drop (k + 1)):=by
  unfold dig
  cases h : l[k]? with
  | some x =>
    have hk : k < l.length:=(List.getElem?_eq_some_iff.1 h).1
    rw [List.drop_eq_getElem_cons hk]
    have : l[k] = x:=(List.getElem?_eq_some_iff.1 h).2
    simp [val,this,h]
  | none =>
    have hk : l.length ≤ k:=by simpa using h
    rw [List.drop_of_length_le hk,List.drop_of_length_le (by omega)];simp [val,h]
end Go.Proofs.YtboicjlbbbodgaaGreatDoor
namespace Go.Proofs.YtboicjlbbbodgaaGreatDoor
open Go.RowKit (Below)
def Gc (G : Gh) (b i : Nat) : Option Value:=match G b with | some (.cells cs _ _)=>cs[i]? | _=>none
theorem Gc.mono {G G' : Gh} (h : Gle G G') {b i : Nat} {v : Value} (hc : Gc G b i = some v) : Gc G' b i = some v:=by
  unfold Gc at hc ⊢
  cases hb : G b with
  | none=>simp [hb] at hc
  | some o=>rw [hb] at hc;rw [h b o hb];exact hc
theorem Gc.cell {w : World} {G : Gh} (hok : Gok w G) {b i : Nat} {v : Value} (hc : Gc G b i = some v) : w.cell? ⟨b,i,none⟩ = some v:=by
  unfold Gc at hc
  split at hc
  · rename_i cs ty fr hb
    have:=hok _ _ hb
    simpa [World.cell?,this] using hc
  · cases hc
theorem Gc.block {G : Gh} {b i : Nat} {v : Value} (hc : Gc G b i = some v) : ∃ cs ty fr,G b = some (.cells cs ty fr) ∧ cs[i]? = some v:=by
  unfold Gc at hc
  split at hc
  · rename_i cs ty fr hb;exact ⟨cs,ty,fr,hb,hc⟩
  · cases hc
abbrev u32 (x : Nat) : Value:=.int .u32 (x : Int)
def ucells (l : List Nat) : List Value:=l.map u32
abbrev LIM : Nat:=35184372088832
abbrev BIG : Nat:=1099511627776
def SL (l : List Nat) : MT:=⟨fun v G=>∃ A c,v = .slice A l.length c ∧ l.length ≤ c ∧ l.length ≤ LIM ∧ wfl l ∧ ∀ i x,l[i]? = some x → ∃ b off,A = some ⟨b,off,none⟩ ∧ Gc G b (off + i) = some (u32 x),
  fun hle ⟨A,c,h1,h2,h3,h4,h5⟩=>⟨A,c,h1,h2,h3,h4,fun i x hi=>by obtain ⟨b,off,e1,e2⟩:=h5 i x hi;exact ⟨b,off,e1,Gc.mono hle e2⟩⟩⟩
instance {l : List Nat} : Shp (SL l) none:=⟨fun {_ _} ⟨_,_,h,_⟩=>by subst h;exact ⟨rfl,rfl⟩⟩
theorem SL.nil {G : Gh} : (SL []).t (.slice none 0 0) G:=⟨none,0,rfl,by simp,by simp,wfl_nil,fun i x h=>by simp at h⟩
theorem SL.wf {l : List Nat} {v : Value} {G : Gh} (h : (SL l).t v G) : wfl l:=h.choose_spec.choose_spec.2.2.2.1
theorem SL.lim {l : List Nat} {v : Value} {G : Gh} (h : (SL l).t v G) : l.length ≤ LIM:=h.choose_spec.choose_spec.2.2.1
def Elt (k : Option Nat) (τ : MT) (G : Gh) (b i : Nat) : Prop :=
  match k with
  | none=>∃ u,Gc G b i = some u ∧ τ.t u G ∧ Shaped none u
  | some n=>∃ cs : Array Value,cs.size = n ∧ (∀ (j : Nat) (u : Value),cs[j]? = some u → Gc G b (i + j) = some u) ∧ τ.t (.agg cs) G ∧ ∀ c ∈ cs.toList,c.oneCell' = true
theorem Elt.mono {k : Option Nat} {τ : MT} {G G' : Gh} (hle : Gle G G') {b i : Nat} (h : Elt k τ G b i) : Elt k τ G' b i:=by
  cases k with
  | none=>obtain ⟨u,h1,h2,h3⟩:=h;exact ⟨u,Gc.mono hle h1,τ.mono hle h2,h3⟩
  | some n=>obtain ⟨cs,h1,h2,h3,h4⟩:=h;exact ⟨cs,h1,fun j u hj=>Gc.mono hle (h2 j u hj),τ.mono hle h3,h4⟩
def LS (k : Option Nat) (τs : List MT) : MT:=⟨fun v G=>∃ A c,v = .slice A τs.length c ∧ τs.length ≤ c ∧ τs.length ≤ LIM ∧ ∀ (i : Nat) (τ : MT),τs[i]? = some τ → ∃ b off,A = some ⟨b,off,none⟩ ∧ Elt k τ G b (off + i * k.getD 1),
  fun hle ⟨A,c,h1,h2,h3,h4⟩=>⟨A,c,h1,h2,h3,fun i x hi=>by obtain ⟨b,off,e1,e2⟩:=h4 i x hi;exact ⟨b,off,e1,e2.mono hle⟩⟩⟩
instance {k : Option Nat} {τs : List MT} : Shp (LS k τs) none:=⟨fun {_ _} ⟨_,_,h,_⟩=>by subst h;exact ⟨rfl,rfl⟩⟩
theorem LS.nil {k : Option Nat} {G : Gh} : (LS k []).t (.slice none 0 0) G:=⟨none,0,rfl,by simp,by simp,fun i x h=>by simp at h⟩
def PE (k : Option Nat) (τ : MT) : MT:=⟨fun v G=>∃ b i,v = .pointer (some ⟨b,i,none⟩) ∧ Elt k τ G b i,fun hle ⟨b,i,h,h2⟩=>⟨b,i,h,h2.mono hle⟩⟩
section
variable {P : Program} {o : Oper} {a : Act} {w : World} {G : Gh} {τ : MT} {W0 : World}
theorem wrap_i64 {n : Int} (h : -9223372036854775808 ≤ n ∧ n ≤ 9223372036854775807) : Value.int .i64 (IntKind.i64.wrap n) = .int .i64 n:=by
  rw [IntWalk.i64_in n h]
theorem wrap_u32 {n : Int} (h : 0 ≤ n ∧ n ≤ 4294967295) : Value.int .u32 (IntKind.u32.wrap n) = .int .u32 n:=by
  rw [IntWalk.u32_in n h]
theorem OpR.lenA {x : Operand} {t e : TypeId} {A : Option Addr} {n c : Nat} (hok : Gok w G) (ho : o.op = .call { callee := .builtin .len, args := #[x], argTypes := #[t] }) (ht : P.underlying t = some (.slice e)) (hx : a.eval x = .slice A n c)
    (h : τ.t (.int .i64 (n : Int)) G) : OpR P o a w G τ :=
  .run hok (by simp [execOp,ho,resolve,invoke,builtin,hx,Builtin.len_,run_underlying ht,goInt]) h
theorem OpR.lenL {x : Operand} {t e : TypeId} {l : List Nat} (hok : Gok w G) (ho : o.op = .call { callee := .builtin .len, args := #[x], argTypes := #[t] }) (ht : P.underlying t = some (.slice e)) (hx : (SL l).t (a.eval x) G)
    (h : τ.t (.int .i64 (l.length : Int)) G) : OpR P o a w G τ:=by
  obtain ⟨A,c,hx,_⟩:=hx;exact .lenA hok ho ht hx h
theorem OpR.lenS {x : Operand} {t e : TypeId} {k : Option Nat} {τs : List MT} (hok : Gok w G) (ho : o.op = .call { callee := .builtin .len, args := #[x], argTypes := #[t] }) (ht : P.underlying t = some (.slice e)) (hx : (LS k τs).t (a.eval x) G)
    (h : τ.t (.int .i64 (τs.length : Int)) G) : OpR P o a w G τ:=by
  obtain ⟨A,c,hx,_⟩:=hx;exact .lenA hok ho ht hx h
theorem OpR.ixA {x y : Operand} {t e : TypeId} {b off n c i : Nat} {m : Int} {k : IntKind} {s : Option Nat} (hok : Gok w G) (ho : o.op = .indexAddr t x y) (ht : P.underlying t = some (.slice e)) (hs : tyS P e s = true)
    (hx : a.eval x = .slice (some ⟨b,off,none⟩) n c) (hy : a.eval y = .int k m) (hm : m = (i : Int)) (hi : i < n) (h : τ.t (.pointer (some ⟨b,off + i * s.getD 1,none⟩)) G) : OpR P o a w G τ:=by
  subst hm
  refine .run hok (v:=.pointer (some ⟨b,off + i * s.getD 1,none⟩)) ?_ h
  simp [execOp,ho,Instr.indexAt,hx,hy,asIntOf,run_underlying ht,tyS_size hs,addr_add,Nat.not_le.2 hi]
theorem OpR.ixL {x y : Operand} {t e : TypeId} {l : List Nat} {i z : Nat} {m : Int} {k : IntKind} (hok : Gok w G) (ho : o.op = .indexAddr t x y) (ht : P.underlying t = some (.slice e)) (hs : tyS P e none = true)
    (hx : (SL l).t (a.eval x) G) (hy : a.eval y = .int k m) (hm : m = (i : Int)) (hi : l[i]? = some z) : OpR P o a w G (PE none (.ex (u32 z))):=by
  obtain ⟨A,c,hx,_,_,_,hc⟩:=hx
  obtain ⟨b,off,rfl,hb⟩:=hc i z hi
  exact .ixA hok ho ht hs hx hy hm (List.getElem?_eq_some_iff.1 hi).1 ⟨b,off + i,by simp,_,hb,rfl,rfl,rfl⟩
theorem OpR.ixS {x y : Operand} {t e : TypeId} {s : Option Nat} {τs : List MT} {i : Nat} {m : Int} {k : IntKind} {τ' : MT} (hok : Gok w G) (ho : o.op = .indexAddr t x y) (ht : P.underlying t = some (.slice e)) (hs : tyS P e s = true)
    (hx : (LS s τs).t (a.eval x) G) (hy : a.eval y = .int k m) (hm : m = (i : Int)) (hi : τs[i]? = some τ') : OpR P o a w G (PE s τ'):=by
  obtain ⟨A,c,hx,_,_,hc⟩:=hx
  obtain ⟨b,off,rfl,hb⟩:=hc i τ' hi
  exact .ixA hok ho ht hs hx hy hm (List.getElem?_eq_some_iff.1 hi).1 ⟨b,_,rfl,hb⟩
theorem OpR.ldE {x : Operand} {t : TypeId} {k : Option Nat} (hok : Gok w G) (ho : o.op = .load t x) (hT : tyS P t k = true) (hx : (PE k τ).t (a.eval x) G) : OpR P o a w G τ:=by
  obtain ⟨b,i,hx,hE⟩:=hx
  cases k with
  | none =>
    obtain ⟨u,hc,hτ,_⟩:=hE
    obtain ⟨cs,ty,fr,hb,hv⟩:=Gc.block hc
    exact .ldG1 hok ho hx hb hT hv hτ
  | some n =>
    obtain ⟨cs,hn,hc,hτ,_⟩:=hE
    refine .run hok (v:=.agg cs) ?_ hτ
    obtain ⟨h1,h2⟩:=tyS_some hT w
    have hl:=run_loadCells_list (P:=P) (w:=w) ⟨b,i,none⟩ cs.toList (fun j v hj=>by
      rw [addr_add];exact Gc.cell hok (hc j v (by simpa using hj)))
    simp only [Array.length_toList,hn] at hl
    simp [execOp,ho,hx,Instr.loadAt,Instr.sureAddr,loadVar,h1,h2,hl]
theorem OpR.ldElem {x : Operand} {t ty : TypeId} {b i z : Nat} {k : Option Nat} {l : List Nat} (hok : Gok w G) (ho : o.op = .load t x) (hx : a.eval x = .pointer (some ⟨b, i, none⟩)) (hb : BX.ok ⟨b, ty, k, .ex (.agg (ucells l).toArray)⟩ W0 w G)
    (hT : tyS P t none = true) (hz : l[i]? = some z) : OpR P o a w G (.ex (u32 z)) :=
  .ldCell hok ho hx hb hT fun v hv _=>by
    cases hv
    exact ⟨u32 z,by simp [Value.cells,ucells,hz],rfl⟩
end
end Go.Proofs.YtboicjlbbbodgaaGreatDoor
namespace Go.Proofs.YtboicjlbbbodgaaGreatDoor
open Go.RowKit (Below)
section
variable {P : Program} {W0 : World} {G0 : Gh} {N : Nat} {L : List (Nat × MT)} {B : List BX} {a : Act} {w : World} {G : Gh} {τ : MT}
variable {ops : Array Oper} {rest : List Oper} {o : Oper} {Q : Exit → Act → World → Prop}
theorem ucells_one {l : List Nat} : ∀ c ∈ (ucells l).toArray.toList,c.oneCell' = true:=fun c hc=>by
  simp only [ucells,List.mem_map] at hc
  obtain ⟨x,_,rfl⟩:=hc;rfl
theorem ucells_shaped {l : List Nat} {n : Nat} (h : l.length = n) : Shaped (some n) (.agg (ucells l).toArray):=⟨_,rfl,by simp [ucells,h],ucells_one⟩
def elS (P : Program) (e : TypeId) (size bytes : Nat) (z : Value) : Prop:=(P.info? e).map (fun i=>(i.size,i.bytes,i.zero)) = some (size,bytes,some z)
theorem elS_of {e : TypeId} {z : Value} {size bytes : Nat} (h : elS P e size bytes z) : ∃ i,P.info? e = some i ∧ i.size = size ∧ i.bytes = bytes ∧ i.zero = some z:=by
  unfold elS at h
  cases hi : P.info? e with
  | none=>simp [hi] at h
  | some i=>simp [hi] at h;exact ⟨i,rfl,h.1,h.2.1,h.2.2⟩
theorem St.mkSlice (S : St W0 G0 N L B a w G) {d n bytes : Nat} {t e : TypeId} {x y : Operand} {m m' : Int} (ho : o.op = .makeSlice t x y) (hd : o.dst = some d) (hg : o.guard = none) (ht : P.underlying t = some (.slice e)) (he : elS P e 1 bytes (u32 0))
    (hx : a.eval x = .int .i64 m) (hy : a.eval y = .int .i64 m') (hm : m = (n : Int)) (hm' : m' = (n : Int)) (hn : n * bytes ≤ 281474976710656) (hn' : n ≤ 281474976710656) (hdN : (decide (d < N)) = true) (hf : fresh d L = true)
    (K : ∀ b a' w' G',St W0 G0 N ((d,.ex (.slice (some ⟨b,0,none⟩) n n)) :: L) (⟨b,e,some n,.ex (.agg (ucells (List.replicate n 0)).toArray)⟩ :: B) a' w' G' → wpList P ops Q rest a' w') : wpList P ops Q (o :: rest) a w :=
  wpList_plain hg fun K' hK=>by
    subst hm hm'
    obtain ⟨i,hi,h1,h2,h3⟩:=elS_of he
    have hcells : (ucells (List.replicate n 0)).toArray = (List.replicate n (u32 0)).toArray:=by simp [ucells]
    have hmk:=run_make (P:=P) w t e i (u32 0) ht hi h3 .i64 .i64 (n : Int) (n : Int) (by omega) (Int.le_refl _) (by rw [h2,show (bytes : Int) * (n : Int) = ((n * bytes : Nat) : Int) from by rw [Int.natCast_mul,Int.mul_comm]];omega) (by omega)
    simp only [Int.toNat_natCast,h1,Nat.mul_one] at hmk
    have hmc : madeCells (u32 0).cells n = (List.replicate n (u32 0)).toArray:=by
      have:=toList_madeCells_one (u32 0) n
      rw [← this];simp [Value.cells]
    have hr : (execOp a.eval o).run P w = .ok (.value (.slice (some ⟨w.heap.size,0,none⟩) n n)) (w.alloc (.cells (List.replicate n (u32 0)).toArray e)):=by
      rw [hmc] at hmk
      simp [execOp,ho,hx,hy,hmk]
    unfold Oper.wp
    rw [hr]
    simp only [Oper.upon,hd]
    have S':=(S.newVar (v:=.agg (ucells (List.replicate n 0)).toArray) (t:=e) (k:=some n) (τ:=.ex (.agg (ucells (List.replicate n 0)).toArray)) (ucells_shaped (by simp)) rfl).put (v:=.slice (some ⟨w.heap.size,0,none⟩) n n) (of_decide_eq_true hdN) hf (τ:=.ex (.slice (some ⟨w.heap.size,0,none⟩) n n)) rfl (Nxt.refl (S.ok.alloc _))
    rw [← hcells]
    exact hK _ _ (K w.heap.size _ _ G S')
theorem St.setElem (S : St W0 G0 N L B a w G) (i : Nat) {b j n z : Nat} {ty t : TypeId} {x y : Operand} {l : List Nat} {m : Int} (ho : o.op = .store t x y) (hd : o.dst = none) (hg : o.guard = none)
    (hi : B[i]? = some ⟨b,ty,some n,.ex (.agg (ucells l).toArray)⟩) (hx : a.eval x = .pointer (some ⟨b,j,none⟩)) (hT : tyS P t none = true) (hy : a.eval y = .int .u32 m) (hm : m = (z : Int)) (hj : j < n)
    (K : ∀ w',St W0 G0 N L (B.set i ⟨b,ty,some n,.ex (.agg (ucells (l.set j z)).toArray)⟩) a w' G → wpList P ops Q rest a w') : wpList P ops Q (o :: rest) a w:=by
  subst hm
  refine S.storeAt i ho hd hg hi hx hT (k':=none) (by rw [hy];exact ⟨rfl,rfl⟩) (show j + 1 ≤ n from hj) (fun cs hcs hv=>?_) K
  have hv : Value.agg cs = .agg (ucells l).toArray:=hv
  injection hv with hv
  subst hv
  have hl : l.length = n:=by simpa [ucells] using hcs
  show Value.agg _ = Value.agg _
  congr 2
  rw [hy]
  apply List.ext_getElem?
  intro k
  simp only [Value.cells,Option.getD_none,ucells]
  rw [List.append_assoc,List.getElem?_append]
  simp only [List.length_take,List.length_map,List.getElem?_map,List.getElem?_set,hl]
  have hmin : min j n = j:=by omega
  rw [hmin]
  by_cases h1 : k < j
  · simp [h1,show ¬ j = k from by omega]
  · by_cases h2 : k = j
    · subst h2;simp [hj]
    · simp only [if_neg h1,if_neg (Ne.symm h2)]
      rw [List.getElem?_append_right (by simp;omega)]
      simp only [List.length_cons,List.length_nil,List.getElem?_drop,List.getElem?_map]
      congr 2;omega
theorem Gc_put {b i : Nat} {cs : Array Value} {ty : TypeId} {fr : Nat × Nat} {v : Value} (h : cs[i]? = some v) : Gc (Gput G b (.cells cs ty fr)) b i = some v:=by simp [Gc,Gput,h]
theorem build_one {t e : TypeId} {n bytes : Nat} {z : Value} {parts : List (Nat × Value)} {cs : Array Value} (ht : P.underlying t = some (.slice e)) (he : elS P e 1 bytes z) (hz : z.cells = #[z]) (hn : n ≤ 16777216)
    (hf : Instr.fill (fun i=>some (i,1)) (List.replicate n z).toArray parts = some cs) :
    (Instr.buildSlice t n parts.toArray).run P w = .ok (.slice (some ⟨w.heap.size,0,none⟩) n n) (w.alloc (.cells cs e)):=by
  obtain ⟨i,hi,h1,h2,h3⟩:=elS_of he
  have hr : (Array.range n).map (fun i=>([z] : List Value)[i % 1]?.getD default) = (List.replicate n z).toArray:=by
    apply Array.ext
    · simp
    · intro i h1 h2;simp [Nat.mod_one]
  have hbig : ¬ 16777216 < n:=by omega
  by_cases h0 : n = 0
  · subst h0
    simp only [List.replicate_zero] at hf
    simp [Instr.buildSlice,run_underlying ht,sizeOf,typeInfo,hi,h1,show Array.range 0 = #[] from rfl,hf,newRow]
  · have hzr : (zeroValue e).run P w = .ok z w:=by simp [zeroValue,typeInfo,hi,h3]
    have hf' : Instr.fill (fun i=>some (i,1)) (Array.replicate n z) parts = some cs:=by simpa using hf
    simp [Instr.buildSlice,run_underlying ht,sizeOf,typeInfo,hi,h1,hbig,h0,hzr,hz,hr,hf',newRow]
theorem OpR.build32 {t e : TypeId} {n bytes : Nat} {ps : Array (Nat × Operand)} {l : List Nat} (hok : Gok w G) (ho : o.op = .buildSlice t n ps) (ht : P.underlying t = some (.slice e)) (he : elS P e 1 bytes (u32 0)) (hn : n ≤ 16777216) (hl : l.length = n) (hw : wfl l)
    (hf : Instr.fill (fun i=>some (i,1)) (List.replicate n (u32 0)).toArray ((ps.map fun (i,x)=>(i,a.eval x)).toList) = some (ucells l).toArray) : OpR P o a w G (SL l):=by
  have hb:=build_one (w:=w) ht he rfl hn hf
  simp only [Array.toArray_toList] at hb
  refine .run' (w':=w.alloc (.cells (ucells l).toArray e)) (G':=Gput G w.heap.size (.cells (ucells l).toArray e)) (v:=.slice (some ⟨w.heap.size,0,none⟩) n n) ?_ (Nxt.allocPut hok _) ?_
  · simp only [execOp,ho,Sem.run_bind,hb];rfl
  · refine ⟨_,n,by rw [hl],by omega,by simp only [LIM];omega,hw,fun i x hi=>⟨_,0,rfl,?_⟩⟩
    rw [Nat.zero_add];exact Gc_put (by simp [ucells,hi])
theorem run_slice_hi {t e : TypeId} {A : Option Addr} {n c : Nat} {j : Nat} {k : IntKind} (ht : P.underlying t = some (.slice e)) {s : Option Nat} (hs : tyS P e s = true) (hj : j ≤ c) :
    (Instr.sliceAt t (.slice A n c) none (some (.int k (j : Int))) none).run P w = .ok (.slice A j c) w:=by
  have hA : (if c = 0 then A else A.map (·.add 0)) = A:=by
    split
    · rfl
    · cases A <;> simp [Addr.add]
  simp [Instr.sliceAt,run_underlying ht,Instr.slice,Instr.sliceBounds,Instr.sliceBound,asIntOf,hj,tyS_size hs,hA]
theorem OpR.cutL {x y : Operand} {t e : TypeId} {l : List Nat} {j : Nat} {k : IntKind} {m : Int} (hok : Gok w G) (ho : o.op = .slice t x none (some y) none) (ht : P.underlying t = some (.slice e)) (hs : tyS P e none = true)
    (hx : (SL l).t (a.eval x) G) (hy : a.eval y = .int k m) (hm : m = (j : Int)) (hj : j ≤ l.length) : OpR P o a w G (SL (l.take j)):=by
  subst hm
  obtain ⟨A,c,hx,h1,h2,h3,h4⟩:=hx
  refine .run hok (v:=.slice A j c) (by simp [execOp,ho,hx,hy,run_slice_hi ht hs (show j ≤ c by omega)]) ⟨A,c,by simp [Nat.min_eq_left hj],by simp;omega,by simp;omega,h3.take j,fun i z hi=>?_⟩
  rw [List.getElem?_take] at hi
  split at hi
  · exact h4 i z hi
  · cases hi
end
end Go.Proofs.YtboicjlbbbodgaaGreatDoor
namespace Go.Proofs.YtboicjlbbbodgaaGreatDoor
open Go.RowKit (Below)
abbrev nv (k : IntKind) (n : Nat) : Value:=.int k (n : Int)
abbrev IT (z : Int) : MT:=MT.ex (Value.int .i64 z)
abbrev NT (z : Nat) : MT:=MT.ex (nv .i64 z)
abbrev BT (b : Bool) : MT:=MT.ex (Value.bool b)
abbrev PB (b : Nat) : MT:=MT.ex (Value.pointer (some ⟨b,0,none⟩))
theorem nw_u64 {z : Int} {n : Nat} (h : z = n) (hn : n < 18446744073709551616) : Value.int .u64 (IntKind.u64.wrap z) = nv .u64 n:=by
  subst h;rw [IntWalk.u64_in _ (by omega)]
theorem nw_u32 {z : Int} {n : Nat} (h : z = n) : Value.int .u32 (IntKind.u32.wrap z) = nv .u32 (n % 4294967296):=by
  subst h;rw [IntKind.wrap_u32];rfl
theorem iw_i64 {z n : Int} (h : z = n) (hn : -9223372036854775808 ≤ n ∧ n ≤ 9223372036854775807) : Value.int .i64 (IntKind.i64.wrap z) = .int .i64 n:=by
  subst h;rw [IntWalk.i64_in _ hn]
theorem tdiv_nat {m n : Nat} : ((m : Int).tdiv (n : Int)) = ((m / n : Nat) : Int):=by
  rw [Int.tdiv_eq_ediv_of_nonneg (by omega)];simp
theorem tmod_nat {m n : Nat} : ((m : Int).tmod (n : Int)) = ((m % n : Nat) : Int):=by
  rw [Int.tmod_eq_emod_of_nonneg (by omega)];simp
theorem or_shift {x y k : Nat} (h : y < 2 ^ k) : x * 2 ^ k ||| y = x * 2 ^ k + y:=by
  rw [Nat.mul_comm,Nat.two_pow_add_eq_or_of_lt h]
theorem bv_or {m n : Nat} (hm : m < 18446744073709551616) (hn : n < 18446744073709551616) : Value.int .u64 (IntKind.u64.wrap ((BitVec.ofInt IntKind.u64.bits (m : Int) ||| BitVec.ofInt IntKind.u64.bits (n : Int)).toNat : Int)) = nv .u64 (m ||| n):=by
  have h1 : (BitVec.ofInt 64 (m : Int)).toNat = m:=by simp;omega
  have h2 : (BitVec.ofInt 64 (n : Int)).toNat = n:=by simp;omega
  show Value.int .u64 (IntKind.u64.wrap ((BitVec.ofInt 64 (m : Int) ||| BitVec.ofInt 64 (n : Int)).toNat : Int)) = _
  rw [BitVec.toNat_or,h1,h2]
  have : m ||| n < 2 ^ 64:=Nat.or_lt_two_pow (by omega) (by omega)
  exact nw_u64 rfl (by omega)
theorem least_of {p : Nat → Prop} (h : ∃ n,p n) : ∃ n,p n ∧ ∀ m,m < n → ¬ p m:=by
  obtain ⟨n,hn⟩:=h
  induction n using Nat.strongRecOn with
  | _ n ih =>
    by_cases hh : ∃ m,m < n ∧ p m
    · obtain ⟨m,h1,h2⟩:=hh;exact ih m h1 h2
    · exact ⟨n,hn,fun m h1 h2=>hh ⟨m,h1,h2⟩⟩
theorem wp_loopJ {P : Program} {c : Code} {Q : Exit → Act → World → Prop} {a : Act} {w : World} (J : Nat → Act → World → Prop) (m0 : Nat) (h0 : J m0 a w)
    (round : ∀ m a w,J m a w → c.wp P (Exit.then (fun a' w'=>∃ m',m' < m ∧ J m' a' w') Q) a w) : (Code.loop c).wp P Q a w:=by
  have hpick : ∀ a w,∃ m,(∃ n,J n a w) → J m a w ∧ ∀ n,n < m → ¬ J n a w:=fun a w=>by
    by_cases h : ∃ n,J n a w
    · obtain ⟨m,hm⟩:=least_of h;exact ⟨m,fun _=>hm⟩
    · exact ⟨0,fun h'=>absurd h' h⟩
  obtain ⟨μ,hμ⟩ : ∃ μ : Act → World → Nat,∀ a w,(∃ n,J n a w) → J (μ a w) a w ∧ ∀ n,n < μ a w → ¬ J n a w:=⟨fun a w=>Classical.choose (hpick a w),fun a w=>Classical.choose_spec (hpick a w)⟩
  refine wp_loop (fun a w=>∃ n,J n a w) μ ⟨m0,h0⟩ fun a w hI=>?_
  refine Code.wp_mono ?_ (round _ a w (hμ a w hI).1)
  intro e a' w' h
  cases e with
  | normal =>
    obtain ⟨m',h1,h2⟩:=h
    refine ⟨⟨m',h2⟩,?_⟩
    have:=(hμ a' w' ⟨m',h2⟩).2 m'
    rcases Nat.lt_or_ge m' (μ a' w') with h3 | h3
    · exact absurd h2 (this h3)
    · omega
  | _=>exact h
theorem exit_same {id : Nat} {Q : Exit → Act → World → Prop} {a : Act} {w : World} (h : Q .normal a w) : Exit.inBlock id Q (.exit id) a w:=by simpa [Exit.inBlock] using h
section
variable {v1 v2 v3 v4 v5 : Value} {G : Gh} {τ1 τ2 τ3 τ4 τ5 : MT}
theorem enter0 : ∀ (i : Nat) (p : Nat × MT),([] : List (Nat × MT))[i]? = some p → ∃ v,([] : List Value)[p.1]? = some v ∧ p.2.t v G:=fun i p h=>by simp at h
theorem enter1 (h1 : τ1.t v1 G) : ∀ (i : Nat) (p : Nat × MT),[(0,τ1)][i]? = some p → ∃ v,[v1][p.1]? = some v ∧ p.2.t v G:=fun i p h=>by
  match i,h with
  | 0,h=>cases h;exact ⟨_,rfl,h1⟩
theorem enter2 (h1 : τ1.t v1 G) (h2 : τ2.t v2 G) : ∀ (i : Nat) (p : Nat × MT),[(1,τ2),(0,τ1)][i]? = some p → ∃ v,[v1,v2][p.1]? = some v ∧ p.2.t v G:=fun i p h=>by
  match i,h with
  | 0,h=>cases h;exact ⟨_,rfl,h2⟩
  | 1,h=>cases h;exact ⟨_,rfl,h1⟩
theorem enter3 (h1 : τ1.t v1 G) (h2 : τ2.t v2 G) (h3 : τ3.t v3 G) : ∀ (i : Nat) (p : Nat × MT),[(2,τ3),(1,τ2),(0,τ1)][i]? = some p → ∃ v,[v1,v2,v3][p.1]? = some v ∧ p.2.t v G:=fun i p h=>by
  match i,h with
  | 0,h=>cases h;exact ⟨_,rfl,h3⟩
  | 1,h=>cases h;exact ⟨_,rfl,h2⟩
  | 2,h=>cases h;exact ⟨_,rfl,h1⟩
theorem sh {τ : MT} {k : Option Nat} [s : Shp τ k] {v : Value} (h : τ.t v G) : Shaped k v:=s.sh h
end
section
variable {P : Program} {o : Oper} {a : Act} {w : World} {G : Gh} {τ τ' : MT}
theorem OpR.conv' (h : OpR P o a w G τ) (f : ∀ v G,τ.t v G → τ'.t v G) : OpR P o a w G τ':=fun Q K hK=>h Q K fun v w' G' hv hn=>hK v w' G' (f v G' hv) hn
variable {W0 : World} {G0 : Gh} {N : Nat} {L : List (Nat × MT)} {B : List BX}
theorem St.boolIs (S : St W0 G0 N L B a w G) (i : Nat) {t : Nat} {c b : Bool} (h : L[i]? = some (t,.ex (.bool c))) (hc : c = b) : St W0 G0 N ((t,.ex (.bool b)) :: L) B a w G :=
  S.also (by have:=S.e i h;rw [hc] at this;exact this)
theorem St.castBox (S : St W0 G0 N L B a w G) (i : Nat) {b : Nat} {ty : TypeId} {k : Option Nat} (hi : B[i]? = some ⟨b,ty,k,τ⟩) (h : ∀ v,τ.t v G → Shaped k v → τ'.t v G) : St W0 G0 N L (B.set i ⟨b,ty,k,τ'⟩) a w G where
  nxt:=S.nxt
  size:=S.size
  dfr:=S.dfr
  ty:=S.ty
  bx:=fun j y hj=>by
    rw [List.getElem?_set] at hj
    split at hj
    · rename_i e;subst e
      split at hj
      · cases hj
        obtain ⟨h1,h2,u,hu,hs,ht⟩:=S.bx i _ hi
        exact ⟨h1,h2,u,hu,hs,h u ht hs⟩
      · cases hj
    · exact S.bx j y hj
  nd:=fun j k' y z hj hk hjk=>by
    have key : ∀ (j : Nat) (y : BX),(B.set i ⟨b,ty,k,τ'⟩)[j]? = some y → ∃ y' : BX,B[j]? = some y' ∧ y'.b = y.b:=fun j y hj=>by
      rw [List.getElem?_set] at hj
      split at hj
      · rename_i e;subst e
        split at hj
        · cases hj;exact ⟨_,hi,rfl⟩
        · cases hj
      · exact ⟨y,hj,rfl⟩
    obtain ⟨y',hy',e1⟩:=key j y hj
    obtain ⟨z',hz',e2⟩:=key k' z hk
    rw [← e1,← e2]
    exact S.nd j k' y' z' hy' hz' hjk
theorem St.keepB (S : St W0 G0 N L B a w G) (l : List Nat) (hl : l.Nodup) : St W0 G0 N L (pickL B l) a w G:=by
  refine { S with bx:=fun j x hx=>?_,nd:=fun j k x y hx hy hjk=>?_ }
  · obtain ⟨i,hi⟩:=pickL_get hx;exact S.bx i x hi
  · have key : ∀ (l : List Nat), l.Nodup → ∀ (j k : Nat) (x y : BX), (pickL B l)[j]? = some x → (pickL B l)[k]? = some y → j ≠ k → ∃ j' k' : Nat, j' ≠ k' ∧ B[j']? = some x ∧ B[k']? = some y := by
      intro l
      induction l with
      | nil=>intro _ j k x y hx;simp [pickL] at hx
      | cons i l ih =>
        intro hnd j k x y hx hy hjk
        obtain ⟨hni,hnd'⟩:=List.nodup_cons.1 hnd
        have hmem : ∀ (k : Nat) (y : BX),(pickL B l)[k]? = some y → ∃ k' : Nat,k' ∈ l ∧ B[k']? = some y:=fun k y hy=>by
          obtain ⟨k',h1,h2⟩:=List.mem_filterMap.1 (List.mem_of_getElem? hy)
          exact ⟨k',h1,h2⟩
        cases hb : B[i]? with
        | none =>
          have : pickL B (i :: l) = pickL B l:=by simp [pickL,hb]
          rw [this] at hx hy
          exact ih hnd' j k x y hx hy hjk
        | some z =>
          have : pickL B (i :: l) = z :: pickL B l:=by simp [pickL,hb]
          rw [this] at hx hy
          cases j with
          | zero =>
            cases hx
            cases k with
            | zero=>omega
            | succ k=>obtain ⟨k',h1,h2⟩:=hmem k y hy;exact ⟨i,k',fun e=>hni (e ▸ h1),hb,h2⟩
          | succ j =>
            cases k with
            | zero=>cases hy;obtain ⟨j',h1,h2⟩:=hmem j x hx;exact ⟨j',i,fun e=>hni (e ▸ h1),h2,hb⟩
            | succ k=>exact ih hnd' j k x y hx hy (by omega)
    obtain ⟨j',k',h1,h2,h3⟩:=key l hl j k x y hx hy hjk
    exact S.nd j' k' x y h2 h3 h1
end
end Go.Proofs.YtboicjlbbbodgaaGreatDoor
namespace Go.Proofs.YtboicjlbbbodgaaGreatDoor
open Go.RowKit (Below)
theorem wr_u64 {n : Nat} (h : n < 18446744073709551616) : IntKind.u64.wrap (n : Int) = n:=IntWalk.u64_in _ (by omega)
theorem wr_i64 {n : Nat} (h : n < 9223372036854775808) : IntKind.i64.wrap (n : Int) = n:=IntWalk.i64_in _ (by omega)
theorem wr_u32 {n : Nat} (h : n < 4294967296) : IntKind.u32.wrap (n : Int) = n:=IntWalk.u32_in _ (by omega)
theorem wr_u8 {n : Nat} (h : n < 256) : IntKind.u8.wrap (n : Int) = n:=IntWalk.u8_in _ (by omega)
theorem nv_eq {k : IntKind} {m n : Nat} (h : m = n) : nv k m = nv k n:=by rw [h]
theorem iv_eq {k : IntKind} {m n : Int} (h : m = n) : Value.int k m = Value.int k n:=by rw [h]
theorem ptr_eq {b i j : Nat} (h : i = j) : Value.pointer (some ⟨b,i,none⟩) = Value.pointer (some ⟨b,j,none⟩):=by rw [h]
section
variable {P : Program} {o : Oper} {a : Act} {w : World} {G : Gh} {τ : MT} {x y : Operand} {k k' : IntKind} {t t' : TypeId} {m n : Nat}
theorem OpR.nadd (hok : Gok w G) (ho : o.op = .binOp .add t x y t') (hx : a.eval x = nv k m) (hy : a.eval y = nv k n) (hb : k.wrap ((m + n : Nat) : Int) = ((m + n : Nat) : Int)) (h : τ.t (nv k (m + n)) G) : OpR P o a w G τ :=
  .iadd hok ho hx hy (by rw [show ((m : Int) + (n : Int)) = ((m + n : Nat) : Int) from by omega,hb];exact h)
theorem OpR.nsub (hok : Gok w G) (ho : o.op = .binOp .sub t x y t') (hx : a.eval x = nv k m) (hy : a.eval y = nv k n) (hle : n ≤ m) (hb : k.wrap ((m - n : Nat) : Int) = ((m - n : Nat) : Int)) (h : τ.t (nv k (m - n)) G) : OpR P o a w G τ :=
  .isub hok ho hx hy (by rw [show ((m : Int) - (n : Int)) = ((m - n : Nat) : Int) from by omega,hb];exact h)
theorem OpR.nsubw (hok : Gok w G) (ho : o.op = .binOp .sub t x y t') (hx : a.eval x = nv .u64 m) (hy : a.eval y = nv .u64 n) (hn : n ≤ 18446744073709551616) (h : τ.t (nv .u64 ((m + 18446744073709551616 - n) % 18446744073709551616)) G) : OpR P o a w G τ :=
  .isub hok ho hx hy (by
    have e : IntKind.u64.wrap ((m : Int) - (n : Int)) = ((((m + 18446744073709551616 - n) % 18446744073709551616 : Nat)) : Int):=by
      rw [show IntKind.u64.wrap ((m : Int) - (n : Int)) = ((m : Int) - (n : Int)) % 18446744073709551616 from rfl];omega
    rw [e];exact h)
theorem OpR.nmul (hok : Gok w G) (ho : o.op = .binOp .mul t x y t') (hx : a.eval x = nv k m) (hy : a.eval y = nv k n) (hb : k.wrap ((m * n : Nat) : Int) = ((m * n : Nat) : Int)) (h : τ.t (nv k (m * n)) G) : OpR P o a w G τ :=
  .imul hok ho hx hy (by rw [show ((m : Int) * (n : Int)) = ((m * n : Nat) : Int) from by rw [Int.natCast_mul],hb];exact h)
theorem OpR.nquo (hok : Gok w G) (ho : o.op = .binOp .quo t x y t') (hx : a.eval x = nv k m) (hy : a.eval y = nv k n) (h0 : n ≠ 0) (hb : k.wrap ((m / n : Nat) : Int) = ((m / n : Nat) : Int)) (h : τ.t (nv k (m / n)) G) : OpR P o a w G τ :=
  .iquo hok ho hx hy (by omega) (by rw [tdiv_nat,hb];exact h)
theorem OpR.nrem (hok : Gok w G) (ho : o.op = .binOp .rem t x y t') (hx : a.eval x = nv k m) (hy : a.eval y = nv k n) (h0 : n ≠ 0) (h : τ.t (nv k (m % n)) G) : OpR P o a w G τ :=
  .irem hok ho hx hy (by omega) (by rw [tmod_nat];exact h)
theorem OpR.nshr (hok : Gok w G) (ho : o.op = .binOp .shr t x y t') (hx : a.eval x = nv k m) (hy : a.eval y = nv k' n) (hn : n ≤ k.bits) (h : τ.t (nv k (m / 2 ^ n)) G) : OpR P o a w G τ :=
  .shr hok ho hx hy (by omega) (by
    have e : (m : Int).fdiv ((2 : Int) ^ (min (n : Int).toNat k.bits)) = ((m / 2 ^ n : Nat) : Int):=by
      rw [Int.toNat_natCast,Nat.min_eq_left hn,Int.fdiv_eq_ediv_of_nonneg _ (Int.le_of_lt (Int.pow_pos (by decide)))];simp
    rw [e];exact h)
theorem OpR.nshl (hok : Gok w G) (ho : o.op = .binOp .shl t x y t') (hx : a.eval x = nv k m) (hy : a.eval y = nv k' n) (hn : n ≤ k.bits) (hb : k.wrap ((m * 2 ^ n : Nat) : Int) = ((m * 2 ^ n : Nat) : Int)) (h : τ.t (nv k (m * 2 ^ n)) G) : OpR P o a w G τ :=
  .shl hok ho hx hy (by omega) (by
    have e : (m : Int) * (2 : Int) ^ (min (n : Int).toNat k.bits) = ((m * 2 ^ n : Nat) : Int):=by rw [Int.toNat_natCast,Nat.min_eq_left hn];simp
    rw [e,hb];exact h)
theorem OpR.nor (hok : Gok w G) (ho : o.op = .binOp .or t x y t') (hx : a.eval x = nv .u64 m) (hy : a.eval y = nv .u64 n) (hm : m < 18446744073709551616) (hn : n < 18446744073709551616) (h : τ.t (nv .u64 (m ||| n)) G) : OpR P o a w G τ :=
  .bits hok ho hx hy (.inr ⟨rfl,by have:=bv_or hm hn;rw [this];exact h⟩)
theorem OpR.nconv {k0 : IntKind} (hok : Gok w G) (ho : o.op = .convert t t' x) (hx : a.eval x = nv k0 m) (h1 : intTy P t k0 = true) (h2 : intTy P t' k = true) (hb : k.wrap (m : Int) = (m : Int)) (h : τ.t (nv k m) G) : OpR P o a w G τ :=
  .conv hok ho hx h1 h2 (by rw [hb];exact h)
theorem OpR.nconv32 {k0 : IntKind} (hok : Gok w G) (ho : o.op = .convert t t' x) (hx : a.eval x = nv k0 m) (h1 : intTy P t k0 = true) (h2 : intTy P t' .u32 = true) (h : τ.t (nv .u32 (m % 4294967296)) G) : OpR P o a w G τ :=
  .conv hok ho hx h1 h2 (by have:=nw_u32 (z:=(m : Int)) (n:=m) rfl;rw [this];exact h)
theorem OpR.nlss (hok : Gok w G) (ho : o.op = .binOp .lss t x y t') (hx : a.eval x = nv k m) (hy : a.eval y = nv k n) (h : τ.t (.bool (decide (m < n))) G) : OpR P o a w G τ :=
  .ilss hok ho hx hy (by rw [show decide ((m : Int) < (n : Int)) = decide (m < n) from by simp];exact h)
theorem OpR.ngtr (hok : Gok w G) (ho : o.op = .binOp .gtr t x y t') (hx : a.eval x = nv k m) (hy : a.eval y = nv k n) (h : τ.t (.bool (decide (n < m))) G) : OpR P o a w G τ :=
  .igtr hok ho hx hy (by rw [show decide ((m : Int) > (n : Int)) = decide (n < m) from by simp];exact h)
theorem OpR.ngeq (hok : Gok w G) (ho : o.op = .binOp .geq t x y t') (hx : a.eval x = nv k m) (hy : a.eval y = nv k n) (h : τ.t (.bool (decide (n ≤ m))) G) : OpR P o a w G τ :=
  .igeq hok ho hx hy (by rw [show decide ((m : Int) ≥ (n : Int)) = decide (n ≤ m) from by simp];exact h)
theorem OpR.neql (hok : Gok w G) (ho : o.op = .binOp .eql t x y t') (hx : a.eval x = nv k m) (hy : a.eval y = nv k n) (h : τ.t (.bool (decide (m = n))) G) : OpR P o a w G τ :=
  .ieql hok ho hx hy (by rw [show ((m : Int) == (n : Int)) = decide (m = n) from by rw [Bool.eq_iff_iff];simp;omega];exact h)
theorem OpR.nneq (hok : Gok w G) (ho : o.op = .binOp .neq t x y t') (hx : a.eval x = nv k m) (hy : a.eval y = nv k n) (h : τ.t (.bool (decide (m ≠ n))) G) : OpR P o a w G τ :=
  .ineq hok ho hx hy (by rw [show ((m : Int) != (n : Int)) = decide (m ≠ n) from by rw [Bool.eq_iff_iff];simp;omega];exact h)
theorem OpR.mkI {v : Value} (hok : Gok w G) (ho : o.op = .makeInterface t x) (ht : (match P.underlying t with | some (.interface _)=>false | some _=>true | none=>false) = true) (hx : a.eval x = v) (h : τ.t (.iface t v) G) : OpR P o a w G τ:=by
  refine .run hok (v:=.iface t v) ?_ h
  split at ht
  · cases ht
  · rename_i d hd hP
    simp only [execOp,ho,hx,Instr.makeInterface,Sem.run_bind,run_underlying hP,Result.andThen_ok]
    cases d <;> first | rfl | exact absurd rfl (hd _)
  · cases ht
def ifaceT (P : Program) (t : TypeId) : Prop:=P.underlying t = some (.interface (P.methodsAt t))
def nilB : Value → Bool
  | .nilIface=>true
  | _=>false
theorem OpR.errEqNil {y' : Value} (hok : Gok w G) (ho : o.op = .binOp .eql t x (.const .nilIface) t') (ht : ifaceT P t) (hx : a.eval x = y') (hy : y' = .nilIface ∨ ∃ u v,y' = .iface u v) (h : τ.t (.bool (nilB y')) G) : OpR P o a w G τ:=by
  have hc : a.eval (.const .nilIface) = .nilIface:=rfl
  rcases hy with rfl | ⟨u,v,rfl⟩
  · exact .run hok (by simp only [execOp,ho,hx,hc,eqGuard,Sem.run_bind];simp;rw [run_eql_nil_nil w t ht];rfl) h
  · exact .run hok (by simp only [execOp,ho,hx,hc,eqGuard,Sem.run_bind];simp;rw [run_eql_held_nil w t u v ht];rfl) h
theorem OpR.errNeqNil {y' : Value} (hok : Gok w G) (ho : o.op = .binOp .neq t x (.const .nilIface) t') (ht : ifaceT P t) (hx : a.eval x = y') (hy : y' = .nilIface ∨ ∃ u v,y' = .iface u v) (h : τ.t (.bool (!nilB y')) G) : OpR P o a w G τ:=by
  have hc : a.eval (.const .nilIface) = .nilIface:=rfl
  rcases hy with rfl | ⟨u,v,rfl⟩
  · exact .run hok (by simp only [execOp,ho,hx,hc,eqGuard,Sem.run_bind];simp;rw [run_neq_nil_nil w t ht];rfl) h
  · exact .run hok (by simp only [execOp,ho,hx,hc,eqGuard,Sem.run_bind];simp;rw [run_neq_held_nil w t u v ht];rfl) h
end
end Go.Proofs.YtboicjlbbbodgaaGreatDoor
namespace Go.Proofs.YtboicjlbbbodgaaGreatDoor
open Go.RowKit (Below)
def SV (n m : Nat) : MT:=⟨fun v G=>m < 2 ^ n ∧ ∃ l,val l = m ∧ (SL l).t v G,fun hle ⟨h,l,h1,h2⟩=>⟨h,l,h1,(SL l).mono hle h2⟩⟩
def SN (n m : Nat) : MT:=⟨fun v G=>m < 2 ^ n ∧ (SL (words m)).t v G,fun hle ⟨h,h2⟩=>⟨h,(SL _).mono hle h2⟩⟩
instance {n m : Nat} : Shp (SV n m) none:=⟨fun {_ _} ⟨_,_,_,h⟩=>Shp.sh h⟩
instance {n m : Nat} : Shp (SN n m) none:=⟨fun {_ _} ⟨_,h⟩=>Shp.sh h⟩
section
variable {v : Value} {G : Gh} {n n' m m' : Nat} {l : List Nat}
theorem SN.toSV (h : (SN n m).t v G) : (SV n m).t v G:=⟨h.1,_,val_words m,h.2⟩
theorem SN.toSL (h : (SN n m).t v G) : (SL (words m)).t v G:=h.2
theorem SN.lt (h : (SN n m).t v G) : m < 2 ^ n:=h.1
theorem SN.up (h : (SN n m).t v G) (hn : n ≤ n') : (SN n' m).t v G:=⟨Nat.lt_of_lt_of_le h.1 (Nat.pow_le_pow_right (by omega) hn),h.2⟩
theorem SN.nil : (SN n 0).t (.slice none 0 0) G:=⟨Nat.pow_pos (by omega),by rw [words_zero];exact SL.nil⟩
theorem SN.eq (h : (SN n m).t v G) (e : m = m') : (SN n m').t v G:=e ▸ h
theorem SV.eq (h : (SV n m).t v G) (e : m = m') : (SV n m').t v G:=e ▸ h
theorem SL.toSV (h : (SL l).t v G) (hb : val l < 2 ^ n) : (SV n (val l)).t v G:=⟨hb,l,rfl,h⟩
end
def WR (s : Bool) (l : List Nat) : MT:=⟨fun v G=>∃ x,v = .agg #[.bool s,x] ∧ (SL l).t x G,fun hle ⟨x,h,h2⟩=>⟨x,h,(SL l).mono hle h2⟩⟩
def wok (s : Bool) (l : List Nat) : Bool:=if l = [] then !s else canl l
def wval (s : Bool) (l : List Nat) : Int:=if wok s l then (if s then -(val l : Int) else val l) else 0
def W (n : Nat) (z : Int) : MT:=⟨fun v G=>z.natAbs < 2 ^ n ∧ ∃ s l,wval s l = z ∧ (WR s l).t v G,fun hle ⟨h,s,l,h1,h2⟩=>⟨h,s,l,h1,(WR s l).mono hle h2⟩⟩
def WC (n : Nat) (z : Int) : MT:=⟨fun v G=>z.natAbs < 2 ^ n ∧ (WR (decide (z < 0)) (words z.natAbs)).t v G,fun hle ⟨h,h2⟩=>⟨h,(WR _ _).mono hle h2⟩⟩
instance {s : Bool} {l : List Nat} : Shp (WR s l) (some 2):=⟨fun {v G} ⟨x,h,h2⟩=>by
  have hx : x.oneCell' = true:=(Shp.sh (k:=none) h2).2
  subst h;exact ⟨_,rfl,rfl,by simp [show (Value.bool s).oneCell' = true from rfl,hx]⟩⟩
instance {n : Nat} {z : Int} : Shp (W n z) (some 2):=⟨fun {_ _} ⟨_,_,_,_,h⟩=>Shp.sh h⟩
instance {n : Nat} {z : Int} : Shp (WC n z) (some 2):=⟨fun {_ _} ⟨_,h⟩=>Shp.sh h⟩
theorem wok_words (z : Int) : wok (decide (z < 0)) (words z.natAbs) = true:=by
  unfold wok
  by_cases h : z = 0
  · subst h;simp [words_zero]
  · have : words z.natAbs ≠ []:=fun e=>h (by have:=words_nil_iff.1 e;omega)
    rw [if_neg this];exact canl_words _
theorem wval_words (z : Int) : wval (decide (z < 0)) (words z.natAbs) = z:=by
  unfold wval
  rw [wok_words,if_pos rfl,val_words]
  by_cases h : z < 0 <;> simp [h] <;> omega
section
variable {v : Value} {G : Gh} {n n' : Nat} {z z' : Int} {s : Bool} {l : List Nat}
theorem WC.toW (h : (WC n z).t v G) : (W n z).t v G:=⟨h.1,_,_,wval_words z,h.2⟩
theorem WC.eq (h : (WC n z).t v G) (e : z = z') : (WC n z').t v G:=e ▸ h
theorem W.eq (h : (W n z).t v G) (e : z = z') : (W n z').t v G:=e ▸ h
theorem WC.up (h : (WC n z).t v G) (hn : n ≤ n') : (WC n' z).t v G:=⟨Nat.lt_of_lt_of_le h.1 (Nat.pow_le_pow_right (by omega) hn),h.2⟩
theorem W.up (h : (W n z).t v G) (hn : n ≤ n') : (W n' z).t v G:=⟨Nat.lt_of_lt_of_le h.1 (Nat.pow_le_pow_right (by omega) hn),h.2⟩
theorem W.lt (h : (W n z).t v G) : z.natAbs < 2 ^ n:=h.1
theorem wval_digits (hw : wfl l) (h : wok s l = true) : l = words (wval s l).natAbs ∧ s = decide (wval s l < 0):=by
  unfold wval
  rw [if_pos h]
  unfold wok at h
  by_cases hl : l = []
  · subst hl;simp at h;subst h;simp [val,words_zero]
  · rw [if_neg hl] at h
    have hv : val l ≠ 0:=fun e=>hl (val_eq_zero h e)
    have e1 : (if s = true then -(val l : Int) else (val l : Int)).natAbs = val l:=by cases s <;> simp
    refine ⟨by rw [e1];exact (words_val hw h).symm,?_⟩
    cases s <;> simp <;> omega
theorem WR.f0 {k : Option Nat} (h : (WR s l).t v G) (_ : Shaped k v) : ∃ u,v.cells[0]? = some u ∧ (MT.ex (.bool s)).t u G:=by
  obtain ⟨x,rfl,_⟩:=h;exact ⟨_,rfl,rfl⟩
theorem WR.f1 {k : Option Nat} (h : (WR s l).t v G) (_ : Shaped k v) : ∃ u,v.cells[1]? = some u ∧ (SL l).t u G:=by
  obtain ⟨x,rfl,h2⟩:=h;exact ⟨_,rfl,h2⟩
end
def QR (s : Bool) (p q : List Nat) : MT:=⟨fun v G=>∃ x y,v = .agg #[.bool s,x,y] ∧ (SL p).t x G ∧ (SL q).t y G,fun hle ⟨x,y,h,h2,h3⟩=>⟨x,y,h,(SL p).mono hle h2,(SL q).mono hle h3⟩⟩
instance {s : Bool} {p q : List Nat} : Shp (QR s p q) (some 3):=⟨fun {v G} ⟨x,y,h,h2,h3⟩=>by
  have hx : x.oneCell' = true:=(Shp.sh (k:=none) h2).2
  have hy : y.oneCell' = true:=(Shp.sh (k:=none) h3).2
  subst h;exact ⟨_,rfl,rfl,by simp [show (Value.bool s).oneCell' = true from rfl,hx,hy]⟩⟩
def qok (s : Bool) (p q : List Nat) : Bool:=if p = [] ∧ q = [] then !s else p ≠ [] && q ≠ [] && canl p && canl q && Nat.gcd (val p) (val q) == 1
def qval (s : Bool) (p q : List Nat) : Rat:=if qok s p q = true ∧ p ≠ [] then mkRat (if s then -(val p : Int) else val p) (val q) else 0
def qb (n : Nat) (x : Rat) : Prop:=x.num.natAbs < 2 ^ n ∧ x.den < 2 ^ n
def dwords (x : Rat) : List Nat:=if x = 0 then [] else words x.den
def Q (n : Nat) (x : Rat) : MT:=⟨fun v G=>qb n x ∧ ∃ s p q,qval s p q = x ∧ (QR s p q).t v G,fun hle ⟨h,s,p,q,h1,h2⟩=>⟨h,s,p,q,h1,(QR s p q).mono hle h2⟩⟩
def QC (n : Nat) (x : Rat) : MT:=⟨fun v G=>qb n x ∧ (QR (decide (x < 0)) (words x.num.natAbs) (dwords x)).t v G,fun hle ⟨h,h2⟩=>⟨h,(QR _ _ _).mono hle h2⟩⟩
instance {n : Nat} {x : Rat} : Shp (Q n x) (some 3):=⟨fun {_ _} ⟨_,_,_,_,_,h⟩=>Shp.sh h⟩
instance {n : Nat} {x : Rat} : Shp (QC n x) (some 3):=⟨fun {_ _} ⟨_,h⟩=>Shp.sh h⟩
theorem qok_can (x : Rat) : qok (decide (x < 0)) (words x.num.natAbs) (dwords x) = true:=by
  unfold qok dwords
  by_cases h : x = 0
  · subst h;simp [words_zero]
  · have h1 : words x.num.natAbs ≠ []:=fun e=>h (by have:=words_nil_iff.1 e;exact Rat.num_eq_zero.1 (by omega))
    have h2 : words x.den ≠ []:=fun e=>x.den_nz (words_nil_iff.1 e)
    rw [if_neg h,if_neg (fun h=>h1 h.1)]
    simp [h1,h2,canl_words,val_words]
    exact x.reduced
theorem num_neg_iff {x : Rat} : x.num < 0 ↔ x < 0:=by
  have:=Rat.num_nonneg (q:=x)
  constructor
  · intro h;exact Rat.not_le.1 fun e=>absurd (this.2 e) (by omega)
  · intro h;exact Int.not_le.1 fun e=>absurd (this.1 e) (Rat.not_le.2 h)
theorem qval_can (x : Rat) : qval (decide (x < 0)) (words x.num.natAbs) (dwords x) = x:=by
  unfold qval
  rw [qok_can]
  unfold dwords
  by_cases h : x = 0
  · subst h;simp [words_zero]
  · have h1 : words x.num.natAbs ≠ []:=fun e=>h (by have:=words_nil_iff.1 e;exact Rat.num_eq_zero.1 (by omega))
    rw [if_neg h,if_pos ⟨rfl,h1⟩,val_words,val_words]
    have hs : (if decide (x < 0) = true then -(x.num.natAbs : Int) else (x.num.natAbs : Int)) = x.num:=by
      by_cases hx : x < 0
      · have:=num_neg_iff.2 hx
        simp [hx];omega
      · have : ¬ x.num < 0:=fun e=>hx (num_neg_iff.1 e)
        simp [hx];omega
    rw [hs];exact Rat.mkRat_self x
section
variable {v : Value} {G : Gh} {n n' : Nat} {x x' : Rat} {s : Bool} {p q : List Nat}
theorem QC.eq (h : (QC n x).t v G) (e : x = x') : (QC n x').t v G:=e ▸ h
theorem Q.eq (h : (Q n x).t v G) (e : x = x') : (Q n x').t v G:=e ▸ h
theorem qb.up (h : qb n x) (hn : n ≤ n') : qb n' x:=⟨Nat.lt_of_lt_of_le h.1 (Nat.pow_le_pow_right (by omega) hn),Nat.lt_of_lt_of_le h.2 (Nat.pow_le_pow_right (by omega) hn)⟩
theorem QC.up (h : (QC n x).t v G) (hn : n ≤ n') : (QC n' x).t v G:=⟨h.1.up hn,h.2⟩
theorem Q.up (h : (Q n x).t v G) (hn : n ≤ n') : (Q n' x).t v G:=⟨h.1.up hn,h.2⟩
theorem QR.f0 {k : Option Nat} (h : (QR s p q).t v G) (_ : Shaped k v) : ∃ u,v.cells[0]? = some u ∧ (MT.ex (.bool s)).t u G:=by
  obtain ⟨x,y,rfl,_⟩:=h;exact ⟨_,rfl,rfl⟩
theorem QR.f1 {k : Option Nat} (h : (QR s p q).t v G) (_ : Shaped k v) : ∃ u,v.cells[1]? = some u ∧ (SL p).t u G:=by
  obtain ⟨x,y,rfl,h2,_⟩:=h;exact ⟨_,rfl,h2⟩
theorem QR.f2 {k : Option Nat} (h : (QR s p q).t v G) (_ : Shaped k v) : ∃ u,v.cells[2]? = some u ∧ (SL q).t u G:=by
  obtain ⟨x,y,rfl,_,h3⟩:=h;exact ⟨_,rfl,h3⟩
end
end Go.Proofs.YtboicjlbbbodgaaGreatDoor
namespace Go.Proofs.YtboicjlbbbodgaaGreatDoor
open Go.RowKit (Below)
theorem dig_get {l : List Nat} {i : Nat} (h : i < l.length) : l[i]? = some (dig l i):=by simp [dig,h]
def errV (t : TypeId) (n : Int) : Value:=if n = 0 then .nilIface else .iface t (.int .i64 n)
theorem errV_or {t : TypeId} (n : Int) : errV t n = .nilIface ∨ ∃ u v,errV t n = .iface u v:=by
  unfold errV;split
  · exact .inl rfl
  · exact .inr ⟨_,_,rfl⟩
section
variable {v : Value} {G G' : Gh} {l l' : List Nat} {n m : Nat}
theorem SL.eq (h : (SL l).t v G) (e : l = l') : (SL l').t v G:=e ▸ h
theorem SN_nil_of (h : v = .slice none 0 0) (e : m = 0) : (SN n m).t v G:=by subst h;subst e;exact SN.nil
theorem SL_frozen {b c : Nat} {ty : TypeId} {u : Value} (h : (MT.ex (.agg (ucells l).toArray)).t u G) (hg : G b = some (.cells u.cells ty (0,0))) (hl : n = l.length ∧ n ≤ c) (hlim : l.length ≤ LIM) (hw : wfl l) : (SL l).t (.slice (some ⟨b,0,none⟩) n c) G:=by
  cases h
  obtain ⟨rfl,hc⟩:=hl
  exact ⟨_,c,rfl,hc,hlim,hw,fun i x hi=>⟨b,0,rfl,by simp [Gc,hg,Value.cells,ucells,hi]⟩⟩
end
section
variable {P : Program} {W0 : World} {G0 : Gh} {N : Nat} {L : List (Nat × MT)} {B : List BX} {a : Act} {w : World} {G : Gh} {fn : Func} {o : Oper} {τ : MT}
theorem ret_of_normal {R : Ending → World → Prop} (h : bodyPost P fn R .ret a w) : bodyPost P fn R .normal a w:=h
theorem then_ret {K : Act → World → Prop} {Q : Exit → Act → World → Prop} (h : Q .ret a w) : Exit.then K Q .ret a w:=h
theorem block_ret {id : Nat} {Q : Exit → Act → World → Prop} (h : Q .ret a w) : Exit.inBlock id Q .ret a w:=h
theorem then_exit {id : Nat} {K : Act → World → Prop} {Q : Exit → Act → World → Prop} (h : Q (.exit id) a w) : Exit.then K Q (.exit id) a w:=h
theorem OpR.nmax {x y : Operand} {k : IntKind} {ats : Array TypeId} {m n : Nat} (hok : Gok w G) (ho : o.op = .call { callee := .builtin .max, args := #[x, y], argTypes := ats }) (hx : a.eval x = nv k m) (hy : a.eval y = nv k n)
    (h : τ.t (nv k (max m n)) G) : OpR P o a w G τ:=by
  refine .run hok (v:=nv k (max m n)) ?_ h
  have e : (if (m : Int) < (n : Int) then (n : Int) else (m : Int)) = ((max m n : Nat) : Int):=by split <;> omega
  simp [execOp,ho,resolve,invoke,builtin,hx,hy,Builtin.max_,Builtin.max2]
  omega
def EMP : MT:=⟨fun v _=>∃ b : Addr,v = .slice (some b) 0 0,fun _ h=>h⟩
theorem OpR.build0 {t e : TypeId} {size bytes : Nat} {z : Value} (hok : Gok w G) (ho : o.op = .buildSlice t 0 #[]) (ht : P.underlying t = some (.slice e)) (he : elS P e size bytes z) : OpR P o a w G EMP:=by
  obtain ⟨i,hi,h1,h2,h3⟩:=elS_of he
  refine .run' (w':=w.alloc (.cells #[] e)) (G':=G) (v:=.slice (some ⟨w.heap.size,0,none⟩) 0 0) ?_ (Nxt.alloc hok _) ⟨_,rfl⟩
  simp [execOp,ho,Instr.buildSlice,run_underlying ht,sizeOf,typeInfo,hi,Instr.fill,newRow,show Array.range 0 = #[] from rfl]
theorem OpR.appNew {x y : Operand} {t e : TypeId} {l : List Nat} (hok : Gok w G) (ho : o.op = .call { callee := .builtin .append, args := #[x, y], argTypes := #[t, t] }) (ht : P.underlying t = some (.slice e)) (he : elS P e 1 4 (u32 0))
    (hx : EMP.t (a.eval x) G) (hy : (SL l).t (a.eval y) G) : OpR P o a w G (SL l):=by
  obtain ⟨i,hi,h1,h2,h3⟩:=elS_of he
  obtain ⟨b,hx⟩:=hx
  obtain ⟨A,c,hy,hlc,hlim,hwf,hcell⟩:=hy
  simp only [LIM] at hlim
  by_cases h0 : l = []
  · subst h0
    refine .run hok (v:=.slice (some b) 0 0) ?_ ⟨_,0,rfl,by simp,by simp,wfl_nil,fun i x h=>by simp at h⟩
    have hf : (Builtin.firstCells 1 0 (.slice A 0 c)).run P w = .ok #[] w:=by
      cases A with
      | none=>simp [Builtin.firstCells]
      | some ad=>simp [Builtin.firstCells,loadCells,loadCellsFrom]
    simp only [List.length_nil] at hy
    simp [execOp,ho,resolve,invoke,builtin,hx,hy,Builtin.append_,run_underlying ht,sizeOf,typeInfo,hi,h1,Builtin.lenOf,hf,storeCells]
  · have hpos : 0 < l.length:=List.length_pos_iff.2 h0
    obtain ⟨b',off,rfl,_⟩:=hcell 0 l[0] (by simp [hpos])
    have hg:=run_append_grow (P:=P) w t o.type e i (u32 0) ht hi h3 b 0 0 [] (by simp) (by simp) ⟨b',off,none⟩ l.length c (ucells l) (by simp [ucells,h1]) (fun j v hj=>by
      simp only [ucells,List.getElem?_map,Option.map_eq_some_iff] at hj
      obtain ⟨z,hz,rfl⟩:=hj
      obtain ⟨b2,off2,e,hc⟩:=hcell j z hz
      cases e
      rw [addr_add];exact Gc.cell hok hc) (by omega) (by omega) (by rw [h2,Nat.zero_add,nextslicecap_zero hpos];omega)
    simp only [Nat.zero_add] at hg
    have hN:=(Nxt.drew hok).trans (Nxt.allocPut (w:=w.drew) (Nxt.drew hok).ok (.cells ((([] : List Value).toArray ++ (ucells l).toArray) ++ Builtin.zeroCells (u32 0).cells (grownCap w l.length 0 e - l.length)) e))
    refine .run' ?_ hN (v:=.slice (some ⟨w.heap.size,0,none⟩) l.length (grownCap w l.length 0 e)) ⟨_,_,rfl,grownCap_ge w l.length 0 e,by simpa [LIM] using hlim,hwf,fun j z hj=>⟨_,0,rfl,?_⟩⟩
    · simp only [execOp,ho,resolve,Sem.run_bind,Sem.run_pure,Result.andThen_ok,invoke,builtin,List.map_toArray,List.map_cons,List.map_nil,hx,hy,hg]
    · rw [Nat.zero_add]
      obtain ⟨hjl,hjv⟩:=List.getElem?_eq_some_iff.1 hj
      refine Gc_put ?_
      simp [Array.getElem?_append,ucells,hjl,hjv]
end
end Go.Proofs.YtboicjlbbbodgaaGreatDoor
namespace Go.Proofs.YtboicjlbbbodgaaGreatDoor
open Go.RowKit (Below)
def ARR (n : Nat) (p : List Nat → Prop) : MT:=⟨fun v _=>∃ l,v = .agg (ucells l).toArray ∧ l.length = n ∧ p l,fun _ h=>h⟩
def GLE (Gs : Gh) : MT:=⟨fun _ G=>Gle Gs G,fun hle h=>h.trans hle⟩
abbrev mkS (n : Nat) (b : Nat) : Value:=.slice (some ⟨b,0,none⟩) n n
def RetB (w : World) (G : Gh) (mk : Nat → Value) (ty : TypeId) (k : Option Nat) (τ : MT) : Ending → World → Prop:=fun e w'=>∃ b G',e = .returned (mk b) ∧ w.heap.size ≤ b ∧ Nxt w G w' G' ∧ G' b = none ∧ ∃ v,w'.heap[b]? = some (.cells v.cells ty (0,0)) ∧ Shaped k v ∧ τ.t v G'
def RetM (W0 : World) (G0 Gs : Gh) (B : List BX) (i : Nat) (bu : Nat) (ty : TypeId) (n : Nat) (p : Value → List Nat → Prop) : Ending → World → Prop:=fun e w' =>
  ∃ v l G',e = .returned v ∧ p v l ∧ l.length = n ∧ Gle Gs G' ∧ St W0 G0 0 [] (B.set i ⟨bu,ty,some n,.ex (.agg (ucells l).toArray)⟩) ⟨#[],[]⟩ w' G'
section
variable {P : Program} {W0 : World} {G0 : Gh} {N : Nat} {L : List (Nat × MT)} {B : List BX} {a : Act} {w : World} {G : Gh} {fn : Func} {o : Oper}
variable {ops : Array Oper} {rest : List Oper} {Q : Exit → Act → World → Prop}
theorem OpB.call {f : Nat} {args : Array Operand} {ats : Array TypeId} {mk : Nat → Value} {ty : TypeId} {k : Option Nat} {τ : MT} (ho : o.op = .call { callee := .value (.func f), args := args, argTypes := ats }) (hc : callable P f = true)
    (h : Calls P f (args.map a.eval) w (RetB w G mk ty k τ)) : OpB P o a w G mk ty k τ:=fun Q K hK=>by
  have hr : (execOp a.eval o).run P w = .ok (.enter f (args.map a.eval)) w:=by
    simp [execOp,ho,resolve,Act.eval,Deferred.ofValue,invoke,run_callFunc hc]
  unfold Oper.wp
  rw [hr]
  refine Calls.mono h fun e w' he=>?_
  obtain ⟨b,G',rfl,hb,hn,hg,hv⟩:=he
  exact hK b w' G' hb hn hg hv
theorem OpB.call2 {f : Nat} {ats : Array TypeId} {x y : Operand} {mk : Nat → Value} {ty : TypeId} {k : Option Nat} {τ : MT} (ho : o.op = .call { callee := .value (.func f), args := #[x, y], argTypes := ats }) (hc : callable P f = true)
    (h : Calls P f #[a.eval x,a.eval y] w (RetB w G mk ty k τ)) : OpB P o a w G mk ty k τ:=.call ho hc (by simpa using h)
theorem St.retArr (S : St W0 G0 N L B a w G) (i : Nat) {t b n : Nat} {ty : TypeId} {l : List Nat} {p : List Nat → Prop} (hr : fn.results = #[.tmp t]) (ht : tm a t = mkS n b) (hi : B[i]? = some ⟨b, ty, some n, .ex (.agg (ucells l).toArray)⟩) (hl : l.length = n) (hp : p l) :
    bodyPost P fn (RetB W0 G0 (mkS n) ty (some n) (ARR n p)) .ret a w:=by
  obtain ⟨h1,h2,v,hv,hs,htv⟩:=S.bx i _ hi
  refine bodyPost_ret (v:=mkS n b) (by have:=results_tmp hr a.tmps P w;rw [this];exact congrArg (fun v=>Result.ok v w) ht) S.dfr ⟨b,G,rfl,h1,S.nxt,h2,v,hv,hs,l,htv,hl,hp⟩
theorem St.openArr (S : St W0 G0 N L B a w G) (i : Nat) {b n : Nat} {ty : TypeId} {p : List Nat → Prop} (hi : B[i]? = some ⟨b,ty,some n,ARR n p⟩) : ∃ l,l.length = n ∧ p l ∧ St W0 G0 N L (B.set i ⟨b,ty,some n,.ex (.agg (ucells l).toArray)⟩) a w G:=by
  obtain ⟨h1,h2,v,hv,hs,l,rfl,hl,hp⟩:=S.bx i _ hi
  refine ⟨l,hl,hp,{ S with bx:=fun j y hj=>?_,nd:=fun j k y z hj hk hjk=>?_ }⟩
  · rw [List.getElem?_set] at hj
    split at hj
    · rename_i e;subst e
      split at hj
      · cases hj;exact ⟨h1,h2,_,hv,hs,rfl⟩
      · cases hj
    · exact S.bx j y hj
  · have key : ∀ (j : Nat) (y : BX), (B.set i ⟨b, ty, some n, .ex (.agg (ucells l).toArray)⟩)[j]? = some y → ∃ y' : BX, B[j]? = some y' ∧ y'.b = y.b := fun j y hj => by
      rw [List.getElem?_set] at hj
      split at hj
      · rename_i e;subst e
        split at hj
        · cases hj;exact ⟨_,hi,rfl⟩
        · cases hj
      · exact ⟨y,hj,rfl⟩
    obtain ⟨y',hy',e1⟩:=key j y hj
    obtain ⟨z',hz',e2⟩:=key k z hk
    rw [← e1,← e2]
    exact S.nd j k y' z' hy' hz' hjk
theorem St.world (S : St W0 G0 N L B a w G) : St W0 G0 0 [] B ⟨#[],[]⟩ w G:=⟨S.nxt,rfl,rfl,fun i p h=>by simp at h,S.bx,S.nd⟩
theorem St.enterM {f : Nat} {c : Code} {args : List Value} {R : Ending → World → Prop} (S : St W0 G0 0 [] B ⟨#[], []⟩ w G) (hf : P.funcs[f]? = some fn) (hb : fn.body = some c) (hN : fn.ntmps = N) (hl : (decide (args.length ≤ N)) = true)
    (hL : ∀ (i : Nat) (p : Nat × MT),L[i]? = some p → ∃ v,args[p.1]? = some v ∧ p.2.t v G)
    (h : ∀ a,St W0 G0 N L B a w G → c.wp P (bodyPost P fn R) a w) : Calls P f args.toArray w R:=by
  have hl':=of_decide_eq_true hl
  refine calls_of_wp hf hb (h _ ⟨S.nxt,by simp [hN];omega,rfl,fun i p hp=>?_,S.bx,S.nd⟩)
  obtain ⟨v,hv,ht⟩:=hL i p hp
  have : tm { tmps:=args.toArray ++ Array.replicate (fn.ntmps - args.toArray.size) undef,defers:=[] } p.1 = v:=by
    have hlt : p.1 < args.length:=(List.getElem?_eq_some_iff.1 hv).1
    simp [tm,Array.getElem?_append,hlt];simpa [hlt] using hv
  rw [this];exact ht
section
variable {bu n : Nat} {ty : TypeId} {l : List Nat}
theorem St.retM (S : St W0 G0 N L (⟨bu, ty, some n, .ex (.agg (ucells l).toArray)⟩ :: B) a w G) {t : Nat} {v : Value} {l0 : List Nat} {Gs : Gh} {p : Value → List Nat → Prop} (hr : fn.results = #[.tmp t]) (ht : tm a t = v) (hp : p v l) (hl : l.length = n) (hG : Gle Gs G) :
    bodyPost P fn (RetM W0 G0 Gs (⟨bu,ty,some n,.ex (.agg (ucells l0).toArray)⟩ :: B) 0 bu ty n p) .ret a w :=
  bodyPost_ret (v:=v) (by have:=results_tmp hr a.tmps P w;rw [this];exact congrArg (fun v=>Result.ok v w) ht) S.dfr ⟨v,l,G,rfl,hp,hl,hG,S.world⟩
theorem St.retM0 (S : St W0 G0 N L (⟨bu, ty, some n, .ex (.agg (ucells l).toArray)⟩ :: B) a w G) {l0 : List Nat} {Gs : Gh} {p : Value → List Nat → Prop} (hr : fn.results = #[]) (hp : p (.tuple #[]) l) (hl : l.length = n) (hG : Gle Gs G) :
    bodyPost P fn (RetM W0 G0 Gs (⟨bu,ty,some n,.ex (.agg (ucells l0).toArray)⟩ :: B) 0 bu ty n p) .ret a w :=
  bodyPost_ret (v:=.tuple #[]) (results_none hr _ _ _) S.dfr ⟨_,l,G,rfl,hp,hl,hG,S.world⟩
end
theorem St.stepM (S : St W0 G0 N L B a w G) (i : Nat) {d f bu n : Nat} {ty : TypeId} {args : Array Operand} {ats : Array TypeId} {p : Value → List Nat → Prop} (ho : o.op = .call { callee := .value (.func f), args := args, argTypes := ats }) (hd : o.dst = some d) (hg : o.guard = none)
    (hc : callable P f = true) (h : Calls P f (args.map a.eval) w (RetM W0 G0 G B i bu ty n p)) (hdN : (decide (d < N)) = true) (hf : fresh d L = true)
    (K : ∀ v l a' w' G',p v l → l.length = n → St W0 G0 N ((d,.ex v) :: L) (B.set i ⟨bu,ty,some n,.ex (.agg (ucells l).toArray)⟩) a' w' G' → wpList P ops Q rest a' w') : wpList P ops Q (o :: rest) a w :=
  wpList_plain hg fun K' hK=>by
    have hr : (execOp a.eval o).run P w = .ok (.enter f (args.map a.eval)) w:=by
      simp [execOp,ho,resolve,Act.eval,Deferred.ofValue,invoke,run_callFunc hc]
    unfold Oper.wp
    rw [hr]
    refine Calls.mono h fun e w' he=>?_
    obtain ⟨v,l,G',rfl,hp,hl,hle,SW⟩:=he
    show K' (a.put o.dst v) w'
    rw [hd]
    have S1 : St W0 G0 N L (B.set i ⟨bu,ty,some n,.ex (.agg (ucells l).toArray)⟩) a w' G':=⟨SW.nxt,S.size,S.dfr,fun j q hq=>q.2.mono hle (S.ty j q hq),SW.bx,SW.nd⟩
    exact hK _ _ (K v l _ _ _ hp hl (S1.put (of_decide_eq_true hdN) hf rfl (Nxt.refl S1.ok)))
end
end Go.Proofs.YtboicjlbbbodgaaGreatDoor
namespace Go.Proofs.YtboicjlbbbodgaaGreatDoor
open Go.RowKit (Below)
def ANY : MT:=⟨fun _ _=>True,fun _ h=>h⟩
inductive OT3 where
  | g (τ : MT)
  | al (mk : Nat → Value) (ty : TypeId) (k : Option Nat) (τ : MT)
  | st (u : Nat) (τ : MT)
structure PO3 where
  d : Nat
  τ : OT3
  dep : List Nat
def storeOf : List PO3 → Nat → Nat → Option (Nat × MT)
  | [],_,_=>none
  | po :: r,i,u=>match po.τ with
    | .st v τ=>if v == u then some (i,τ) else storeOf r (i + 1) u
    | _=>storeOf r (i + 1) u
theorem storeOf_get : ∀ {r : List PO3} {i u s : Nat} {τ : MT},storeOf r i u = some (s,τ) → ∃ po,i ≤ s ∧ r[s - i]? = some po ∧ po.τ = .st u τ
  | [],_,_,_,_,h=>by cases h
  | po :: r,i,u,s,τ,h=>by
    unfold storeOf at h
    split at h
    · rename_i v τ' hv
      split at h
      · rename_i e;cases h
        have e : v = u:=by simpa using e
        exact ⟨po,Nat.le_refl _,by simp,by rw [hv,e]⟩
      · obtain ⟨po',h1,h2,h3⟩:=storeOf_get h
        exact ⟨po',by omega,by rw [show s - i = (s - (i + 1)) + 1 from by omega];simpa using h2,h3⟩
    · obtain ⟨po',h1,h2,h3⟩:=storeOf_get h
      exact ⟨po',by omega,by rw [show s - i = (s - (i + 1)) + 1 from by omega];simpa using h2,h3⟩
def curT (PL : List PO3) (l : Array Bool) (u : Nat) (τ : MT) : MT:=match storeOf PL 0 u with
  | some (s,τ')=>if l.getD s false then τ' else τ
  | none=>τ
def finT (PL : List PO3) (u : Nat) (τ : MT) : MT:=match storeOf PL 0 u with
  | some (_,τ')=>τ'
  | none=>τ
def UB (PL : List PO3) (β : Nat → Nat) (B : List BX) (l : Array Bool) (u : Nat) : Option BX :=
  if u < B.length then (B[u]?).map fun x=>⟨x.b,x.ty,x.k,curT PL l u x.τ⟩
  else match PL[u - B.length]? with
    | some po=>(match po.τ with | .al _ ty k τ=>if l.getD (u - B.length) false then some ⟨β (u - B.length),ty,k,curT PL l u τ⟩ else none | _=>none)
    | none=>none
def depL3 (PL : List PO3) (l : List Nat) : List (Nat × MT):=l.filterMap fun j=>(PL[j]?).bind fun po=>match po.τ with | .g τ=>some (po.d,τ) | _=>none
def freeB (ops : Array Oper) (PL : List PO3) (i u : Nat) : Bool:=match storeOf PL 0 u with
  | some (s,_)=>waits ops ops.size s i
  | none=>true
def seeB (ops : Array Oper) (PL : List PO3) (i : Nat) : Nat → List BX → List BX
  | _,[]=>[]
  | u,x :: r=>(if freeB ops PL i u then x else ⟨x.b,x.ty,x.k,ANY⟩) :: seeB ops PL i (u + 1) r
section
variable {P : Program} {W0 : World} {G0 : Gh} {N : Nat} {L : List (Nat × MT)} {B : List BX}
theorem seeB_get {ops : Array Oper} {PL : List PO3} {i : Nat} : ∀ {r : List BX} {u j : Nat} {y : BX},(seeB ops PL i u r)[j]? = some y → ∃ x,r[j]? = some x ∧ y = (if freeB ops PL i (u + j) then x else ⟨x.b,x.ty,x.k,ANY⟩)
  | [],_,_,_,h=>by simp [seeB] at h
  | x :: r,u,j,y,h=>by
    unfold seeB at h
    cases j with
    | zero=>simp at h;exact ⟨x,by simp,by simpa using h.symm⟩
    | succ j =>
      obtain ⟨x',h1,h2⟩:=seeB_get (r:=r) (u:=u + 1) (j:=j) (by simpa using h)
      exact ⟨x',by simpa using h1,by rw [h2,show u + 1 + j = u + (j + 1) from by omega]⟩
theorem store_wp {o : Oper} {a : Act} {w : World} {Q : Exit → Act → World → Prop} {K : Act → World → Prop} {b : Nat} {ty t : TypeId} {k : Option Nat} {x y : Operand} {u : Value} (ho : o.op = .store t x y) (hd : o.dst = none)
    (hx : a.eval x = mkP b) (hT : tyS P t k = true) (hs : Shaped k (a.eval y)) (hu : w.heap[b]? = some (.cells u.cells ty (0,0))) (hsu : Shaped k u) (hK : K a (w.setRow b (a.eval y).cells)) : o.wp P a w K Q:=by
  have hsz : (a.eval y).cells.size = u.cells.size:=by rw [shaped_size hs,shaped_size hsu]
  have hst:=run_storeCells_at b 0 ty (a.eval y).cells.toList 0 u.cells w (P:=P) hu (by simp;omega) (shaped_cells hs)
  have hr : (execOp a.eval o).run P w = .ok .skip (w.setRow b (a.eval y).cells):=by
    simp only [execOp,ho,Instr.storeAt,hx,Instr.sureAddr,storeVar,Sem.run_bind,Sem.run_pure,Result.andThen_ok,tyS_size hT,shaped_size hs]
    simp only [Nat.add_zero,List.take_zero,List.nil_append,Nat.zero_add] at hst
    rw [List.drop_of_length_le (by simp;omega),List.append_nil,Array.toArray_toList] at hst
    simp [hst]
  unfold Oper.wp
  rw [hr]
  simp only [Oper.upon,hd]
  exact hK
theorem elem_store {o : Oper} {a : Act} {w : World} {G : Gh} {t ty : TypeId} {x y : Operand} {b j n z : Nat} {l : List Nat} {m : Int} {v0 : Value} (ho : o.op = .store t x y) (hd : o.dst = none) (hx : a.eval x = .pointer (some ⟨b, j, none⟩)) (hT : tyS P t none = true) (hy : a.eval y = .int .u32 m) (hm : m = (z : Int)) (hj : j < n)
    (hv : w.heap[b]? = some (.cells v0.cells ty (0,0))) (hs : Shaped (some n) v0) (h0 : (MT.ex (.agg (ucells l).toArray)).t v0 G) : ∃ v1,Shaped (some n) v1 ∧ (MT.ex (.agg (ucells (l.set j z)).toArray)).t v1 G ∧ ∀ (Q : Exit → Act → World → Prop) (K : Act → World → Prop),K a (w.setRow b v1.cells) → o.wp P a w K Q:=by
  subst hm
  cases h0
  obtain ⟨cs,e1,hcs,hone⟩:=hs
  injection e1 with e1
  subst e1
  have hl : l.length = n:=by simpa [ucells] using hcs
  refine ⟨.agg (ucells (l.set j z)).toArray,ucells_shaped (by simpa using hl),rfl,fun Q K hK=>?_⟩
  have hst:=run_storeCells_at b j ty [u32 z] 0 (ucells l).toArray w (P:=P) hv (by simp [ucells,hl];omega) (fun c hc=>by simp at hc;subst hc;rfl)
  simp only [Nat.add_zero] at hst
  have hlist : (List.take j (ucells l).toArray.toList ++ [u32 z] ++ List.drop (j + [u32 z].length) (ucells l).toArray.toList).toArray = (ucells (l.set j z)).toArray:=by
    congr 1
    apply List.ext_getElem?
    intro k
    simp only [ucells,List.append_assoc]
    rw [List.getElem?_append]
    simp only [List.length_take,List.length_map,List.getElem?_map,List.getElem?_set,hl]
    rw [show min j n = j from by omega]
    by_cases h1 : k < j
    · simp [h1,show ¬ j = k from by omega]
    · by_cases h2 : k = j
      · subst h2;simp [hj]
      · simp only [if_neg h1,if_neg (Ne.symm h2)]
        rw [List.getElem?_append_right (by simp;omega)]
        simp only [List.length_cons,List.length_nil,List.getElem?_drop,List.getElem?_map]
        congr 2;omega
  rw [hlist] at hst
  have hr : (execOp a.eval o).run P w = .ok .skip (w.setRow b (ucells (l.set j z)).toArray):=by
    simp only [execOp,ho,Instr.storeAt,hx,hy,Instr.sureAddr,storeVar,Sem.run_bind,Sem.run_pure,Result.andThen_ok,(tyS_none hT w).2]
    simp only [Value.cells] at hst ⊢
    simp [hst]
  unfold Oper.wp
  rw [hr]
  simp only [Oper.upon,hd]
  exact hK
def Obl3 (P : Program) (W0 : World) (G0 : Gh) (N : Nat) (L : List (Nat × MT)) (B : List BX) (ops : Array Oper) (PL : List PO3) (i : Nat) (po : PO3) : Prop :=
  match po.τ with
  | .g τ=>(ops[i]?).bind (·.dst) = some po.d ∧ ∀ a w G,St W0 G0 N (depL3 PL po.dep ++ L) (seeB ops PL i 0 B) a w G → OpG P ops (ops.getD i default) a w G τ
  | .al mk ty k τ=>(ops[i]?).bind (·.dst) = some po.d ∧ (∀ b,blockOf (mk b) = some b) ∧ (ops.getD i default).guard = none ∧ ∀ a w G,St W0 G0 N (depL3 PL po.dep ++ L) (seeB ops PL i 0 B) a w G → OpB P (ops.getD i default) a w G mk ty k τ
  | .st u τ => storeOf PL 0 u = some (i, τ) ∧ (ops.getD i default).guard = none ∧ (ops.getD i default).dst = none ∧ ((∃ t x y k, (ops.getD i default).op = .store t x y ∧ tyS P t k = true ∧
      (∀ a w G,St W0 G0 N (depL3 PL po.dep ++ L) (seeB ops PL i 0 B) a w G → τ.t (a.eval y) G ∧ Shaped k (a.eval y)) ∧
      (if u < B.length then (B[u]?).map (·.k) = some k ∧ ∀ a w G,St W0 G0 N (depL3 PL po.dep ++ L) (seeB ops PL i 0 B) a w G → (B[u]?).map (fun x=>mkP x.b) = some (a.eval x)
       else ∃ po' ty τ0,PL[u - B.length]? = some po' ∧ po'.τ = .al mkP ty k τ0 ∧ x = .tmp po'.d ∧ (po.dep.contains (u - B.length)) = true)) ∨
      (u < B.length ∧ ∃ xb,B[u]? = some xb ∧ ∀ a w G v0,St W0 G0 N (depL3 PL po.dep ++ L) (seeB ops PL i 0 B) a w G → w.heap[xb.b]? = some (.cells v0.cells xb.ty (0,0)) → Shaped xb.k v0 → xb.τ.t v0 G →
        ∃ v1,Shaped xb.k v1 ∧ τ.t v1 G ∧ ∀ Q K,K a (w.setRow xb.b v1.cells) → (ops.getD i default).wp P a w K Q))
def Obls3 (P : Program) (W0 : World) (G0 : Gh) (N : Nat) (L : List (Nat × MT)) (B : List BX) (ops : Array Oper) (PL : List PO3) : Nat → List PO3 → Prop
  | _,[]=>True
  | i,po :: rest=>Obl3 P W0 G0 N L B ops PL i po ∧ Obls3 P W0 G0 N L B ops PL (i + 1) rest
theorem Obls3.get {ops : Array Oper} {PL : List PO3} : ∀ {l : List PO3} {i : Nat},Obls3 P W0 G0 N L B ops PL i l → ∀ {j : Nat} {po : PO3},l[j]? = some po → Obl3 P W0 G0 N L B ops PL (i + j) po
  | [],_,_,j,po,h=>by simp at h
  | p :: l,i,h,0,po,hj=>by simp at hj;subst hj;exact h.1
  | p :: l,i,h,j + 1,po,hj=>by
    have:=Obls3.get h.2 (j:=j) (by simpa using hj)
    rwa [show i + 1 + j = i + (j + 1) from by omega] at this
def PO3.isSt (po : PO3) : Bool:=match po.τ with | .st ..=>true | _=>false
def drawOk3 (ops : Array Oper) (PL : List PO3) (L : List Nat) (N : Nat) : Bool :=
  decide (PL.length ≤ ops.size) &&
  (List.range PL.length).all (fun i=>(List.range PL.length).all fun j=>i == j || (PL[i]?).any (·.isSt) || (PL[j]?).any (·.isSt) || (PL[i]?).map (·.d) != (PL[j]?).map (·.d)) &&
  PL.all (fun po=>po.isSt || (!L.contains po.d && decide (po.d < N))) &&
  (List.range PL.length).all (fun i=>(ops[i]?).all fun o=>o.after.all fun e=>!Region.binds .any e || decide (e.on < i)) &&
  (List.range PL.length).all (fun i=>(PL[i]?).all fun po=>po.dep.all fun j=>decide (j < PL.length) && waits ops ops.size i j) &&
  (List.range (ops.size - PL.length)).all (fun j=>(List.range PL.length).all fun i=>waits ops ops.size (PL.length + j) i) &&
  (List.range (ops.size - PL.length)).all (fun j=>Region.ready .any ops (firstN ops.size (PL.length + j)) == [PL.length + j])
def LF3 (PL : List PO3) (β : Nat → Nat) (L : List (Nat × MT)) : Nat → List (Nat × MT)
  | 0=>L
  | m + 1=>match PL[m]? with
    | some po=>(match po.τ with | .g τ=>(po.d,τ) :: LF3 PL β L m | .al mk _ _ _=>(po.d,.ex (mk (β m))) :: LF3 PL β L m | .st _ _=>LF3 PL β L m)
    | none=>LF3 PL β L m
def BZ3 (PL : List PO3) : Nat → List BX → List BX
  | _,[]=>[]
  | u,x :: r=>⟨x.b,x.ty,x.k,finT PL u x.τ⟩ :: BZ3 PL (u + 1) r
def BF3 (PL : List PO3) (β : Nat → Nat) (B : List BX) : Nat → List BX
  | 0=>BZ3 PL 0 B
  | m + 1=>match PL[m]? with
    | some po=>(match po.τ with | .al _ ty k τ=>⟨β m,ty,k,finT PL (B.length + m) τ⟩ :: BF3 PL β B m | _=>BF3 PL β B m)
    | none=>BF3 PL β B m
structure DI (P : Program) (W0 : World) (G0 : Gh) (N : Nat) (B : List BX) (ops : Array Oper) (PL : List PO3) (a0 : Act) (Gs : Gh) (β : Nat → Nat) (l : Array Bool) (a : Act) (w : World) (G : Gh) : Prop where
  nxt : Nxt W0 G0 w G
  gle : Gle Gs G
  size : a.tmps.size = N
  dfr : a.defers = []
  lsz : l.size = ops.size
  off : ∀ t,(∀ (i : Nat) (po : PO3),PL[i]? = some po → po.isSt = false → po.d ≠ t) → tm a t = tm a0 t
  on : ∀ (i : Nat) (po : PO3),PL[i]? = some po → l.getD i false = true → (match po.τ with | .g τ=>τ.t (tm a po.d) G | .al mk _ _ _=>tm a po.d = mk (β i) | .st _ _=>True)
  tl : ∀ j,PL.length ≤ j → l.getD j false = false
  cl : ∀ (j : Nat) (o : Oper),ops[j]? = some o → l.getD j false = true → ∀ e ∈ o.after,Region.binds .any e = true → l.getD e.on false = true
  bx : ∀ u x,UB PL β B l u = some x → x.ok W0 w G
  nd : ∀ u v x y,UB PL β B l u = some x → UB PL β B l v = some y → u ≠ v → x.b ≠ y.b
section
variable {ops : Array Oper} {PL : List PO3} {a0 a : Act} {Gs G : Gh} {β : Nat → Nat} {l : Array Bool} {w : World}
theorem DI.waited (I : DI P W0 G0 N B ops PL a0 Gs β l a w G) : ∀ (m : Nat) {j i : Nat} {o : Oper}, waits ops m j i = true → ops[j]? = some o →
    (∀ e ∈ o.after,Region.binds .any e = true → l.getD e.on false = true) → l.getD i false = true
  | 0,_,_,_,h,_,_=>by cases h
  | m + 1,j,i,o,h,ho,he=>by
    unfold waits at h
    rw [ho] at h
    simp only [Option.any_some,Array.any_eq_true,Bool.and_eq_true,Bool.or_eq_true,beq_iff_eq] at h
    obtain ⟨k,hk,hb,h⟩:=h
    have hl:=he _ (Array.getElem_mem hk) hb
    rcases h with h | h
    · rw [← h];exact hl
    · have hon : (o.after[k]).on < ops.size := by
        have : (o.after[k]).on < l.size:=by
          rcases Nat.lt_or_ge (o.after[k]).on l.size with h1 | h1
          · exact h1
          · simp [Array.getElem?_eq_none h1] at hl
        rw [I.lsz] at this;exact this
      have ho':=Array.getElem?_eq_getElem hon
      exact DI.waited I m h ho' (I.cl _ _ ho' hl)
theorem DI.past (I : DI P W0 G0 N B ops PL a0 Gs β l a w G) {j i : Nat} (h : waits ops ops.size j i = true) (hj : l.getD j false = true) : l.getD i false = true:=by
  have hlt : j < ops.size:=by
    rcases Nat.lt_or_ge j l.size with h1 | h1
    · rw [I.lsz] at h1;exact h1
    · simp [Array.getElem?_eq_none h1] at hj
  have ho:=Array.getElem?_eq_getElem hlt
  exact I.waited _ h ho (I.cl _ _ ho hj)
theorem depL3_get {l : List Nat} {p : Nat × MT} (h : p ∈ depL3 PL l) : ∃ (j : Nat) (po : PO3),j ∈ l ∧ PL[j]? = some po ∧ po.τ = .g p.2 ∧ po.d = p.1:=by
  obtain ⟨j,hj,hb⟩:=List.mem_filterMap.1 h
  cases hp : PL[j]? with
  | none=>simp [hp] at hb
  | some po =>
    simp only [hp,Option.bind_some] at hb
    split at hb
    · rename_i τ hτ;cases hb;exact ⟨j,po,hj,hp,hτ,rfl⟩
    · cases hb
theorem UB_lt {u : Nat} {x : BX} (hu : B[u]? = some x) : UB PL β B l u = some ⟨x.b,x.ty,x.k,curT PL l u x.τ⟩:=by
  unfold UB
  rw [if_pos (List.getElem?_eq_some_iff.1 hu).1,hu];rfl
theorem UB_al {i : Nat} {po : PO3} {mk : Nat → Value} {ty : TypeId} {k : Option Nat} {τ : MT} (hp : PL[i]? = some po) (hτ : po.τ = .al mk ty k τ) (hl : l.getD i false = true) : UB PL β B l (B.length + i) = some ⟨β i,ty,k,curT PL l (B.length + i) τ⟩:=by
  unfold UB
  rw [if_neg (by omega),Nat.add_sub_cancel_left,hp]
  simp only [hτ,hl,if_true]
theorem UB_cases {u : Nat} {x : BX} (h : UB PL β B l u = some x) : (∃ x0,B[u]? = some x0 ∧ x = ⟨x0.b,x0.ty,x0.k,curT PL l u x0.τ⟩) ∨ (∃ i po mk ty k τ,u = B.length + i ∧ PL[i]? = some po ∧ po.τ = .al mk ty k τ ∧ l.getD i false = true ∧ x = ⟨β i,ty,k,curT PL l u τ⟩):=by
  unfold UB at h
  split at h
  · rename_i hlt
    rw [List.getElem?_eq_getElem hlt] at h
    exact .inl ⟨_,List.getElem?_eq_getElem hlt,by simpa using h.symm⟩
  · rename_i hge
    split at h
    · rename_i po hpo
      split at h
      · rename_i mk ty k τ hτ
        split at h
        · rename_i hl;cases h;exact .inr ⟨u - B.length,po,mk,ty,k,τ,by omega,hpo,hτ,hl,rfl⟩
        · cases h
      · cases h
    · cases h
theorem DI.see (S0 : ∀ p ∈ L, p.2.t (tm a p.1) G) (I : DI P W0 G0 N B ops PL a0 Gs β l a w G) {i : Nat} {o : Oper} {po : PO3} (hi : l.getD i false = false) (ho : ops[i]? = some o) (hedge : ∀ e ∈ o.after, Region.binds .any e = true → l.getD e.on false = true)
    (hdep : ∀ j ∈ po.dep,waits ops ops.size i j = true) : St W0 G0 N (depL3 PL po.dep ++ L) (seeB ops PL i 0 B) a w G:=by
  refine ⟨I.nxt,I.size,I.dfr,fun j p hp=>?_,fun j y hy=>?_,fun j k y z hy hz hjk=>?_⟩
  · rcases List.mem_append.1 (List.mem_of_getElem? hp) with h | h
    · obtain ⟨m,po',hmem,hpo',hτ',hd'⟩:=depL3_get h
      have:=I.on m po' hpo' (I.waited _ (hdep m hmem) ho hedge)
      rw [hτ',hd'] at this
      exact this
    · exact S0 p h
  · obtain ⟨x,hx,rfl⟩:=seeB_get hy
    have hok:=I.bx j _ (UB_lt hx)
    rw [Nat.zero_add]
    split
    · rename_i hf
      have e : curT PL l j x.τ = x.τ:=by
        unfold curT
        cases hs : storeOf PL 0 j with
        | none=>rfl
        | some st =>
          obtain ⟨s,τ'⟩:=st
          simp only
          unfold freeB at hf
          rw [hs] at hf
          by_cases hls : l.getD s false = true
          · rw [I.past hf hls] at hi;cases hi
          · rw [if_neg hls]
      rw [e] at hok;exact hok
    · obtain ⟨h1,h2,v,hv,hs,_⟩:=hok
      exact ⟨h1,h2,v,hv,hs,trivial⟩
  · obtain ⟨x,hx,rfl⟩:=seeB_get hy
    obtain ⟨x',hx',rfl⟩:=seeB_get hz
    have:=I.nd j k _ _ (UB_lt hx) (UB_lt hx') hjk
    split <;> split <;> exact this
theorem curT_set {i u : Nat} {τ : MT} (h : ∀ τ',storeOf PL 0 u ≠ some (i,τ')) : curT PL (l.setIfInBounds i true) u τ = curT PL l u τ:=by
  unfold curT
  cases hs : storeOf PL 0 u with
  | none=>rfl
  | some st =>
    obtain ⟨s,τ'⟩:=st
    have hne : s ≠ i:=fun e=>h τ' (by rw [hs,e])
    simp only
    rw [show (l.setIfInBounds i true).getD s false = l.getD s false from by simp [Array.getElem?_setIfInBounds_ne (Ne.symm hne)]]
theorem storeOf_ne {i u : Nat} {po : PO3} (hp : PL[i]? = some po) (hs : po.isSt = false) : ∀ τ',storeOf PL 0 u ≠ some (i,τ'):=fun τ' h=>by
  obtain ⟨po',_,h1,h2⟩:=storeOf_get h
  rw [Nat.sub_zero,hp] at h1;cases h1
  unfold PO3.isSt at hs;rw [h2] at hs;cases hs
theorem getD_set {i j : Nat} (h : j ≠ i) : (l.setIfInBounds i true).getD j false = l.getD j false:=by simp [Array.getElem?_setIfInBounds_ne (Ne.symm h)]
theorem UB_g {i : Nat} {po : PO3} {τ : MT} (hp : PL[i]? = some po) (hτ : po.τ = .g τ) (u : Nat) : UB PL β B (l.setIfInBounds i true) u = UB PL β B l u:=by
  have hs : po.isSt = false:=by unfold PO3.isSt;rw [hτ]
  unfold UB
  split
  · congr 1;funext x;rw [curT_set (storeOf_ne hp hs)]
  · split
    · rename_i po' hpo'
      split
      · rename_i hτ'
        have hne : u - B.length ≠ i:=fun e=>by rw [e,hp] at hpo';cases hpo';rw [hτ] at hτ';cases hτ'
        rw [getD_set hne,curT_set (storeOf_ne hp hs)]
      · rfl
    · rfl
theorem UB_a {i b : Nat} {po : PO3} {mk : Nat → Value} {ty : TypeId} {k : Option Nat} {τ : MT} (hp : PL[i]? = some po) (hτ : po.τ = .al mk ty k τ) (u : Nat) (hu : u ≠ B.length + i) :
    UB PL (fun j=>if j = i then b else β j) B (l.setIfInBounds i true) u = UB PL β B l u:=by
  have hs : po.isSt = false:=by unfold PO3.isSt;rw [hτ]
  unfold UB
  split
  · congr 1;funext x;rw [curT_set (storeOf_ne hp hs)]
  · split
    · split
      · have hne : u - B.length ≠ i:=by omega
        rw [getD_set hne,curT_set (storeOf_ne hp hs)];simp only [if_neg hne]
      · rfl
    · rfl
theorem UB_s {i u v : Nat} {po : PO3} {τ : MT} (hp : PL[i]? = some po) (hτ : po.τ = .st u τ) (hv : v ≠ u) : UB PL β B (l.setIfInBounds i true) v = UB PL β B l v:=by
  have hs : ∀ τ',storeOf PL 0 v ≠ some (i,τ'):=fun τ' h=>by
    obtain ⟨po',_,h1,h2⟩:=storeOf_get h
    rw [Nat.sub_zero,hp] at h1;cases h1
    rw [hτ] at h2;cases h2;exact hv rfl
  unfold UB
  split
  · congr 1;funext x;rw [curT_set hs]
  · split
    · rename_i po' hpo'
      split
      · rename_i hτ'
        have hne : v - B.length ≠ i:=fun e=>by rw [e,hp] at hpo';cases hpo';rw [hτ] at hτ';cases hτ'
        rw [getD_set hne,curT_set hs]
      · rfl
    · rfl
theorem UB_s_self {i u : Nat} {po : PO3} {τ : MT} {x : BX} (hp : PL[i]? = some po) (hτ : po.τ = .st u τ) (hst : storeOf PL 0 u = some (i,τ)) (hi : i < l.size) (hx : UB PL β B l u = some x) : UB PL β B (l.setIfInBounds i true) u = some ⟨x.b,x.ty,x.k,τ⟩:=by
  have hc : ∀ z,curT PL (l.setIfInBounds i true) u z = τ:=fun z=>by unfold curT;rw [hst];simp [hi]
  rcases UB_cases hx with ⟨x0,h1,rfl⟩ | ⟨j,po',mk,ty,k,τ0,rfl,h1,h2,h3,rfl⟩
  · rw [UB_lt h1,hc]
  · have hne : j ≠ i:=fun e=>by rw [e,hp] at h1;cases h1;rw [hτ] at h2;cases h2
    rw [UB_al h1 h2 (by rw [getD_set hne];exact h3),hc]
theorem cl_set {i : Nat} (I : DI P W0 G0 N B ops PL a0 Gs β l a w G) (hi : i < ops.size) (hcl : ∀ (o : Oper), ops[i]? = some o → ∀ e ∈ o.after, Region.binds .any e = true → l.getD e.on false = true) :
    ∀ (j : Nat) (o : Oper),ops[j]? = some o → (l.setIfInBounds i true).getD j false = true → ∀ e ∈ o.after,Region.binds .any e = true → (l.setIfInBounds i true).getD e.on false = true:=fun j o ho hl e he hb=>by
  have hl' : l.getD e.on false = true:=by
    by_cases e1 : j = i
    · subst e1;exact hcl o ho e he hb
    · rw [getD_set e1] at hl;exact I.cl j o ho hl e he hb
  by_cases e2 : e.on = i
  · rw [e2];have : i < l.size:=by rw [I.lsz];exact hi
    simp [this]
  · rw [getD_set e2];exact hl'
theorem DI.putG {w' : World} {G' : Gh} {i : Nat} {po : PO3} {τ : MT} {v : Value} (I : DI P W0 G0 N B ops PL a0 Gs β l a w G) (hp : PL[i]? = some po) (hτ : po.τ = .g τ) (hi : i < ops.size)
    (hne : ∀ {j : Nat} {po' : PO3},PL[j]? = some po' → j ≠ i → po'.isSt = false → po'.d ≠ po.d) (hdN : po.d < N) (hn : Nxt w G w' G') (hv : τ.t v G')
    (hcl : ∀ (o : Oper),ops[i]? = some o → ∀ e ∈ o.after,Region.binds .any e = true → l.getD e.on false = true) :
    DI P W0 G0 N B ops PL a0 Gs β (l.setIfInBounds i true) (a.put (some po.d) v) w' G':=by
  have hs : po.isSt = false:=by unfold PO3.isSt;rw [hτ]
  have hsame : tm (a.put (some po.d) v) po.d = v:=tm_put_same (by rw [I.size];exact hdN)
  refine ⟨I.nxt.trans hn,I.gle.trans hn.le,by rw [size_put];exact I.size,by rw [dfr_put];exact I.dfr,by simpa using I.lsz,fun t ht=>?_,fun j po' hj hl=>?_,fun j hj=>?_,cl_set I hi hcl,fun u x hu=>?_,fun u u' x y hu hy huv=>?_⟩
  · rw [tm_put_ne (fun e=>ht i po hp hs e.symm)];exact I.off t ht
  · by_cases e : j = i
    · subst e;rw [hp] at hj;cases hj;rw [hτ,hsame];exact hv
    · rw [getD_set e] at hl
      have:=I.on j po' hj hl
      cases hτ' : po'.τ with
      | g τ2=>rw [hτ'] at this;rw [tm_put_ne (hne hj e (by unfold PO3.isSt;rw [hτ']))];exact τ2.mono hn.le this
      | al mk ty k z=>rw [hτ'] at this;rw [tm_put_ne (hne hj e (by unfold PO3.isSt;rw [hτ']))];exact this
      | st u z=>trivial
  · have hlt : i < PL.length:=(List.getElem?_eq_some_iff.1 hp).1
    rw [getD_set (by omega)];exact I.tl j hj
  · rw [UB_g hp hτ] at hu;exact (I.bx u x hu).nxt hn
  · rw [UB_g hp hτ] at hu hy;exact I.nd u u' x y hu hy huv
theorem DI.putA {w' : World} {G' : Gh} {i b : Nat} {po : PO3} {mk : Nat → Value} {ty : TypeId} {k : Option Nat} {τ : MT} (I : DI P W0 G0 N B ops PL a0 Gs β l a w G) (hp : PL[i]? = some po) (hτ : po.τ = .al mk ty k τ) (hi : i < ops.size)
    (hne : ∀ {j : Nat} {po' : PO3},PL[j]? = some po' → j ≠ i → po'.isSt = false → po'.d ≠ po.d) (hdN : po.d < N) (hn : Nxt w G w' G') (hb : w.heap.size ≤ b) (hok : BX.ok ⟨b,ty,k,τ⟩ W0 w' G')
    (hst : ∀ s τ',storeOf PL 0 (B.length + i) = some (s,τ') → l.getD s false = false) (hun : l.getD i false = false)
    (hcl : ∀ (o : Oper),ops[i]? = some o → ∀ e ∈ o.after,Region.binds .any e = true → l.getD e.on false = true) :
    DI P W0 G0 N B ops PL a0 Gs (fun j=>if j = i then b else β j) (l.setIfInBounds i true) (a.put (some po.d) (mk b)) w' G':=by
  have hs : po.isSt = false:=by unfold PO3.isSt;rw [hτ]
  have hsame : tm (a.put (some po.d) (mk b)) po.d = mk b:=tm_put_same (by rw [I.size];exact hdN)
  have hself : UB PL (fun j=>if j = i then b else β j) B (l.setIfInBounds i true) (B.length + i) = some ⟨b,ty,k,τ⟩:=by
    have hl : (l.setIfInBounds i true).getD i false = true := by have : i < l.size := by rw [I.lsz]; exact hi
                                                                 simp [this]
    rw [UB_al hp hτ hl,curT_set (storeOf_ne hp hs)]
    simp only [if_true]
    congr 1
    unfold curT
    cases h : storeOf PL 0 (B.length + i) with
    | none=>rfl
    | some st=>obtain ⟨s,τ'⟩:=st;simp only;rw [hst s τ' h];rfl
  refine ⟨I.nxt.trans hn,I.gle.trans hn.le,by rw [size_put];exact I.size,by rw [dfr_put];exact I.dfr,by simpa using I.lsz,fun t ht=>?_,fun j po' hj hl=>?_,fun j hj=>?_,cl_set I hi hcl,fun u x hu=>?_,fun u u' x y hu hy huv=>?_⟩
  · rw [tm_put_ne (fun e=>ht i po hp hs e.symm)];exact I.off t ht
  · by_cases e : j = i
    · subst e;rw [hp] at hj;cases hj;rw [hτ,hsame];simp
    · rw [getD_set e] at hl
      have:=I.on j po' hj hl
      cases hτ' : po'.τ with
      | g τ2=>rw [hτ'] at this;rw [tm_put_ne (hne hj e (by unfold PO3.isSt;rw [hτ']))];exact τ2.mono hn.le this
      | al mk ty k z=>rw [hτ'] at this;rw [tm_put_ne (hne hj e (by unfold PO3.isSt;rw [hτ']))];simp only [if_neg e];exact this
      | st u z=>trivial
  · have hlt : i < PL.length:=(List.getElem?_eq_some_iff.1 hp).1
    rw [getD_set (by omega)];exact I.tl j hj
  · by_cases e : u = B.length + i
    · subst e;rw [hself] at hu;cases hu;exact hok
    · rw [UB_a hp hτ u e] at hu;exact (I.bx u x hu).nxt hn
  · by_cases e : u = B.length + i
    · subst e;rw [hself] at hu;cases hu
      rw [UB_a hp hτ u' (Ne.symm huv)] at hy
      have:=(I.bx u' y hy).lt
      show b ≠ y.b
      omega
    · rw [UB_a hp hτ u e] at hu
      by_cases e' : u' = B.length + i
      · subst e';rw [hself] at hy;cases hy
        have:=(I.bx u x hu).lt
        show x.b ≠ b
        omega
      · rw [UB_a hp hτ u' e'] at hy;exact I.nd u u' x y hu hy huv
theorem DI.putS {i u : Nat} {po : PO3} {τ : MT} {x : BX} {v : Value} (I : DI P W0 G0 N B ops PL a0 Gs β l a w G) (hp : PL[i]? = some po) (hτ : po.τ = .st u τ) (hst : storeOf PL 0 u = some (i, τ)) (hi : i < ops.size)
    (hx : UB PL β B l u = some x) (hs : Shaped x.k v) (hv : τ.t v G)
    (hcl : ∀ (o : Oper),ops[i]? = some o → ∀ e ∈ o.after,Region.binds .any e = true → l.getD e.on false = true) :
    DI P W0 G0 N B ops PL a0 Gs β (l.setIfInBounds i true) a (w.setRow x.b v.cells) G:=by
  have hself:=UB_s_self hp hτ hst (by rw [I.lsz];exact hi) hx
  have hone : ∀ z y,z ≠ u → UB PL β B l z = some y → St W0 G0 N [] [⟨x.b,x.ty,x.k,τ⟩,y] a (w.setRow x.b v.cells) G:=fun z y hz hy=>by
    have S : St W0 G0 N [] [x,y] a w G:=⟨I.nxt,I.size,I.dfr,fun i p h=>by simp at h,fun j q hj=>by
      match j,hj with
      | 0,hj=>cases hj;exact I.bx u x hx
      | 1,hj=>cases hj;exact I.bx z y hy
      | j + 2,hj=>simp at hj,fun j k p q hj hk hjk=>by
      match j,k,hj,hk with
      | 0,0,_,_=>omega
      | 0,1,hj,hk=>cases hj;cases hk;exact I.nd u z x y hx hy (Ne.symm hz)
      | 1,0,hj,hk=>cases hj;cases hk;exact I.nd z u y x hy hx hz
      | 1,1,_,_=>omega
      | j + 2,_,hj,_=>simp at hj
      | _,k + 2,_,hk=>simp at hk⟩
    exact S.setVar 0 rfl hs hv
  have h1 : St W0 G0 N [] [⟨x.b,x.ty,x.k,τ⟩] a (w.setRow x.b v.cells) G:=by
    have S : St W0 G0 N [] [x] a w G:=⟨I.nxt,I.size,I.dfr,fun i p h=>by simp at h,fun j q hj=>by
      match j,hj with
      | 0,hj=>cases hj;exact I.bx u x hx
      | j + 1,hj=>simp at hj,fun j k p q hj hk hjk=>by
      match j,k,hj,hk with
      | 0,0,_,_=>omega
      | j + 1,_,hj,_=>simp at hj
      | _,k + 1,_,hk=>simp at hk⟩
    exact S.setVar 0 rfl hs hv
  refine ⟨h1.nxt,I.gle,I.size,I.dfr,by simpa using I.lsz,I.off,fun j po' hj hl=>?_,fun j hj=>?_,cl_set I hi hcl,fun z y hy=>?_,fun z z' y y' hy hy' hzz=>?_⟩
  · by_cases e : j = i
    · subst e;rw [hp] at hj;cases hj;rw [hτ];trivial
    · rw [getD_set e] at hl;exact I.on j po' hj hl
  · have hlt : i < PL.length:=(List.getElem?_eq_some_iff.1 hp).1
    rw [getD_set (by omega)];exact I.tl j hj
  · by_cases e : z = u
    · subst e;rw [hself] at hy;cases hy;exact h1.bx 0 _ rfl
    · rw [UB_s hp hτ e] at hy;exact (hone z y e hy).bx 1 _ rfl
  · by_cases e : z = u
    · subst e;rw [hself] at hy;cases hy
      rw [UB_s hp hτ (Ne.symm hzz)] at hy'
      exact I.nd z z' x y' hx hy' hzz
    · rw [UB_s hp hτ e] at hy
      by_cases e' : z' = u
      · subst e';rw [hself] at hy';cases hy'
        exact I.nd z z' y x hy hx hzz
      · rw [UB_s hp hτ e'] at hy';exact I.nd z z' y y' hy hy' hzz
def EF3 (PL : List PO3) (n : Nat) : Nat → List Nat
  | 0=>List.range n
  | m + 1=>match PL[m]? with
    | some po=>(match po.τ with | .al _ _ _ _=>(n + m) :: EF3 PL n m | _=>EF3 PL n m)
    | none=>EF3 PL n m
theorem EF3_lt {n : Nat} : ∀ {m u : Nat},u ∈ EF3 PL n m → u < n + m
  | 0,u,h=>by simpa [EF3] using h
  | m + 1,u,h=>by
    unfold EF3 at h
    split at h
    · split at h
      · rcases List.mem_cons.1 h with h | h
        · omega
        · have:=EF3_lt h;omega
      · have:=EF3_lt h;omega
    · have:=EF3_lt h;omega
theorem EF3_nd {n : Nat} : ∀ {m : Nat},(EF3 PL n m).Nodup
  | 0=>List.nodup_range
  | m + 1=>by
    unfold EF3
    split
    · split
      · exact List.nodup_cons.2 ⟨fun h=>by have:=EF3_lt h;omega,EF3_nd⟩
      · exact EF3_nd
    · exact EF3_nd
theorem BZ3_get : ∀ {r : List BX} {u j : Nat} {y : BX},(BZ3 PL u r)[j]? = some y → ∃ x,r[j]? = some x ∧ y = ⟨x.b,x.ty,x.k,finT PL (u + j) x.τ⟩
  | [],_,_,_,h=>by simp [BZ3] at h
  | x :: r,u,j,y,h=>by
    unfold BZ3 at h
    cases j with
    | zero=>exact ⟨x,by simp,by simpa using h.symm⟩
    | succ j =>
      obtain ⟨x',h1,h2⟩:=BZ3_get (r:=r) (u:=u + 1) (j:=j) (by simpa using h)
      exact ⟨x',by simpa using h1,by rw [h2,show u + 1 + j = u + (j + 1) from by omega]⟩
theorem finT_cur {u : Nat} {τ : MT} (hall : ∀ i,i < PL.length → l.getD i false = true) : curT PL l u τ = finT PL u τ:=by
  unfold curT finT
  cases h : storeOf PL 0 u with
  | none=>rfl
  | some st =>
    obtain ⟨s,τ'⟩:=st
    obtain ⟨po,_,h1,_⟩:=storeOf_get h
    have:=(List.getElem?_eq_some_iff.1 h1).1
    simp only;rw [if_pos (hall s (by omega))]
theorem BF3_get (hall : ∀ i,i < PL.length → l.getD i false = true) : ∀ {m j : Nat} {x : BX},(BF3 PL β B m)[j]? = some x → ∃ u,(EF3 PL B.length m)[j]? = some u ∧ UB PL β B l u = some x
  | 0,j,x,h=>by
    obtain ⟨x',h1,rfl⟩:=BZ3_get h
    have hlt:=(List.getElem?_eq_some_iff.1 h1).1
    refine ⟨j,by simp [EF3,hlt],?_⟩
    rw [UB_lt h1,finT_cur hall,Nat.zero_add]
  | m + 1,j,x,h=>by
    unfold BF3 at h
    unfold EF3
    split at h
    · rename_i po hpo
      split at h
      · rename_i mk ty k τ hτ
        cases j with
        | zero =>
          refine ⟨B.length + m,rfl,?_⟩
          rw [UB_al hpo hτ (hall m (List.getElem?_eq_some_iff.1 hpo).1),finT_cur hall]
          simpa using h
        | succ j =>
          obtain ⟨u,h1,h2⟩:=BF3_get hall (m:=m) (j:=j) (by simpa using h)
          exact ⟨u,by simpa using h1,h2⟩
      · rename_i hne
        obtain ⟨u,h1,h2⟩:=BF3_get hall (m:=m) (j:=j) h
        exact ⟨u,h1,h2⟩
    · obtain ⟨u,h1,h2⟩:=BF3_get hall (m:=m) (j:=j) h
      exact ⟨u,h1,h2⟩
theorem LF3_mem {β : Nat → Nat} : ∀ {m : Nat} {p : Nat × MT},p ∈ LF3 PL β L m → p ∈ L ∨ ∃ (i : Nat) (po : PO3),i < m ∧ PL[i]? = some po ∧ p.1 = po.d ∧ (match po.τ with | .g τ=>p.2 = τ | .al mk _ _ _=>p.2 = .ex (mk (β i)) | .st _ _=>False)
  | 0,p,h=>.inl h
  | m + 1,p,h=>by
    unfold LF3 at h
    split at h
    · rename_i po hpo
      split at h
      · rename_i τ hτ
        rcases List.mem_cons.1 h with h | h
        · exact .inr ⟨m,po,by omega,hpo,by rw [h],by rw [hτ,h]⟩
        · rcases LF3_mem h with h | ⟨i,po',hi,h1,h2⟩
          · exact .inl h
          · exact .inr ⟨i,po',by omega,h1,h2⟩
      · rename_i mk ty k τ hτ
        rcases List.mem_cons.1 h with h | h
        · exact .inr ⟨m,po,by omega,hpo,by rw [h],by rw [hτ,h]⟩
        · rcases LF3_mem h with h | ⟨i,po',hi,h1,h2⟩
          · exact .inl h
          · exact .inr ⟨i,po',by omega,h1,h2⟩
      · rcases LF3_mem h with h | ⟨i,po',hi,h1,h2⟩
        · exact .inl h
        · exact .inr ⟨i,po',by omega,h1,h2⟩
    · rcases LF3_mem h with h | ⟨i,po',hi,h1,h2⟩
      · exact .inl h
      · exact .inr ⟨i,po',by omega,h1,h2⟩
theorem DI.done (S0 : ∀ p ∈ L,p.2.t (tm a p.1) G) (I : DI P W0 G0 N B ops PL a0 Gs β l a w G) (hall : ∀ i,i < PL.length → l.getD i false = true) : St W0 G0 N (LF3 PL β L PL.length) (BF3 PL β B PL.length) a w G:=by
  refine ⟨I.nxt,I.size,I.dfr,fun j p hp=>?_,fun j x hx=>?_,fun j k x y hx hy hjk=>?_⟩
  · rcases LF3_mem (List.mem_of_getElem? hp) with h | ⟨i,po,hi,hpo,h1,h2⟩
    · exact S0 p h
    · have:=I.on i po hpo (hall i hi)
      rw [h1]
      cases hτ : po.τ with
      | g τ=>rw [hτ] at this h2;simp only at h2;rw [h2];exact this
      | al mk ty k z=>rw [hτ] at this h2;simp only at h2;rw [h2];exact this
      | st u z=>rw [hτ] at h2;exact absurd h2 id
  · obtain ⟨u,_,h2⟩:=BF3_get hall hx
    exact I.bx u x h2
  · obtain ⟨u,h1,h2⟩:=BF3_get hall hx
    obtain ⟨v,h3,h4⟩:=BF3_get hall hy
    refine I.nd u v x y h2 h4 fun e=>hjk ?_
    subst e
    have hlj:=(List.getElem?_eq_some_iff.1 h1).1
    exact (List.getElem?_inj hlj EF3_nd).1 (h1.trans h3.symm)
end
theorem St.boxes {B' : List BX} {a : Act} {w : World} {G : Gh} (S : St W0 G0 N L B a w G) (e : B = B') : St W0 G0 N L B' a w G:=e ▸ S
theorem UB_start {PL : List PO3} {β : Nat → Nat} {l : Array Bool} {u : Nat} {x : BX} (hl : ∀ i,l.getD i false = false) (h : UB PL β B l u = some x) : B[u]? = some x:=by
  rcases UB_cases h with ⟨x0,h1,rfl⟩ | ⟨i,_,_,_,_,_,_,_,_,h3,_⟩
  · rw [h1]
    have : curT PL l u x0.τ = x0.τ:=by
      unfold curT
      cases storeOf PL 0 u with
      | none=>rfl
      | some st=>obtain ⟨s,τ'⟩:=st;simp only;rw [hl s];rfl
    rw [this]
  · rw [hl i] at h3;cases h3
theorem St.drawnS {id : Nat} {ops : Array Oper} {Q : Exit → Act → World → Prop} {a0 : Act} {w0 : World} {Gs : Gh} (S : St W0 G0 N L B a0 w0 Gs) (PL : List PO3) (hm : P.follows .mixedOrders = true)
    (hd : drawOk3 ops PL (L.map (·.1)) N = true) (hO : Obls3 P W0 G0 N L B ops PL 0 PL)
    (K : ∀ β a w G,St W0 G0 N (LF3 PL β L PL.length) (BF3 PL β B PL.length) a w G → wpList P ops Q (ops.toList.drop PL.length) a w) : (Code.region id ops true).wp P Q a0 w0:=by
  simp only [drawOk3,Bool.and_eq_true,List.all_eq_true,List.mem_range,decide_eq_true_eq,Bool.or_eq_true,bne_iff_ne,Bool.not_eq_true',beq_iff_eq] at hd
  obtain ⟨⟨⟨⟨⟨⟨h1,h3⟩,h4⟩,h5⟩,h6⟩,h7⟩,h8⟩:=hd
  have hpl : ∀ {i : Nat} {po : PO3},PL[i]? = some po → i < PL.length:=fun h=>(List.getElem?_eq_some_iff.1 h).1
  have hne : ∀ {i j : Nat} {po po' : PO3},PL[i]? = some po → PL[j]? = some po' → i ≠ j → po.isSt = false → po'.isSt = false → po.d ≠ po'.d:=fun {i j po po'} hp hp' hij hs hs'=>by
    rcases h3 i (hpl hp) j (hpl hp') with ((h | h) | h) | h
    · exact absurd h hij
    · rw [hp] at h;simp [hs] at h
    · rw [hp'] at h;simp [hs'] at h
    · rw [hp,hp'] at h;simpa using h
  have hfr : ∀ {i : Nat} {po : PO3},PL[i]? = some po → po.isSt = false → po.d < N ∧ ∀ p ∈ L,p.1 ≠ po.d:=fun {i po} hp hs=>by
    have:=h4 po (List.mem_of_getElem? hp)
    rw [hs] at this
    have:=this.resolve_left (by simp)
    refine ⟨this.2,fun p hpm e=>?_⟩
    have hc:=this.1
    rw [← e] at hc
    have : (L.map (·.1)).contains p.1 = true:=by simpa using ⟨p.2,hpm⟩
    rw [this] at hc;cases hc
  have hdep : ∀ {i : Nat} {po : PO3},PL[i]? = some po → ∀ j ∈ po.dep,waits ops ops.size i j = true:=fun {i po} hp j hj=>by
    have h6':=h6 i (hpl hp)
    rw [hp] at h6'
    simp only [Option.all_some,List.all_eq_true,Bool.and_eq_true,decide_eq_true_eq] at h6'
    exact (h6' j hj).2
  have hL : ∀ {β l a w G},DI P W0 G0 N B ops PL a0 Gs β l a w G → ∀ p ∈ L,p.2.t (tm a p.1) G:=fun {β l a w G} I p hp=>by
    rw [I.off p.1 (fun i po hpo hs=>fun e=>(hfr hpo hs).2 p hp e.symm)]
    obtain ⟨i,hi⟩:=List.getElem?_of_mem hp
    exact p.2.mono I.gle (S.ty i p hi)
  have fin : ∀ (fuel : Nat) (β : Nat → Nat) (l : Array Bool) (a : Act) (w : World) (G : Gh),DI P W0 G0 N B ops PL a0 Gs β l a w G → fuel + cnt l = ops.size → (∀ i,i < PL.length → l.getD i false = true) → wpAny P .any ops Q fuel l a w:=by
    intro fuel β l a w G I hc hall
    have hSt:=DI.done (hL I) I hall
    have hl : l = firstN ops.size PL.length:=by
      apply Array.ext
      · simp [firstN,I.lsz]
      · intro k k1 k2
        by_cases hk : k < PL.length
        · have:=hall k hk;simp [k1] at this;simp [firstN,this,hk]
        · have:=I.tl k (by omega);simp [k1] at this;simp [firstN,this,hk]
    subst hl
    rw [cnt_firstN h1] at hc
    have hf : fuel = ops.size - PL.length:=by omega
    subst hf
    have hsub : ops.size - (ops.size - PL.length) = PL.length:=by omega
    have:=tail_any (P:=P) (Q:=Q) (ops:=ops) (ops.size - PL.length) a w (by omega) (fun j hj1 hj2=>by
      have:=h8 (j - PL.length) (by omega)
      rw [show PL.length + (j - PL.length) = j from by omega] at this
      exact this) (by rw [hsub];exact K β a w G hSt)
    rw [hsub] at this
    exact this
  have key : ∀ (fuel : Nat) (β : Nat → Nat) (l : Array Bool) (a : Act) (w : World) (G : Gh),DI P W0 G0 N B ops PL a0 Gs β l a w G → fuel + cnt l = ops.size → wpAny P .any ops Q fuel l a w:=by
    intro fuel
    induction fuel with
    | zero =>
      intro β l a w G I hc
      refine fin 0 β l a w G I hc fun i hi=>?_
      by_cases hx : l.getD i false = true
      · exact hx
      · exfalso
        have hli : i < l.size:=by rw [I.lsz];omega
        have hz : l.getD i true = false:=by simp [hli] at hx ⊢;exact hx
        have h9:=cnt_set hli hz
        have h10:=cnt_le (l.setIfInBounds i true)
        rw [Array.size_setIfInBounds,I.lsz] at h10
        omega
    | succ fuel ih =>
      intro β l a w G I hc
      by_cases hall : ∀ i,i < PL.length → l.getD i false = true
      · exact fin (fuel + 1) β l a w G I hc hall
      · have hex : ∃ i, i < PL.length ∧ l.getD i false = false := by
          refine Classical.byContradiction fun hn=>hall fun i hi=>?_
          by_cases hx : l.getD i false = true
          · exact hx
          · exact absurd ⟨i,hi,by simpa using hx⟩ hn
        have hpre : ∀ i,i ∈ Region.ready .any ops l → i < PL.length:=fun i hi=>by
          rcases Nat.lt_or_ge i PL.length with h | h
          · exact h
          · exfalso
            obtain ⟨j,hj,hjl⟩:=hex
            obtain ⟨_,o,ho,hall'⟩:=mem_ready.1 hi
            have hio : i < ops.size:=(Array.getElem?_eq_some_iff.1 ho).1
            have hw:=h7 (i - PL.length) (by omega) j hj
            rw [show PL.length + (i - PL.length) = i from by omega] at hw
            have:=I.waited _ hw ho hall'
            rw [hjl] at this;cases this
        have hready : Region.ready .any ops l ≠ []:=by
          have hleast : ∃ i,(i < PL.length ∧ l.getD i false = false) ∧ ∀ j,j < i → ¬ (j < PL.length ∧ l.getD j false = false):=by
            obtain ⟨i,hi⟩:=hex
            induction i using Nat.strongRecOn with
            | _ i ih' =>
              by_cases hh : ∃ j,j < i ∧ (j < PL.length ∧ l.getD j false = false)
              · obtain ⟨j,hj,hj2⟩:=hh;exact ih' j hj hj2
              · exact ⟨i,hi,fun j hj hc=>hh ⟨j,hj,hc⟩⟩
          obtain ⟨i,⟨hi,hil⟩,hmin⟩:=hleast
          have hio : i < ops.size:=by omega
          have : i ∈ Region.ready .any ops l:=by
            refine mem_ready.2 ⟨?_,ops[i],Array.getElem?_eq_getElem hio,fun e he hb=>?_⟩
            · have hli : i < l.size:=by rw [I.lsz];exact hio
              simp [hli] at hil ⊢;exact hil
            · have h5':=h5 i hi
              rw [Array.getElem?_eq_getElem hio] at h5'
              simp only [Option.all_some,Array.all_eq_true,Bool.or_eq_true,Bool.not_eq_true',decide_eq_true_eq] at h5'
              obtain ⟨k,hk,hke⟩:=Array.mem_iff_getElem.1 he
              have hlt : e.on < i:=by
                rcases h5' k hk with h | h
                · rw [hke,hb] at h;cases h
                · rw [hke] at h;exact h
              have:=hmin e.on hlt
              by_cases hx : l.getD e.on false = true
              · exact hx
              · exact absurd ⟨by omega,by simpa using hx⟩ this
          intro h;rw [h] at this;cases this
        refine ⟨fun h=>absurd h hready,fun i hi=>?_⟩
        have hip:=hpre i hi
        obtain ⟨hun,o,ho,hedge⟩:=mem_ready.1 hi
        have hio : i < ops.size:=(Array.getElem?_eq_some_iff.1 ho).1
        have hli : i < l.size:=by rw [I.lsz];exact hio
        have hunf : l.getD i false = false:=by simp [hli] at hun ⊢;exact hun
        have hpo : PL[i]? = some PL[i]:=List.getElem?_eq_getElem hip
        generalize PL[i] = po at hpo
        have hob:=Obls3.get hO hpo
        rw [Nat.zero_add] at hob
        have hgd : ops.getD i default = o:=by simp [ho]
        have hcnt : fuel + cnt (l.setIfInBounds i true) = ops.size:=by rw [cnt_set hli hun];omega
        have hcl : ∀ o',ops[i]? = some o' → ∀ e ∈ o'.after,Region.binds .any e = true → l.getD e.on false = true:=fun o' ho'=>by rw [ho] at ho';cases ho';exact hedge
        have hSt:=I.see (L:=L) (hL I) hunf ho hedge (hdep hpo)
        unfold wpOp
        rw [ho]
        simp only
        unfold Obl3 at hob
        cases hτ : po.τ with
        | g τ =>
          have hs : po.isSt = false:=by unfold PO3.isSt;rw [hτ]
          rw [hτ] at hob
          obtain ⟨hdo,hob⟩:=hob
          have hdo : o.dst = some po.d:=by rw [ho] at hdo;simpa using hdo
          have hg:=hob a w G hSt
          rw [hgd] at hg
          rcases hg with ⟨hw,hr⟩ | ⟨hw,hu⟩
          · rw [if_pos hw]
            refine .inl (hr Q _ fun v w' G' hv hn=>?_)
            rw [hdo]
            exact ih _ _ _ _ G' (I.putG hpo hτ hio (fun h h' hs'=>hne h hpo h' hs' hs) (hfr hpo hs).1 hn hv hcl) hcnt
          · rw [if_neg (by simp [hw]),hdo]
            exact ih _ _ _ _ G (I.putG hpo hτ hio (fun h h' hs'=>hne h hpo h' hs' hs) (hfr hpo hs).1 (Nxt.refl I.nxt.ok) hu hcl) hcnt
        | al mk ty k z =>
          have hs : po.isSt = false:=by unfold PO3.isSt;rw [hτ]
          rw [hτ] at hob
          obtain ⟨hdo,_,ho2,ho3⟩:=hob
          have hdo : o.dst = some po.d:=by rw [ho] at hdo;simpa using hdo
          rw [hgd] at ho2 ho3
          rw [if_pos (by simp [Region.wanted,ho2])]
          refine .inl (ho3 a w G hSt Q _ fun b w' G' hb hn hG hv=>?_)
          rw [hdo]
          refine ih _ _ _ _ G' (I.putA hpo hτ hio (fun h h' hs'=>hne h hpo h' hs' hs) (hfr hpo hs).1 hn hb ⟨Nat.le_trans I.nxt.below.size hb,hG,hv⟩ (fun s τ' hst=>?_) hunf hcl) hcnt
          obtain ⟨pos,_,e1,e2⟩:=storeOf_get hst
          rw [Nat.sub_zero] at e1
          have hobs:=Obls3.get hO e1
          unfold Obl3 at hobs
          rw [e2] at hobs
          obtain ⟨_,_,_,⟨t,x,y,k',_,_,_,hc⟩ | ⟨hul,_⟩⟩:=hobs
          rotate_left
          · omega
          rw [if_neg (by omega)] at hc
          obtain ⟨_,_,_,_,_,_,hct⟩:=hc
          rw [Nat.add_sub_cancel_left] at hct
          by_cases hls : l.getD s false = true
          · have:=I.past (hdep e1 i (by simpa using hct)) hls
            rw [hunf] at this;cases this
          · simpa using hls
        | st u z =>
          rw [hτ] at hob
          obtain ⟨hst,ho2,hdn,hor⟩:=hob
          rw [hgd] at ho2 hdn hor
          rw [if_pos (by simp [Region.wanted,ho2])]
          rcases hor with ⟨t,x,y,k,hop,hT,hv,hc⟩ | ⟨hul,xb,hxb,hel⟩
          rotate_left
          · have hU : UB PL β B l u = some ⟨xb.b,xb.ty,xb.k,curT PL l u xb.τ⟩:=UB_lt hxb
            obtain ⟨_,_,v0,hv0,hs0,ht0⟩:=I.bx u _ hU
            have hcur : curT PL l u xb.τ = xb.τ:=by unfold curT;rw [hst];simp only;rw [if_neg (by rw [hunf];decide)]
            simp only at hv0 hs0 ht0
            rw [hcur] at ht0
            obtain ⟨v1,hs1,ht1,hwp⟩:=hel a w G v0 hSt hv0 hs0 ht0
            exact .inl (hwp Q _ (ih _ _ _ _ G (I.putS (x:=⟨xb.b,xb.ty,xb.k,curT PL l u xb.τ⟩) hpo hτ hst hio hU hs1 ht1 hcl) hcnt))
          obtain ⟨hv,hs⟩:=hv a w G hSt
          have hX : ∃ X,UB PL β B l u = some X ∧ X.k = k ∧ a.eval x = mkP X.b:=by
            by_cases hu : u < B.length
            · rw [if_pos hu] at hc
              have hc2:=hc.2 a w G hSt
              have hc1:=hc.1
              rw [List.getElem?_eq_getElem hu] at hc1 hc2
              exact ⟨_,UB_lt (List.getElem?_eq_getElem hu),by simpa using hc1,by simpa using hc2.symm⟩
            · rw [if_neg hu] at hc
              obtain ⟨po',ty,τ0,e1,e2,rfl,hct⟩:=hc
              have hj:=I.waited _ (hdep hpo _ (by simpa using hct)) ho hedge
              have:=I.on _ po' e1 hj
              rw [e2] at this
              have hU:=UB_al (β:=β) (B:=B) e1 e2 hj
              rw [show B.length + (u - B.length) = u from by omega] at hU
              exact ⟨_,hU,rfl,this⟩
          obtain ⟨X,hU,hXk,hxe⟩:=hX
          obtain ⟨_,_,v0,hv0,hs0,_⟩:=I.bx u X hU
          rw [hXk] at hs0
          exact .inl (store_wp hop hdn hxe hT hs hv0 hs0 (ih _ _ _ _ G (I.putS hpo hτ hst hio hU (by rw [hXk];exact hs) hv hcl) hcnt))
  refine wp_region_any hm (key _ (fun _=>0) _ _ _ Gs ⟨S.nxt.trans (Nxt.drew S.ok),Gle.refl _,S.size,S.dfr,by simp,fun _ _=>rfl,fun i po hp hl=>?_,fun j _=>?_,fun j o ho hl=>?_,fun u x hu=>?_,fun u v x y hu hv huv=>?_⟩ ?_)
  · have:=hpl hp;simp at hl;have : i < ops.size:=by omega
    simp [this] at hl
  · by_cases hj : j < ops.size <;> simp [hj]
  · have : j < ops.size:=(Array.getElem?_eq_some_iff.1 ho).1
    simp [this] at hl
  · exact (S.bx u x (UB_start (fun j=>by by_cases hj : j < ops.size <;> simp [hj]) hu)).nxt (Nxt.drew S.ok)
  · exact S.nd u v x y (UB_start (fun j=>by by_cases hj : j < ops.size <;> simp [hj]) hu) (UB_start (fun j=>by by_cases hj : j < ops.size <;> simp [hj]) hv) huv
  · simp [cnt]
end
end Go.Proofs.YtboicjlbbbodgaaGreatDoor
namespace Go.Proofs.YtboicjlbbbodgaaGreatDoor
open Go.RowKit (Below)
def ROWT (l : List Nat) : MT:=⟨fun v _=>∃ cs : Array Value,v = .agg cs ∧ cs.toList.take l.length = ucells l,fun _ h=>h⟩
def OWN (e : TypeId) (v : Value) (own : List BX) (l : List Nat) : Prop :=
  (v = .slice none 0 0 ∧ own = [] ∧ l = []) ∨ ∃ b c,v = .slice (some ⟨b,0,none⟩) l.length c ∧ own = [⟨b,e,some c,ROWT l⟩] ∧ l.length ≤ c
theorem OWN.nil {e : TypeId} : OWN e (.slice none 0 0) [] []:=.inl ⟨rfl,rfl,rfl⟩
section
variable {P : Program} {W0 : World} {G0 : Gh} {N : Nat} {L : List (Nat × MT)} {Bh own : List BX} {a : Act} {w : World} {G : Gh} {o : Oper} {e : TypeId} {v : Value} {l : List Nat}
variable {ops : Array Oper} {rest : List Oper} {Q : Exit → Act → World → Prop}
theorem St.front (S : St W0 G0 N L (Bh ++ own) a w G) : St W0 G0 N L Bh a w G :=
  { S with
    bx:=fun i x h=>S.bx i x (by rw [List.getElem?_append_left (List.getElem?_eq_some_iff.1 h).1];exact h)
    nd:=fun i j x y h h' hij=>S.nd i j x y (by rw [List.getElem?_append_left (List.getElem?_eq_some_iff.1 h).1];exact h) (by rw [List.getElem?_append_left (List.getElem?_eq_some_iff.1 h').1];exact h') hij }
theorem St.newEnd (S : St W0 G0 N L Bh a w G) {w' : World} {b : Nat} {ty : TypeId} {k : Option Nat} {τ : MT} {u : Value} (hn : Nxt w G w' G) (hb : w.heap.size ≤ b) (hw : w'.heap[b]? = some (.cells u.cells ty (0, 0))) (hs : Shaped k u) (hu : τ.t u G) :
    St W0 G0 N L (Bh ++ [⟨b,ty,k,τ⟩]) a w' G where
  nxt:=S.nxt.trans hn
  size:=S.size
  dfr:=S.dfr
  ty:=S.ty
  bx:=fun i x h=>by
    rcases Nat.lt_or_ge i Bh.length with hi | hi
    · rw [List.getElem?_append_left hi] at h;exact (S.bx i x h).nxt hn
    · rw [List.getElem?_append_right hi] at h
      have : i - Bh.length = 0:=by have:=(List.getElem?_eq_some_iff.1 h).1;simpa using this
      rw [this] at h;cases h
      exact ⟨Nat.le_trans S.nxt.below.size hb,S.ok.none hb,u,hw,hs,hu⟩
  nd:=fun i j x y h h' hij=>by
    rcases Nat.lt_or_ge i Bh.length with hi | hi <;> rcases Nat.lt_or_ge j Bh.length with hj | hj
    · rw [List.getElem?_append_left hi] at h;rw [List.getElem?_append_left hj] at h';exact S.nd i j x y h h' hij
    · rw [List.getElem?_append_left hi] at h;rw [List.getElem?_append_right hj] at h'
      have : j - Bh.length = 0:=by have:=(List.getElem?_eq_some_iff.1 h').1;simpa using this
      rw [this] at h';cases h'
      have:=(S.bx i x h).lt
      show x.b ≠ b
      omega
    · rw [List.getElem?_append_right hi] at h;rw [List.getElem?_append_left hj] at h'
      have : i - Bh.length = 0:=by have:=(List.getElem?_eq_some_iff.1 h).1;simpa using this
      rw [this] at h;cases h
      have:=(S.bx j y h').lt
      show b ≠ y.b
      omega
    · have h1:=(List.getElem?_eq_some_iff.1 h).1;have h2:=(List.getElem?_eq_some_iff.1 h').1
      simp at h1 h2;omega
theorem cells_one {c : Nat} {u : Value} (h : Shaped (some c) u) : ∃ cs : Array Value,u = .agg cs ∧ cs.size = c ∧ ∀ x ∈ cs.toList,x.oneCell' = true:=by
  obtain ⟨cs,h1,h2,h3⟩:=h;exact ⟨cs,h1,h2,by simpa using h3⟩
theorem zeroCells_one {n : Nat} {x : Value} (h : x ∈ Builtin.zeroCells (u32 0).cells n) : x.oneCell' = true:=by
  have : x = u32 0:=by
    simp [Builtin.zeroCells,Value.cells] at h
    obtain ⟨j,_,h⟩:=h
    rw [← h,Nat.mod_one];rfl
  subst this;rfl
theorem take_app {l : List Nat} {z : Nat} {r : List Value} : List.take (l.length + 1) (List.map u32 l ++ u32 z :: r) = List.map u32 l ++ [u32 z]:=by
  have h : (List.map u32 l ++ [u32 z]).length = l.length + 1:=by simp
  rw [show List.map u32 l ++ u32 z :: r = (List.map u32 l ++ [u32 z]) ++ r from by simp,← h]
  exact List.take_left
theorem take_get {l : List Nat} {cs : Array Value} {j : Nat} {q : Value} (h : cs.toList.take l.length = ucells l) (hj : (ucells l)[j]? = some q) : cs[j]? = some q:=by
  rw [← h,List.getElem?_take] at hj
  split at hj
  · simpa using hj
  · cases hj
theorem St.app1 (S : St W0 G0 N L (Bh ++ own) a w G) {d t z : Nat} {x y : Operand} (ho : o.op = .call { callee := .builtin .append, args := #[x, y], argTypes := #[t, t] }) (hd : o.dst = some d) (hg : o.guard = none)
    (ht : P.underlying t = some (.slice e)) (he : elS P e 1 4 (u32 0)) (hx : a.eval x = v) (hr : OWN e v own l) (hy : (SL [z]).t (a.eval y) G) (hlim : l.length < LIM) (hdN : (decide (d < N)) = true) (hf : fresh d L = true)
    (K : ∀ v' own' a' w' G',OWN e v' own' (l ++ [z]) → St W0 G0 N ((d,.ex v') :: L) (Bh ++ own') a' w' G' → wpList P ops Q rest a' w') : wpList P ops Q (o :: rest) a w:=by
  refine wpList_plain hg fun K' hK=>?_
  obtain ⟨i,hi,h1,h2,h3⟩:=elS_of he
  obtain ⟨A,c,hye,hlc,_,_,hcell⟩:=hy
  obtain ⟨b2,off2,rfl,hc2⟩:=hcell 0 z rfl
  rw [Nat.add_zero] at hc2
  have hnews : ∀ j u,[u32 z][j]? = some u → w.cell? ((⟨b2,off2,none⟩ : Addr).add j) = some u:=fun j u hj=>by
    match j,hj with
    | 0,hj=>cases hj;rw [addr_add];exact Gc.cell S.ok hc2
    | j + 1,hj=>simp at hj
  simp only [LIM] at hlim
  have hdN':=of_decide_eq_true hdN
  have go : ∀ v' w',(Builtin.append_ #[t,t] o.type #[v,.slice (some ⟨b2,off2,none⟩) 1 c]).run P w = .ok v' w' → K' (a.put (some d) v') w' → o.wp P a w K' Q:=fun v' w' hrun hk=>by
    unfold Oper.wp execOp
    simp only [List.length_cons,List.length_nil,Nat.zero_add] at hye
    simp only [ho,resolve,invoke,builtin,Sem.run_bind,Sem.run_pure,Result.andThen_ok,List.map_toArray,List.map_cons,List.map_nil,hx,hye,hrun]
    show K' (a.put o.dst v') w'
    rw [hd];exact hk
  have grown : ∀ (olds : List Nat) (n cp : Nat), olds = l → n = olds.length + 1 → (Builtin.append_ #[t, t] o.type #[v, .slice (some ⟨b2, off2, none⟩) 1 c]).run P w =
      .ok (.slice (some ⟨w.heap.size,0,none⟩) n (grownCap w n cp e)) (w.drew.alloc (.cells ((ucells olds).toArray ++ [u32 z].toArray ++ Builtin.zeroCells (u32 0).cells (grownCap w n cp e - n)) e)) → o.wp P a w K' Q:=fun olds n cp h h' hrun=>by
    subst h h'
    have hge:=grownCap_ge w (olds.length + 1) cp e
    generalize grownCap w (olds.length + 1) cp e = q at *
    refine go _ _ hrun (hK _ _ (K _ [⟨w.heap.size,e,some q,ROWT (olds ++ [z])⟩] _ _ G (.inr ⟨_,q,by simp,rfl,by simpa using hge⟩) (St.put (w':=_) ?_ hdN' hf rfl (Nxt.refl ?_))))
    · refine S.front.newEnd (u:=.agg ((ucells olds).toArray ++ [u32 z].toArray ++ Builtin.zeroCells (u32 0).cells (q - (olds.length + 1)))) ((Nxt.drew S.ok).trans (Nxt.alloc (Nxt.drew S.ok).ok _)) (Nat.le_refl _) (heap_alloc_new w.drew _) ⟨_,rfl,?_,?_⟩ ⟨_,rfl,?_⟩
      · simp [ucells,size_zeroCells,Value.cells];omega
      · intro x hx
        have hx : x ∈ ((ucells olds).toArray ++ [u32 z].toArray ++ Builtin.zeroCells (u32 0).cells (q - (olds.length + 1))).toList:=by simpa using hx
        simp only [ucells,Array.toList_append,List.mem_append,List.mem_map,List.mem_singleton] at hx
        rcases hx with (⟨y,_,rfl⟩ | rfl) | hx
        · rfl
        · rfl
        · exact zeroCells_one (by simpa using hx)
      · simpa [ucells] using take_app
    · exact ((Nxt.drew S.ok).trans (Nxt.alloc (Nxt.drew S.ok).ok _)).ok
  rcases hr with ⟨rfl,rfl,rfl⟩ | ⟨b,cp,rfl,rfl,hcp⟩
  · have hrun:=run_append_nil (P:=P) w t o.type e i (u32 0) ht hi h3 ⟨b2,off2,none⟩ 1 c [u32 z] (by simp [h1]) hnews (by omega) (by omega) (by omega)
    exact grown [] 1 0 rfl rfl (by simpa [ucells] using hrun)
  · obtain ⟨h4,h5,u,hu,hsu,cs,rfl,htake⟩:=S.bx Bh.length ⟨b,e,some cp,ROWT l⟩ (by simp)
    obtain ⟨cs',e1,hsz,hone⟩:=cells_one hsu
    cases e1
    by_cases hroom : l.length + 1 ≤ cp
    · have hrun:=run_append_room (P:=P) w t o.type e i ht hi b l.length cp cs hu ⟨b2,off2,none⟩ 1 c [u32 z] (by simp [h1]) hnews (by simp [Value.oneCell']) hroom (by simp [h1];omega)
      rw [h1,Nat.mul_one] at hrun
      have hset:=S.setVar Bh.length (x:=⟨b,e,some cp,ROWT l⟩) (by simp) (v:=.agg (cs.toList.take l.length ++ [u32 z] ++ cs.toList.drop (l.length + [u32 z].length)).toArray) (τ:=ROWT (l ++ [z])) ⟨_,rfl,by simp;omega,fun x hx=>by
        simp only [List.mem_append,List.mem_singleton,List.mem_toArray] at hx
        rcases hx with (hx | hx) | hx
        · exact hone x (List.mem_of_mem_take hx)
        · subst hx;rfl
        · exact hone x (List.mem_of_mem_drop hx)⟩ ⟨_,rfl,by rw [htake];simpa [ucells] using take_app⟩
      have hB : (Bh ++ [(⟨b,e,some cp,ROWT l⟩ : BX)]).set Bh.length ⟨b,e,some cp,ROWT (l ++ [z])⟩ = Bh ++ [(⟨b,e,some cp,ROWT (l ++ [z])⟩ : BX)]:=by simp
      rw [hB] at hset
      exact go _ _ hrun (hK _ _ (K _ [⟨b,e,some cp,ROWT (l ++ [z])⟩] _ _ G (.inr ⟨b,cp,by simp,rfl,by simpa using hroom⟩) (hset.put hdN' hf rfl (Nxt.refl hset.ok))))
    · have hrun := run_append_grow (P := P) w t o.type e i (u32 0) ht hi h3 ⟨b, 0, none⟩ l.length cp (ucells l) (by simp [ucells, h1]) (fun j q hj => by
        rw [addr_add,Nat.zero_add]
        have hu' : w.heap[b]? = some (.cells cs e (0,0)):=hu
        simp [World.cell?,hu',take_get htake hj]) ⟨b2,off2,none⟩ 1 c [u32 z] (by simp [h1]) hnews (by omega) (by omega) (growslice_fits (by omega) (by rw [h2];omega))
      exact grown l (l.length + 1) cp rfl rfl (by simpa using hrun)
theorem St.freezeRow (S : St W0 G0 N L (Bh ++ own) a w G) (hr : OWN e v own l) (hlim : l.length ≤ LIM) (hw : wfl l) : ∃ G',(SL l).t v G' ∧ Gle G G' ∧ St W0 G0 N L Bh a w G':=by
  rcases hr with ⟨rfl,rfl,rfl⟩ | ⟨b,cp,rfl,rfl,hcp⟩
  · exact ⟨G,SL.nil,Gle.refl _,S.front⟩
  · obtain ⟨u,G',hu,hsu,hg,hle,S'⟩:=S.freeze Bh.length (b:=b) (ty:=e) (k:=some cp) (τ:=ROWT l) (by simp)
    obtain ⟨cs,rfl,htake⟩:=hu
    refine ⟨G',⟨_,cp,rfl,hcp,hlim,hw,fun i x hi=>⟨b,0,rfl,?_⟩⟩,hle,?_⟩
    · rw [Nat.zero_add]
      have:=take_get (j:=i) htake (show (ucells l)[i]? = some (u32 x) by simp [ucells,hi])
      simp [Gc,hg,Value.cells,this]
    · simpa [List.eraseIdx_append_of_length_le] using S'
end
end Go.Proofs.YtboicjlbbbodgaaGreatDoor
namespace Go.Proofs.YtboicjlbbbodgaaGreatDoor
theorem dig_out {l : List Nat} {i : Nat} (h : l.length ≤ i) : dig l i = 0:=by simp [dig,List.getElem?_eq_none h]
theorem trim_step {l : List Nat} {n : Nat} (h0 : 0 < n) (hd : dig l (n - 1) = 0) (hv : val (l.take n) = val l) : val (l.take (n - 1)) = val l:=by
  have:=val_take_dig l (n - 1)
  rw [show n - 1 + 1 = n from by omega,hd] at this
  omega
theorem trim_zero {l : List Nat} {n m : Nat} (h0 : n = 0) (hv : val (l.take n) = val l) (hl : val l = m) : m = 0:=by
  subst h0;simp [val] at hv;omega
theorem trim_words {l : List Nat} {n m : Nat} (h0 : ¬ n = 0) (hd : ¬ (0 < n ∧ dig l (n - 1) = 0)) (hn : n ≤ l.length) (hv : val (l.take n) = val l) (hl : val l = m) (hw : wfl l) : l.take n = words m:=by
  rw [← hl,← hv]
  refine (words_val (hw.take n) ?_).symm
  have hd' : dig l (n - 1) ≠ 0:=fun e=>hd ⟨by omega,e⟩
  unfold canl
  have : (l.take n).getLast? = some (dig l (n - 1)):=by
    rw [List.getLast?_eq_getElem?,List.length_take,Nat.min_eq_left hn,List.getElem?_take,if_pos (by omega)]
    exact dig_get (by omega)
  rw [this];simpa using hd'
theorem SL.toSN {v : Value} {G : Gh} {l : List Nat} {n m : Nat} (h : (SL l).t v G) (e : l = words m) (hm : m < 2 ^ n) : (SN n m).t v G:=⟨hm,e ▸ h⟩
theorem SL.asSV {v : Value} {G : Gh} {l : List Nat} {n m : Nat} (h : (SL l).t v G) (e : val l = m ∧ m < 2 ^ n) : (SV n m).t v G:=⟨e.2,l,e.1,h⟩
def cmpN (a b : Nat) : Int:=if a < b then -1 else if b < a then 1 else 0
theorem pow_le_words {n : Nat} (h : n ≠ 0) : 4294967296 ^ ((words n).length - 1) ≤ n:=by
  induction n using Nat.strongRecOn with
  | _ n ih =>
    rw [words_pos h,List.length_cons,Nat.add_sub_cancel]
    by_cases h2 : n / 4294967296 = 0
    · rw [h2,words_zero];simp;omega
    · have:=ih _ (show n / 4294967296 < n by omega) h2
      have hl : (words (n / 4294967296)).length ≠ 0:=fun e=>h2 (words_nil_iff.1 (List.eq_nil_of_length_eq_zero e))
      have : 4294967296 ^ ((words (n / 4294967296)).length - 1 + 1) ≤ n:=by rw [Nat.pow_succ];omega
      rwa [Nat.sub_add_cancel (by omega)] at this
theorem lt_of_len {a b : Nat} (h : (words a).length < (words b).length) : a < b:=by
  have h1:=val_lt (wfl_words a)
  rw [val_words] at h1
  have hb : b ≠ 0:=fun e=>by subst e;rw [words_zero] at h;simp at h
  have h2:=pow_le_words hb
  have h3 : 4294967296 ^ (words a).length ≤ 4294967296 ^ ((words b).length - 1):=Nat.pow_le_pow_right (by omega) (by omega)
  omega
theorem cmp_of_lt {a b : Nat} (h : a < b) : (-1 : Int) = cmpN a b:=by simp [cmpN,h]
theorem cmp_of_gt {a b : Nat} (h : b < a) : (((1 : Nat) : Int)) = cmpN a b:=by simp [cmpN,h,Nat.not_lt.2 (Nat.le_of_lt h)]
theorem cmp_of_eq {a b : Nat} (h : a = b) : (((0 : Nat) : Int)) = cmpN a b:=by simp [cmpN,h]
theorem lt_of_dig {a b k : Nat} (hk : 0 < k) (he : val ((words a).drop k) = val ((words b).drop k)) (hd : dig (words a) (k - 1) < dig (words b) (k - 1)) : a < b:=by
  have ha:=val_split (words a) (k - 1);have hb:=val_split (words b) (k - 1)
  rw [val_words] at ha hb
  have h1:=val_drop_dig (words a) (k - 1);have h2:=val_drop_dig (words b) (k - 1)
  rw [show k - 1 + 1 = k from by omega] at h1 h2
  have h3:=val_lt ((wfl_words a).take (k - 1))
  have h4 : 4294967296 ^ ((words a).take (k - 1)).length ≤ 4294967296 ^ (k - 1):=Nat.pow_le_pow_right (by omega) (by simp;omega)
  have h5 : 4294967296 ^ (k - 1) * (val ((words a).drop (k - 1)) + 1) ≤ 4294967296 ^ (k - 1) * val ((words b).drop (k - 1)):=Nat.mul_le_mul_left _ (by omega)
  rw [Nat.mul_add] at h5
  omega
theorem drop_step {a b k : Nat} (hk : 0 < k) (he : val ((words a).drop k) = val ((words b).drop k)) (hd : ¬ dig (words a) (k - 1) ≠ dig (words b) (k - 1)) : val ((words a).drop (k - 1)) = val ((words b).drop (k - 1)):=by
  have h1:=val_drop_dig (words a) (k - 1);have h2:=val_drop_dig (words b) (k - 1)
  rw [show k - 1 + 1 = k from by omega] at h1 h2
  omega
theorem eq_of_drop {a b k : Nat} (hk : k = 0) (he : val ((words a).drop k) = val ((words b).drop k)) : a = b:=by
  subst hk;simpa [val_words] using he
theorem take_set {l : List Nat} {k x : Nat} (hk : k < l.length) : (l.set k x).take (k + 1) = l.take k ++ [x]:=by
  apply List.ext_getElem?
  intro i
  rw [List.getElem?_take,List.getElem?_append]
  simp only [List.getElem?_set,List.length_take,Nat.min_eq_left (Nat.le_of_lt hk),List.getElem?_take]
  by_cases h1 : i < k
  · simp [h1,show i < k + 1 from by omega,show ¬ k = i from by omega]
  · by_cases h2 : i = k
    · subst h2;simp [hk]
    · simp [h1,show ¬ i < k + 1 from by omega];omega
theorem val_take_set {l : List Nat} {k x : Nat} (hk : k < l.length) : val ((l.set k x).take (k + 1)) = val (l.take k) + 4294967296 ^ k * x:=by
  rw [take_set hk,val_append];simp [val,Nat.min_eq_left (Nat.le_of_lt hk)]
theorem wfl.set {l : List Nat} (h : wfl l) {k x : Nat} (hx : x < 4294967296) : wfl (l.set k x):=fun y hy=>by
  rcases List.mem_or_eq_of_mem_set hy with h1 | rfl
  · exact h y h1
  · exact hx
theorem wfl_replicate (n : Nat) : wfl (List.replicate n 0):=fun x hx=>by have:=List.eq_of_mem_replicate hx;omega
theorem add_step {l la lb : List Nat} {k c : Nat} (hk : k < l.length) (h : val (l.take k) + 4294967296 ^ k * c = val (la.take k) + val (lb.take k)) :
    val ((l.set k ((c + (dig la k + dig lb k)) % 4294967296)).take (k + 1)) + 4294967296 ^ (k + 1) * ((c + (dig la k + dig lb k)) / 2 ^ 32) = val (la.take (k + 1)) + val (lb.take (k + 1)):=by
  rw [val_take_set hk,val_take_dig,val_take_dig]
  have e : (c + (dig la k + dig lb k)) % 4294967296 + 4294967296 * ((c + (dig la k + dig lb k)) / 2 ^ 32) = c + (dig la k + dig lb k):=by omega
  generalize (c + (dig la k + dig lb k)) % 4294967296 = r at *
  generalize (c + (dig la k + dig lb k)) / 2 ^ 32 = s at *
  generalize hB : 4294967296 ^ k = B at *
  have h1 : B * (r + 4294967296 * s) = B * (c + (dig la k + dig lb k)):=by rw [e]
  rw [Nat.pow_succ,hB]
  simp only [Nat.mul_add] at h1
  have h2 : B * 4294967296 * s = B * (4294967296 * s):=by rw [Nat.mul_assoc]
  omega
theorem lt_pow_of {m n k : Nat} (h : m < 2 ^ n) (hk : n ≤ k) : m < 2 ^ k:=Nat.lt_of_lt_of_le h (Nat.pow_le_pow_right (by omega) hk)
theorem add_lt_pow {a b m n : Nat} (ha : a < 2 ^ m) (hb : b < 2 ^ n) : a + b < 2 ^ (max m n + 1):=by
  have h1:=lt_pow_of ha (Nat.le_max_left m n)
  have h2:=lt_pow_of hb (Nat.le_max_right m n)
  rw [Nat.pow_succ];omega
theorem mul_lt_pow {a b m n : Nat} (ha : a < 2 ^ m) (hb : b < 2 ^ n) : a * b < 2 ^ (m + n):=by
  rw [Nat.pow_add];exact Nat.mul_lt_mul'' ha hb
theorem add_fin {l : List Nat} {a b c k : Nat} (hl : l.length = max (words a).length (words b).length + 1) (hk : ¬ k < max (words a).length (words b).length + 1) (hk' : k ≤ max (words a).length (words b).length + 1)
    (h : val (l.take k) + 4294967296 ^ k * c = val ((words a).take k) + val ((words b).take k)) (hc : c ≤ 1) : val l = a + b:=by
  have e : k = l.length:=by omega
  subst e
  rw [List.take_length,val_take_of_ge (by omega),val_take_of_ge (by omega),val_words,val_words] at h
  by_cases h0 : c = 0
  · subst h0;omega
  · exfalso
    have ha:=val_lt (wfl_words a);have hb:=val_lt (wfl_words b)
    rw [val_words] at ha hb
    have h1 : 4294967296 ^ (words a).length ≤ 4294967296 ^ (l.length - 1):=Nat.pow_le_pow_right (by omega) (by omega)
    have h2 : 4294967296 ^ (words b).length ≤ 4294967296 ^ (l.length - 1):=Nat.pow_le_pow_right (by omega) (by omega)
    have h3 : 4294967296 ^ l.length = 4294967296 ^ (l.length - 1) * 4294967296:=by rw [← Nat.pow_succ];congr 1;omega
    have h4 : 4294967296 ^ l.length * 1 ≤ 4294967296 ^ l.length * c:=Nat.mul_le_mul_left _ (by omega)
    omega
theorem sub_digit {da db c : Nat} (ha : da < 4294967296) (hb : db < 4294967296) (hc : c ≤ 1) :
    ((da + 18446744073709551616 - db) % 18446744073709551616 + 18446744073709551616 - c) % 18446744073709551616 % 4294967296 + db + c = da + 4294967296 * (((da + 18446744073709551616 - db) % 18446744073709551616 + 18446744073709551616 - c) % 18446744073709551616 / 2 ^ 63) ∧
    (((da + 18446744073709551616 - db) % 18446744073709551616 + 18446744073709551616 - c) % 18446744073709551616 / 2 ^ 63) ≤ 1:=by
  have e : (2 : Nat) ^ 63 = 9223372036854775808:=by decide
  rw [e];omega
theorem sub_step {l la lb : List Nat} {k c : Nat} (hk : k < l.length) (ha : dig la k < 4294967296) (hb : dig lb k < 4294967296) (hc : c ≤ 1) (h : val (l.take k) + val (lb.take k) = val (la.take k) + 4294967296 ^ k * c) :
    val ((l.set k (((dig la k + 18446744073709551616 - dig lb k) % 18446744073709551616 + 18446744073709551616 - c) % 18446744073709551616 % 4294967296)).take (k + 1)) + val (lb.take (k + 1)) =
      val (la.take (k + 1)) + 4294967296 ^ (k + 1) * (((dig la k + 18446744073709551616 - dig lb k) % 18446744073709551616 + 18446744073709551616 - c) % 18446744073709551616 / 2 ^ 63):=by
  rw [val_take_set hk,val_take_dig,val_take_dig]
  have e:=(sub_digit ha hb hc).1
  generalize ((dig la k + 18446744073709551616 - dig lb k) % 18446744073709551616 + 18446744073709551616 - c) % 18446744073709551616 % 4294967296 = r at *
  generalize (((dig la k + 18446744073709551616 - dig lb k) % 18446744073709551616 + 18446744073709551616 - c) % 18446744073709551616 / 2 ^ 63) = s at *
  generalize hB : 4294967296 ^ k = B at *
  have h1 : B * (r + dig lb k + c) = B * (dig la k + 4294967296 * s):=by rw [e]
  rw [Nat.pow_succ,hB]
  simp only [Nat.mul_add] at h1
  have h2 : B * 4294967296 * s = B * (4294967296 * s):=by rw [Nat.mul_assoc]
  omega
theorem len_le_of {a b : Nat} (h : b ≤ a) : (words b).length ≤ (words a).length:=by
  rcases Nat.lt_or_ge (words a).length (words b).length with h1 | h1
  · have:=lt_of_len h1;omega
  · exact h1
theorem sub_fin {l : List Nat} {a b c k : Nat} (hle : b ≤ a) (hl : l.length = (words a).length) (hw : wfl l) (hk : ¬ k < (words a).length) (hk' : k ≤ (words a).length)
    (h : val (l.take k) + val ((words b).take k) = val ((words a).take k) + 4294967296 ^ k * c) (hc : c ≤ 1) : val l = a - b:=by
  have e : k = l.length:=by omega
  have hlb:=len_le_of hle
  subst e
  rw [List.take_length,val_take_of_ge (by omega),val_take_of_ge (by omega),val_words,val_words] at h
  have:=val_lt hw
  by_cases h0 : c = 0
  · subst h0;omega
  · have : c = 1:=by omega
    subst this;omega
theorem val_set {l : List Nat} {k x : Nat} (hk : k < l.length) : val (l.set k x) + 4294967296 ^ k * dig l k = val l + 4294967296 ^ k * x:=by
  have h1:=val_split (l.set k x) (k + 1);have h2:=val_split l (k + 1)
  rw [val_take_set hk] at h1
  rw [val_take_dig] at h2
  have h3 : (l.set k x).drop (k + 1) = l.drop (k + 1):=by
    rw [List.drop_set];simp
  rw [h3] at h1
  omega
theorem dig_set {l : List Nat} {k x j : Nat} (hk : k < l.length) : dig (l.set k x) j = if j = k then x else dig l j:=by
  unfold dig
  by_cases h : j = k
  · subst h;simp [hk]
  · simp [h,Ne.symm h]
theorem mul_bound {x y c d : Nat} (hx : x < 4294967296) (hy : y < 4294967296) (hc : c < 4294967296) (hd : d < 4294967296) : c + (x * y + d) < 18446744073709551616:=by
  have : x * y ≤ 4294967295 * 4294967295:=Nat.mul_le_mul (by omega) (by omega)
  omega
theorem mul_bound' {x y d : Nat} (hx : x < 4294967296) (hy : y < 4294967296) (hd : d < 4294967296) : x * y + d < 18446744073709551616:=by
  have : x * y ≤ 4294967295 * 4294967295:=Nat.mul_le_mul (by omega) (by omega)
  omega
theorem mul_step {l ly : List Nat} {x c i k base : Nat} (hk : i + k < l.length) (h : val l + 4294967296 ^ (i + k) * c = base + 4294967296 ^ i * x * val (ly.take k)) :
    val (l.set (i + k) ((c + (x * dig ly k + dig l (i + k))) % 4294967296)) + 4294967296 ^ (i + (k + 1)) * ((c + (x * dig ly k + dig l (i + k))) / 2 ^ 32) = base + 4294967296 ^ i * x * val (ly.take (k + 1)):=by
  have h1:=val_set (l:=l) (k:=i + k) (x:=(c + (x * dig ly k + dig l (i + k))) % 4294967296) hk
  rw [val_take_dig]
  have e : (c + (x * dig ly k + dig l (i + k))) % 4294967296 + 4294967296 * ((c + (x * dig ly k + dig l (i + k))) / 2 ^ 32) = c + (x * dig ly k + dig l (i + k)):=by omega
  generalize (c + (x * dig ly k + dig l (i + k))) % 4294967296 = r at *
  generalize (c + (x * dig ly k + dig l (i + k))) / 2 ^ 32 = s at *
  have e2 : 4294967296 ^ (i + (k + 1)) = 4294967296 ^ (i + k) * 4294967296:=by rw [← Nat.add_assoc,Nat.pow_succ]
  have e3 : 4294967296 ^ i * x * (val (ly.take k) + 4294967296 ^ k * dig ly k) = 4294967296 ^ i * x * val (ly.take k) + 4294967296 ^ (i + k) * (x * dig ly k):=by
    rw [Nat.mul_add,Nat.pow_add];congr 1;simp [Nat.mul_assoc,Nat.mul_comm,Nat.mul_left_comm]
  rw [e2,e3]
  generalize 4294967296 ^ (i + k) = B at *
  have h2 : B * (r + 4294967296 * s) = B * (c + (x * dig ly k + dig l (i + k))):=by rw [e]
  simp only [Nat.mul_add] at h2
  have h3 : B * 4294967296 * s = B * (4294967296 * s):=by rw [Nat.mul_assoc]
  omega
theorem mul_row {l lx ly : List Nat} {c i k : Nat} (hk : ¬ k < ly.length) (hk' : k ≤ ly.length) (hl : i + ly.length < l.length) (hz : dig l (i + ly.length) = 0)
    (h : val l + 4294967296 ^ (i + k) * c = val (lx.take i) * val ly + 4294967296 ^ i * dig lx i * val (ly.take k)) :
    val (l.set (i + ly.length) (c % 4294967296)) + 4294967296 ^ (i + ly.length) * 4294967296 * (c / 4294967296) = val (lx.take (i + 1)) * val ly:=by
  have e : k = ly.length:=by omega
  subst e
  have h1:=val_set (l:=l) (k:=i + ly.length) (x:=c % 4294967296) hl
  rw [hz,Nat.mul_zero,Nat.add_zero] at h1
  rw [h1,val_take_dig,Nat.add_mul,← (show val (ly.take ly.length) = val ly by rw [List.take_length])] at *
  simp only [List.take_length] at *
  have e2 : 4294967296 ^ (i + ly.length) * c = 4294967296 ^ (i + ly.length) * (c % 4294967296) + 4294967296 ^ (i + ly.length) * 4294967296 * (c / 4294967296):=by
    rw [Nat.mul_assoc,← Nat.mul_add];congr 1;omega
  omega
theorem shl_or {c d : Nat} (hd : d < 4294967296) : c * 2 ^ 32 ||| d = c * 4294967296 + d:=by
  have:=or_shift (x:=c) (y:=d) (k:=32) (by omega)
  rw [this]
theorem val_drop_set {l : List Nat} {k x : Nat} (hk : k < l.length) : val ((l.set k x).drop k) = x + 4294967296 * val (l.drop (k + 1)):=by
  rw [val_drop_dig,dig_set hk,if_pos rfl]
  congr 2
  rw [List.drop_set];simp
theorem short_step {l lx : List Nat} {k c b : Nat} (hk0 : 0 < k) (hk : k ≤ l.length) (hb : 0 < b) (hcb : c < b) (_ : b < 4294967296) (hd : dig lx (k - 1) < 4294967296) (h : val (l.drop k) * b + c = val (lx.drop k)) :
    val ((l.set (k - 1) ((c * 4294967296 + dig lx (k - 1)) / b % 4294967296)).drop (k - 1)) * b + (c * 4294967296 + dig lx (k - 1)) % b = val (lx.drop (k - 1)) ∧ (c * 4294967296 + dig lx (k - 1)) % b < b:=by
  refine ⟨?_,Nat.mod_lt _ hb⟩
  rw [val_drop_set (by omega),val_drop_dig lx (k - 1),show k - 1 + 1 = k from by omega,← h]
  have h1 : (c * 4294967296 + dig lx (k - 1)) / b < 4294967296:=by
    rw [Nat.div_lt_iff_lt_mul hb]
    have : (c + 1) * 4294967296 ≤ b * 4294967296:=Nat.mul_le_mul_right _ (by omega)
    have e : 4294967296 * b = b * 4294967296:=Nat.mul_comm _ _
    omega
  rw [Nat.mod_eq_of_lt h1]
  have h2:=Nat.div_add_mod (c * 4294967296 + dig lx (k - 1)) b
  generalize (c * 4294967296 + dig lx (k - 1)) / b = q at *
  generalize (c * 4294967296 + dig lx (k - 1)) % b = r at *
  rw [Nat.add_mul,Nat.mul_add,Nat.mul_assoc]
  have : q * b = b * q:=Nat.mul_comm _ _
  omega
theorem short_fin {l : List Nat} {a k c b : Nat} (hk : k = 0) (hcb : c < b) (h : val (l.drop k) * b + c = val ((words a).drop k)) : val l = a / b ∧ c = a % b:=by
  subst hk
  simp only [List.drop_zero,val_words] at h
  have hb : 0 < b:=by omega
  rw [← h]
  constructor
  · rw [Nat.mul_comm,Nat.mul_add_div hb,Nat.div_eq_of_lt hcb];omega
  · rw [Nat.mul_comm,Nat.mul_add_mod,Nat.mod_eq_of_lt hcb]
theorem div_lt_pow {a b n : Nat} (h : a < 2 ^ n) : a / b < 2 ^ n:=Nat.lt_of_le_of_lt (Nat.div_le_self _ _) h
theorem dig_replicate {n j : Nat} : dig (List.replicate n 0) j = 0:=by
  unfold dig;by_cases h : j < n <;> simp [h]
theorem mul_row' {l lx ly : List Nat} {c i k : Nat} (hk : ¬ k < ly.length) (hk' : k ≤ ly.length) (hc : c < 4294967296) (hl : i + ly.length < l.length) (hz : dig l (i + ly.length) = 0)
    (h : val l + 4294967296 ^ (i + k) * c = val (lx.take i) * val ly + 4294967296 ^ i * dig lx i * val (ly.take k)) : val (l.set (i + ly.length) (c % 4294967296)) = val (lx.take (i + 1)) * val ly:=by
  have:=mul_row hk hk' hl hz h
  rw [Nat.div_eq_of_lt hc,Nat.mul_zero,Nat.add_zero] at this
  exact this
theorem times_fin {l : List Nat} {a b i : Nat} (hi : ¬ i < (words a).length) (hi' : i ≤ (words a).length) (h : val l = val ((words a).take i) * val (words b)) : val l = a * b:=by
  rw [h,val_take_of_ge (by omega),val_words,val_words]
end Go.Proofs.YtboicjlbbbodgaaGreatDoor
namespace Go.Proofs.YtboicjlbbbodgaaGreatDoor
open Go.RowKit (Below)
section
variable {P : Program} {o : Oper} {a : Act} {w : World} {G : Gh} {τ : MT} {x y : Operand} {t t' : TypeId} {m n : Nat}
theorem bv_or32 {m n : Nat} (hm : m < 4294967296) (hn : n < 4294967296) : Value.int .u32 (IntKind.u32.wrap ((BitVec.ofInt IntKind.u32.bits (m : Int) ||| BitVec.ofInt IntKind.u32.bits (n : Int)).toNat : Int)) = nv .u32 (m ||| n):=by
  have h1 : (BitVec.ofInt 32 (m : Int)).toNat = m:=by simp;omega
  have h2 : (BitVec.ofInt 32 (n : Int)).toNat = n:=by simp;omega
  show Value.int .u32 (IntKind.u32.wrap ((BitVec.ofInt 32 (m : Int) ||| BitVec.ofInt 32 (n : Int)).toNat : Int)) = _
  rw [BitVec.toNat_or,h1,h2]
  have : m ||| n < 2 ^ 32:=Nat.or_lt_two_pow (by omega) (by omega)
  rw [IntWalk.u32_in _ (by omega)]
theorem OpR.nor32 (hok : Gok w G) (ho : o.op = .binOp .or t x y t') (hx : a.eval x = nv .u32 m) (hy : a.eval y = nv .u32 n) (hm : m < 4294967296) (hn : n < 4294967296) (h : τ.t (nv .u32 (m ||| n)) G) : OpR P o a w G τ :=
  .bits hok ho hx hy (.inr ⟨rfl,by have:=bv_or32 hm hn;rw [this];exact h⟩)
end
theorem pow_le_32 {s : Nat} (hs : s < 32) : 2 ^ s ≤ 2147483648:=by
  have : 2 ^ s ≤ 2 ^ 31:=Nat.pow_le_pow_right (by omega) (by omega)
  omega
theorem pow_split {s : Nat} (hs : s < 32) : 2 ^ s * 2 ^ (32 - s) = 4294967296:=by
  rw [← Nat.pow_add,show s + (32 - s) = 32 from by omega]
theorem shl_bound {x s : Nat} (hx : x < 4294967296) (hs : s < 32) : x * 2 ^ s < 18446744073709551616:=by
  have h:=pow_le_32 hs
  have : x * 2 ^ s ≤ 4294967295 * 2147483648:=Nat.mul_le_mul (by omega) h
  omega
theorem up_or {d x s : Nat} (hd : d < 2 ^ s) (hs : s < 32) : d ||| x * 2 ^ s % 4294967296 = d + x * 2 ^ s % 4294967296:=by
  have e : x * 2 ^ s % 4294967296 = (x % 2 ^ (32 - s)) * 2 ^ s:=by
    rw [← pow_split hs,Nat.mul_comm (2 ^ s) (2 ^ (32 - s)),Nat.mul_mod_mul_right]
  rw [e,Nat.or_comm,or_shift hd,Nat.add_comm]
theorem up_step {q lx : List Nat} {k s : Nat} (hk : k + 1 < q.length) (hs : s < 32) (hd : dig q k < 2 ^ s) (hx : dig lx k < 4294967296) (h : val (q.take k) + 4294967296 ^ k * dig q k = val (lx.take k) * 2 ^ s) :
    val (((q.set k (dig q k + dig lx k * 2 ^ s % 4294967296)).set (k + 1) (dig lx k * 2 ^ s / 2 ^ 32 % 4294967296)).take (k + 1)) + 4294967296 ^ (k + 1) * dig ((q.set k (dig q k + dig lx k * 2 ^ s % 4294967296)).set (k + 1) (dig lx k * 2 ^ s / 2 ^ 32 % 4294967296)) (k + 1) = val (lx.take (k + 1)) * 2 ^ s ∧
    dig ((q.set k (dig q k + dig lx k * 2 ^ s % 4294967296)).set (k + 1) (dig lx k * 2 ^ s / 2 ^ 32 % 4294967296)) (k + 1) < 2 ^ s ∧ dig q k + dig lx k * 2 ^ s % 4294967296 < 4294967296:=by
  have hp:=pow_split hs
  have hb : dig lx k * 2 ^ s / 2 ^ 32 < 2 ^ s:=by
    rw [Nat.div_lt_iff_lt_mul (by decide),Nat.mul_comm (2 ^ s)]
    exact Nat.mul_lt_mul_of_pos_right (by omega) (Nat.pow_pos (by omega))
  have hb2 : dig lx k * 2 ^ s / 2 ^ 32 % 4294967296 = dig lx k * 2 ^ s / 2 ^ 32:=Nat.mod_eq_of_lt (by have:=pow_le_32 hs;omega)
  have hlow : dig lx k * 2 ^ s % 4294967296 ≤ 4294967296 - 2 ^ s:=by
    have e : dig lx k * 2 ^ s % 4294967296 = (dig lx k % 2 ^ (32 - s)) * 2 ^ s:=by
      rw [← pow_split hs,Nat.mul_comm (2 ^ s) (2 ^ (32 - s)),Nat.mul_mod_mul_right]
    have h1 : dig lx k % 2 ^ (32 - s) + 1 ≤ 2 ^ (32 - s):=Nat.mod_lt _ (Nat.pow_pos (by omega))
    have h2:=Nat.mul_le_mul_right (2 ^ s) h1
    rw [Nat.add_mul,Nat.one_mul,Nat.mul_comm (2 ^ (32 - s)),hp] at h2
    omega
  have ht : ((q.set k (dig q k + dig lx k * 2 ^ s % 4294967296)).set (k + 1) (dig lx k * 2 ^ s / 2 ^ 32 % 4294967296)).take (k + 1) = (q.set k (dig q k + dig lx k * 2 ^ s % 4294967296)).take (k + 1):=by
    rw [List.take_set_of_le (Nat.le_refl _)]
  rw [ht,val_take_set (by omega),dig_set (by simpa using hk),if_pos rfl,hb2,val_take_dig]
  have hps:=pow_le_32 hs
  refine ⟨?_,hb,by have:=Nat.pow_pos (n:=s) (show 0 < 2 by decide);omega⟩
  have e : dig lx k * 2 ^ s % 4294967296 + 4294967296 * (dig lx k * 2 ^ s / 2 ^ 32) = dig lx k * 2 ^ s:=by omega
  generalize dig lx k * 2 ^ s % 4294967296 = r at *
  generalize dig lx k * 2 ^ s / 2 ^ 32 = u at *
  rw [Nat.pow_succ,Nat.add_mul,← h,Nat.mul_assoc (4294967296 ^ k) (dig lx k),← e]
  simp only [Nat.mul_add,Nat.mul_assoc]
  omega
theorem up_fin {q lx : List Nat} {k s : Nat} (hk : ¬ k < lx.length) (hk' : k ≤ lx.length) (hq : q.length = lx.length + 1) (h : val (q.take k) + 4294967296 ^ k * dig q k = val (lx.take k) * 2 ^ s) : val q = val lx * 2 ^ s:=by
  have e : k = lx.length:=by omega
  subst e
  have h1:=val_take_dig q lx.length
  rw [List.take_of_length_le (by omega)] at h1
  rw [h1,h,List.take_length]
theorem down_or {d e : Nat} (hd : d < 4294967296) : d ||| e * 2 ^ 32 = d + e * 4294967296:=by
  rw [Nat.or_comm,or_shift (by omega)];omega
theorem down_digit {l : List Nat} {k s : Nat} (hs : s < 32) (h0 : dig l k < 4294967296) : val (l.drop k) / 2 ^ s = (dig l k + dig l (k + 1) * 4294967296) / 2 ^ s % 4294967296 + 4294967296 * (val (l.drop (k + 1)) / 2 ^ s):=by
  have h1:=val_drop_dig l k;have h2:=val_drop_dig l (k + 1)
  have hp:=pow_split hs
  have hpos : 0 < 2 ^ s:=Nat.pow_pos (by omega)
  generalize hR : val (l.drop (k + 1 + 1)) = R at *
  generalize val (l.drop (k + 1)) = V1 at *
  generalize val (l.drop k) = V at *
  generalize dig l k = a at *
  generalize dig l (k + 1) = b at *
  have e1 : V / 2 ^ s % 4294967296 = (a + b * 4294967296) / 2 ^ s % 4294967296:=by
    have : V = (a + b * 4294967296) + 2 ^ s * (2 ^ (32 - s) * 4294967296 * R):=by
      rw [h1,h2,← Nat.mul_assoc,← Nat.mul_assoc,hp,Nat.mul_add,Nat.mul_assoc];omega
    rw [this,Nat.add_mul_div_left _ _ hpos,Nat.mul_comm (2 ^ (32 - s)) 4294967296,Nat.mul_assoc,Nat.add_mul_mod_self_left]
  have e2 : V / 2 ^ s / 4294967296 = V1 / 2 ^ s:=by
    rw [Nat.div_div_eq_div_mul,Nat.mul_comm,← Nat.div_div_eq_div_mul]
    congr 1;omega
  have:=Nat.div_add_mod (V / 2 ^ s) 4294967296
  rw [e1,e2] at this
  omega
theorem down_step {q l : List Nat} {k s : Nat} (hk : k < q.length) (hs : s < 32) (h0 : dig l k < 4294967296) (h : val (q.take k) + 4294967296 ^ k * (val (l.drop k) / 2 ^ s) = val l / 2 ^ s) :
    val ((q.set k ((dig l k + dig l (k + 1) * 4294967296) / 2 ^ s % 4294967296)).take (k + 1)) + 4294967296 ^ (k + 1) * (val (l.drop (k + 1)) / 2 ^ s) = val l / 2 ^ s:=by
  rw [val_take_set hk,← h,down_digit hs h0,Nat.pow_succ,Nat.mul_add,Nat.mul_assoc]
  omega
theorem down_fin {q l : List Nat} {k s : Nat} (hk : ¬ k < l.length) (hk' : k ≤ l.length) (hq : q.length = l.length) (h : val (q.take k) + 4294967296 ^ k * (val (l.drop k) / 2 ^ s) = val l / 2 ^ s) : val q = val l / 2 ^ s:=by
  have e : k = l.length:=by omega
  subst e
  rw [List.take_of_length_le (by omega),List.drop_length] at h
  simpa [val] using h
theorem dig_drop {l : List Nat} {i k : Nat} : dig (l.drop i) k = dig l (i + k):=by unfold dig;simp
theorem drop_set_seg {l : List Nat} {i k x : Nat} : (l.set (i + k) x).drop i = (l.drop i).set k x:=by
  rw [List.drop_set,if_neg (by omega)];congr 1;omega
theorem seg_take_set {l : List Nat} {i k x : Nat} (hk : i + k < l.length) : val (((l.set (i + k) x).drop i).take (k + 1)) = val ((l.drop i).take k) + 4294967296 ^ k * x:=by
  rw [drop_set_seg,val_take_set (by simp;omega)]
theorem seg_take_dig {l : List Nat} {i k : Nat} : val ((l.drop i).take (k + 1)) = val ((l.drop i).take k) + 4294967296 ^ k * dig l (i + k):=by
  rw [val_take_dig,dig_drop]
theorem take_set_far {l : List Nat} {i j x : Nat} (h : i ≤ j) : (l.set j x).take i = l.take i:=List.take_set_of_le h
theorem drop_set_far {l : List Nat} {i j x : Nat} (h : j < i) : (l.set j x).drop i = l.drop i:=by
  rw [List.drop_set,if_pos h]
theorem drop_eq_succ {l m : List Nat} {i : Nat} (h : l.drop i = m.drop i) : l.drop (i + 1) = m.drop (i + 1):=by
  have:=congrArg (fun l=>l.drop 1) h
  simpa [List.drop_drop] using this
theorem dig_of_drop {l m : List Nat} {i : Nat} (h : l.drop i = m.drop i) : dig l i = dig m i:=by
  have:=congrArg (fun l=>dig l 0) h
  simpa [dig_drop] using this
theorem rem_step {l us vs : List Nat} {off k C c q : Nat} (hk : off + k < l.length) (hdu : dig us (off + k) < 4294967296) (hc : c ≤ 1) (he : dig l (off + k) = dig us (off + k))
    (h : val ((l.drop off).take k) + q * val (vs.take k) = val ((us.drop off).take k) + 4294967296 ^ k * (C + c)) :
    val (((l.set (off + k) (((dig l (off + k) + 18446744073709551616 - (C + q * dig vs k) % 4294967296) % 18446744073709551616 + 18446744073709551616 - c) % 18446744073709551616 % 4294967296)).drop off).take (k + 1)) + q * val (vs.take (k + 1)) =
      val ((us.drop off).take (k + 1)) + 4294967296 ^ (k + 1) * ((C + q * dig vs k) / 2 ^ 32 + ((dig l (off + k) + 18446744073709551616 - (C + q * dig vs k) % 4294967296) % 18446744073709551616 + 18446744073709551616 - c) % 18446744073709551616 / 2 ^ 63):=by
  rw [seg_take_set hk,seg_take_dig,val_take_dig,he]
  have e1:=(sub_digit (da:=dig us (off + k)) (db:=(C + q * dig vs k) % 4294967296) (c:=c) hdu (Nat.mod_lt _ (by decide)) hc).1
  have e2 : (C + q * dig vs k) % 4294967296 + 4294967296 * ((C + q * dig vs k) / 2 ^ 32) = C + q * dig vs k:=by omega
  generalize ((dig us (off + k) + 18446744073709551616 - (C + q * dig vs k) % 4294967296) % 18446744073709551616 + 18446744073709551616 - c) % 18446744073709551616 % 4294967296 = r at *
  generalize ((dig us (off + k) + 18446744073709551616 - (C + q * dig vs k) % 4294967296) % 18446744073709551616 + 18446744073709551616 - c) % 18446744073709551616 / 2 ^ 63 = s at *
  generalize (C + q * dig vs k) / 2 ^ 32 = t at *
  generalize (C + q * dig vs k) % 4294967296 = z at *
  have e3 : q * (val (vs.take k) + 4294967296 ^ k * dig vs k) = q * val (vs.take k) + 4294967296 ^ k * (q * dig vs k):=by
    rw [Nat.mul_add];congr 1;simp [Nat.mul_left_comm]
  rw [e3,Nat.pow_succ]
  generalize 4294967296 ^ k = B at *
  have h1 : B * (r + z + c) = B * (dig us (off + k) + 4294967296 * s):=by rw [e1]
  have h2 : B * (z + 4294967296 * t) = B * (C + q * dig vs k):=by rw [e2]
  rw [Nat.mul_assoc]
  simp only [Nat.mul_add] at *
  omega
theorem back_step {l us vs : List Nat} {off k c : Nat} (hk : off + k < l.length) (he : dig l (off + k) = dig us (off + k))
    (h : val ((l.drop off).take k) + 4294967296 ^ k * c = val ((us.drop off).take k) + val (vs.take k)) :
    val (((l.set (off + k) ((c + (dig l (off + k) + dig vs k)) % 4294967296)).drop off).take (k + 1)) + 4294967296 ^ (k + 1) * ((c + (dig l (off + k) + dig vs k)) / 2 ^ 32) = val ((us.drop off).take (k + 1)) + val (vs.take (k + 1)):=by
  rw [seg_take_set hk,seg_take_dig,val_take_dig,he]
  have e : (c + (dig us (off + k) + dig vs k)) % 4294967296 + 4294967296 * ((c + (dig us (off + k) + dig vs k)) / 2 ^ 32) = c + (dig us (off + k) + dig vs k):=by omega
  generalize (c + (dig us (off + k) + dig vs k)) % 4294967296 = r at *
  generalize (c + (dig us (off + k) + dig vs k)) / 2 ^ 32 = s at *
  rw [Nat.pow_succ]
  generalize 4294967296 ^ k = B at *
  have h2 : B * (r + 4294967296 * s) = B * (c + (dig us (off + k) + dig vs k)):=by rw [e]
  rw [Nat.mul_assoc]
  simp only [Nat.mul_add] at *
  omega
theorem carry_bound {C q d : Nat} (hC : C < 4294967296) (hq : q < 4294967296) (hd : d < 4294967296) : C + q * d < 18446744073709551616 ∧ (C + q * d) / 2 ^ 32 < 4294967296:=by
  have : q * d ≤ 4294967295 * 4294967295:=Nat.mul_le_mul (by omega) (by omega)
  omega
end Go.Proofs.YtboicjlbbbodgaaGreatDoor
namespace Go.Proofs.YtboicjlbbbodgaaGreatDoor
open Go.RowKit (Below)
def blen (n : Nat) : Nat:=if n = 0 then 0 else Nat.log2 n + 1
theorem lt_blen (n : Nat) : n < 2 ^ blen n:=by
  unfold blen;split
  · rename_i h;subst h;simp
  · exact Nat.lt_log2_self
theorem blen_le {n k : Nat} (h : n < 2 ^ k) : blen n ≤ k:=by
  unfold blen;split
  · omega
  · rename_i h0;exact (Nat.log2_lt h0).2 h
theorem blen_pos {n : Nat} (h : n ≠ 0) : 0 < blen n:=by unfold blen;rw [if_neg h];omega
theorem blen_ge {n k : Nat} (h : 2 ^ k ≤ n) : k < blen n:=by
  rcases Nat.lt_or_ge k (blen n) with h1 | h1
  · exact h1
  · have h2:=lt_blen n
    have : 2 ^ blen n ≤ 2 ^ k:=Nat.pow_le_pow_right (by omega) h1
    omega
theorem blen_shift {n s : Nat} (h : 2 ^ s ≤ n) : blen n = s + blen (n / 2 ^ s):=by
  have hp : 0 < 2 ^ s:=Nat.pow_pos (by omega)
  have hq : n / 2 ^ s ≠ 0:=by have:=Nat.div_pos h hp;omega
  apply Nat.le_antisymm
  · refine blen_le ?_
    have h1:=lt_blen (n / 2 ^ s)
    rw [Nat.pow_add,Nat.mul_comm]
    exact (Nat.div_lt_iff_lt_mul hp).1 h1
  · have h1 : 2 ^ (blen (n / 2 ^ s) - 1) ≤ n / 2 ^ s := by
      unfold blen;rw [if_neg hq];exact Nat.log2_self_le hq
    have h2 : 2 ^ (blen (n / 2 ^ s) - 1) * 2 ^ s ≤ n:=(Nat.le_div_iff_mul_le hp).1 h1
    rw [← Nat.pow_add] at h2
    have:=blen_ge h2
    have:=blen_pos hq
    omega
section
variable {P : Program} {o : Oper} {a : Act} {w : World} {G : Gh} {τ : MT} {W0 : World} {G0 : Gh} {N : Nat} {L : List (Nat × MT)} {B : List BX}
theorem OpR.idxTab {x y : Operand} {t z : Nat} {k : IntKind} {s : ByteArray} {f : Nat → Nat} (hok : Gok w G) (ho : o.op = .index t x y) (ht : P.underlying t = some .string) (hx : a.eval x = .string s) (hy : a.eval y = nv k z) (hz : z < 256)
    (hs : ((List.range 256).all fun z=>(s[z]?.map UInt8.toNat) == some (f z)) = true) (h : τ.t (nv .u8 (f z)) G) : OpR P o a w G τ:=by
  have h1:=List.all_eq_true.1 hs z (by simpa using hz)
  simp only [beq_iff_eq] at h1
  cases hb : s[z]? with
  | none=>rw [hb] at h1;cases h1
  | some b =>
    rw [hb] at h1
    have h2 : b.toNat = f z:=by simpa using h1
    refine .run hok (v:=nv .u8 (f z)) ?_ h
    have e : (if (0 : Int) ≤ (z : Int) then s[(z : Int).toNat]? else none) = some b:=by rw [if_pos (by omega)];simpa using hb
    simp only [execOp,ho,Instr.index,hx,hy,Sem.run_bind,asIntOf,Sem.run_pure,Result.andThen_ok,run_underlying ht,e,h2]
theorem OpR.cutX {x y z : Operand} {t e b c n lo hi : Nat} {k k' : IntKind} {m m' : Int} (hok : Gok w G) (ho : o.op = .slice t x (some y) (some z) none) (ht : P.underlying t = some (.slice e)) (hs : tyS P e none = true)
    (hx : a.eval x = .slice (some ⟨b,0,none⟩) n c) (hy : a.eval y = .int k m) (hz : a.eval z = .int k' m') (hm : m = (lo : Int)) (hm' : m' = (hi : Int)) (h1 : lo ≤ hi) (h2 : hi ≤ c) (h3 : lo < c) (h : τ.t (.slice (some ⟨b,lo,none⟩) (hi - lo) (c - lo)) G) : OpR P o a w G τ:=by
  subst hm hm'
  refine .run hok (v:=.slice (some ⟨b,lo,none⟩) (hi - lo) (c - lo)) ?_ h
  have hne : ¬ c = lo:=by omega
  simp [execOp,ho,hx,hy,hz,Instr.sliceAt,run_underlying ht,Instr.slice,Instr.sliceBounds,Instr.sliceBound,asIntOf,h1,h2,tyS_size hs,hne,addr_add]
def ARS (n : Nat) (p : List Nat → Prop) (j : Nat) : MT where
  t:=fun v G=>∃ l : List Nat,l.length = n ∧ p l ∧ (SL (l.take j)).t v G
  mono:=by rintro v G G' hle ⟨l,h1,h2,h3⟩;exact ⟨l,h1,h2,(SL _).mono hle h3⟩
theorem RetB.toRet {n : Nat} {ty : TypeId} {p : List Nat → Prop} (hn : n ≤ LIM) (hw : ∀ l, p l → wfl l) {e : Ending} {w' : World} (h : RetB w G (mkS n) ty (some n) (ARR n p) e w') :
    Ret w G (ARS n p n) e w':=by
  obtain ⟨b,G',rfl,hb,hN,hg,v,hv,hs,l,rfl,hl,hp⟩:=h
  have hle : Gle G' (Gput G' b (.cells (ucells l).toArray ty (0,0))):=fun k o hk=>by
    unfold Gput;split
    · rename_i e;subst e;rw [hg] at hk;cases hk
    · exact hk
  refine ⟨mkS n b,Gput G' b (.cells (ucells l).toArray ty (0,0)),rfl,⟨l,hl,hp,?_⟩,hN.below,fun k hk=>?_,hN.le.trans hle,fun k o hk=>?_⟩
  · rw [List.take_of_length_le (by omega)]
    exact SL_frozen (ty:=ty) (u:=.agg (ucells l).toArray) rfl (by simp [Gput,Value.cells]) ⟨hl.symm,Nat.le_refl _⟩ (by omega) (hw l hp)
  · unfold Gput;rw [if_neg (by omega)];exact hN.agree k hk
  · unfold Gput at hk;split at hk
    · rename_i e;subst e;cases hk;exact hv
    · exact hN.ok k o hk
theorem OpR.cutAR {x y : Operand} {t e n j : Nat} {k : IntKind} {p : List Nat → Prop} (hok : Gok w G) (ho : o.op = .slice t x none (some y) none) (ht : P.underlying t = some (.slice e)) (hs : tyS P e none = true)
    (hx : (ARS n p n).t (a.eval x) G) (hy : a.eval y = nv k j) (hj : j ≤ n) : OpR P o a w G (ARS n p j):=by
  obtain ⟨l,hl,hp,hx⟩:=hx
  rw [List.take_of_length_le (by omega)] at hx
  exact (OpR.cutL hok ho ht hs hx hy rfl (by omega)).conv' fun v G h=>⟨l,hl,hp,h⟩
theorem St.stepM2 {ops : Array Oper} {rest : List Oper} {Q : Exit → Act → World → Prop} (S : St W0 G0 N L B a w G) (i : Nat) {d f bu n : Nat} {ty : TypeId} {x y : Operand} {ats : Array TypeId} {p : Value → List Nat → Prop} (ho : o.op = .call { callee := .value (.func f), args := #[x, y], argTypes := ats }) (hd : o.dst = some d) (hg : o.guard = none)
    (hc : callable P f = true) (h : Calls P f #[a.eval x,a.eval y] w (RetM W0 G0 G B i bu ty n p)) (hdN : (decide (d < N)) = true) (hf : fresh d L = true)
    (K : ∀ v l a' w' G',p v l → l.length = n → St W0 G0 N ((d,.ex v) :: L) (B.set i ⟨bu,ty,some n,.ex (.agg (ucells l).toArray)⟩) a' w' G' → wpList P ops Q rest a' w') : wpList P ops Q (o :: rest) a w:=S.stepM i ho hd hg hc (by simpa using h) hdN hf K
theorem St.stepM3 {ops : Array Oper} {rest : List Oper} {Q : Exit → Act → World → Prop} (S : St W0 G0 N L B a w G) (i : Nat) {d f bu n : Nat} {ty : TypeId} {x y z : Operand} {ats : Array TypeId} {p : Value → List Nat → Prop} (ho : o.op = .call { callee := .value (.func f), args := #[x, y, z], argTypes := ats }) (hd : o.dst = some d) (hg : o.guard = none)
    (hc : callable P f = true) (h : Calls P f #[a.eval x,a.eval y,a.eval z] w (RetM W0 G0 G B i bu ty n p)) (hdN : (decide (d < N)) = true) (hf : fresh d L = true)
    (K : ∀ v l a' w' G',p v l → l.length = n → St W0 G0 N ((d,.ex v) :: L) (B.set i ⟨bu,ty,some n,.ex (.agg (ucells l).toArray)⟩) a' w' G' → wpList P ops Q rest a' w') : wpList P ops Q (o :: rest) a w:=S.stepM i ho hd hg hc (by simpa using h) hdN hf K
end
theorem SN.cast {v : Value} {G : Gh} {n n' m m' : Nat} (h : (SN n m).t v G) (e : m = m') (hm : m' < 2 ^ n') : (SN n' m').t v G:=⟨hm,e ▸ h.2⟩
theorem cmpN_neg {a b : Nat} : cmpN a b < 0 ↔ a < b:=by unfold cmpN;split <;> (try split) <;> omega
theorem dig_zero_one {y : Nat} (h : (words y).length = 1) : dig (words y) 0 = y:=by
  have h1:=val_words y
  match hw : words y,h with
  | [d],_=>rw [hw] at h1;simp [val] at h1;simp [dig,h1]
theorem dig_last_pos {y : Nat} (h : y ≠ 0) : dig (words y) ((words y).length - 1) ≠ 0:=by
  obtain ⟨d,h1,h2⟩:=words_last h
  rw [List.getLast?_eq_getElem?] at h1
  simpa [dig,h1] using h2
theorem len_pos {y : Nat} (h : y ≠ 0) : 0 < (words y).length:=List.length_pos_iff.2 fun e=>h (words_nil_iff.1 e)
structure DG (b v1 v2 vr u0 u1 u2 ur D V U : Nat) : Prop where
  hV : V = (v1 * b + v2) * D + vr
  hU : U = ((u0 * b + u1) * b + u2) * D + ur
  hvr : vr < D
  hur : ur < D
  h1 : 0 < v1
  h1b : v1 < b
  h2b : v2 < b
  hu1 : u1 < b
  hu2 : u2 < b
  hlt : U < V * b
section
variable {b v1 v2 vr u0 u1 u2 ur D V U g r : Nat}
theorem DG.D_pos (h : DG b v1 v2 vr u0 u1 u2 ur D V U) : 0 < D:=by have:=h.hvr;omega
theorem DG.V_pos (h : DG b v1 v2 vr u0 u1 u2 ur D V U) : 0 < V:=by
  rw [h.hV]
  have hb : 0 < b:=by have:=h.h1b;omega
  have : 0 < (v1 * b + v2) * D:=Nat.mul_pos (Nat.add_pos_left (Nat.mul_pos h.h1 hb) _) h.D_pos
  omega
theorem DG.q_lt (h : DG b v1 v2 vr u0 u1 u2 ur D V U) : U / V < b:=(Nat.div_lt_iff_lt_mul h.V_pos).2 (by rw [Nat.mul_comm];exact h.hlt)
theorem DG.u0_le (h : DG b v1 v2 vr u0 u1 u2 ur D V U) : u0 ≤ v1:=by
  rcases Nat.lt_or_ge v1 u0 with hc | hc
  · exfalso
    have hlt:=h.hlt
    rw [h.hU,h.hV] at hlt
    have hvr:=h.hvr
    have h2:=h.h2b
    have e0 : (v1 + 1) * b * b ≤ (u0 * b + u1) * b + u2:=by
      have e : (v1 + 1) * b * b ≤ u0 * b * b:=Nat.mul_le_mul_right _ (Nat.mul_le_mul_right _ hc)
      rw [Nat.add_mul (u0 * b) u1 b];omega
    have e1 : ((v1 + 1) * b * b) * D ≤ ((u0 * b + u1) * b + u2) * D:=Nat.mul_le_mul_right _ e0
    have e2 : ((v1 * b + v2) * D + vr) * b ≤ ((v1 * b + v2 + 1) * D) * b:=by
      refine Nat.mul_le_mul_right _ ?_
      rw [Nat.add_mul (v1 * b + v2) 1 D];omega
    have e3 : ((v1 * b + v2 + 1) * D) * b ≤ ((v1 + 1) * b * b) * D:=by
      rw [Nat.mul_right_comm]
      refine Nat.mul_le_mul_right _ (Nat.mul_le_mul_right _ ?_)
      rw [Nat.add_mul v1 1 b];omega
    omega
  · exact hc
theorem DG.step (h : DG b v1 v2 vr u0 u1 u2 ur D V U) (hg : g * v1 + r = u0 * b + u1) (ht : b ≤ g ∨ r * b + u2 < g * v2) (hq : U / V ≤ g) : U / V ≤ g - 1 ∧ 0 < g:=by
  have hlt:=h.q_lt
  rcases ht with ht | ht
  · generalize U / V = x at *;omega
  · have hg0 : 0 < g := by
      rcases Nat.eq_zero_or_pos g with e | e
      · subst e;omega
      · exact e
    refine ⟨?_,hg0⟩
    have : U < g * V:=by
      rw [h.hV,h.hU,← hg]
      have hur:=h.hur
      have e1 : ((g * v1 + r) * b + u2 + 1) * D ≤ (g * (v1 * b + v2)) * D:=by
        refine Nat.mul_le_mul_right _ ?_
        rw [Nat.mul_add,Nat.add_mul,← Nat.mul_assoc];omega
      rw [Nat.add_mul _ 1 D] at e1
      rw [Nat.mul_add,← Nat.mul_assoc]
      omega
    have:=(Nat.div_lt_iff_lt_mul h.V_pos).2 this
    exact Nat.le_sub_one_of_lt this
theorem DG.fin (h : DG b v1 v2 vr u0 u1 u2 ur D V U) (hg : g * v1 + r = u0 * b + u1) (ht : b ≤ r ∨ (g < b ∧ g * v2 ≤ r * b + u2)) : g < b ∧ g ≤ U / V + 1:=by
  have hgB : g < b:=by
    rcases ht with ht | ht
    · rcases Nat.lt_or_ge g b with hc | hc
      · exact hc
      · exfalso
        have h0:=h.u0_le;have h1:=h.hu1
        have e1 : b * v1 ≤ g * v1:=Nat.mul_le_mul_right _ hc
        have e2 : u0 * b ≤ v1 * b:=Nat.mul_le_mul_right _ h0
        have e3 : v1 * b = b * v1:=Nat.mul_comm _ _
        omega
    · exact ht.1
  refine ⟨hgB,?_⟩
  have ht' : g * v2 ≤ r * b + u2:=by
    rcases ht with ht | ht
    · have e1 : g * v2 ≤ b * b:=Nat.mul_le_mul (by omega) (by have:=h.h2b;omega)
      have e2 : b * b ≤ r * b:=Nat.mul_le_mul_right _ ht
      omega
    · exact ht.2
  rcases Nat.eq_zero_or_pos g with e | hg0
  · rw [e];exact Nat.zero_le _
  have hle : (g - 1) * V ≤ U:=by
    have e1 : (g * (v1 * b + v2)) * D ≤ ((u0 * b + u1) * b + u2) * D:=by
      refine Nat.mul_le_mul_right _ ?_
      rw [← hg,Nat.mul_add,Nat.add_mul,← Nat.mul_assoc];omega
    have hvr:=h.hvr
    have e2 : g * V ≤ (g * (v1 * b + v2)) * D + g * D:=by
      rw [h.hV,Nat.mul_add,← Nat.mul_assoc]
      have : g * vr ≤ g * D:=Nat.mul_le_mul_left _ (by omega)
      omega
    have e3 : g * D ≤ V:=by
      rw [h.hV]
      have e5 : b ≤ v1 * b:=Nat.le_mul_of_pos_left _ h.h1
      have : g * D ≤ (v1 * b + v2) * D:=Nat.mul_le_mul_right _ (by omega)
      omega
    have e4 : (g - 1) * V + V = g * V:=by
      have : (g - 1 + 1) * V = (g - 1) * V + V:=by rw [Nat.add_mul,Nat.one_mul]
      rw [← this,Nat.sub_add_cancel hg0]
    have hU:=h.hU
    omega
  exact Nat.sub_le_iff_le_add.1 ((Nat.le_div_iff_mul_le h.V_pos).2 hle)
end
theorem xsl_eq {b i j n m c d : Nat} (h1 : i = j) (h2 : n = m) (h3 : c = d) : Value.slice (some ⟨b,i,none⟩) n c = Value.slice (some ⟨b,j,none⟩) m d:=by rw [h1,h2,h3]
theorem len32_a {t : Nat} : 0 + blen t = blen t:=Nat.zero_add _
theorem len32_b {t : Nat} (h : 256 ≤ t) : 0 + 8 + blen (t / 2 ^ 8) = blen t:=by rw [blen_shift (n:=t) (s:=8) (by omega)]
theorem len32_c {t : Nat} (h : 65536 ≤ t) : 16 + blen (t / 2 ^ 16) = blen t:=by rw [blen_shift (n:=t) (s:=16) (by omega)]
theorem len32_d {t : Nat} (h : 65536 ≤ t) (h2 : 256 ≤ t / 2 ^ 16) : 16 + 8 + blen (t / 2 ^ 16 / 2 ^ 8) = blen t:=by
  rw [blen_shift (n:=t) (s:=16) (by omega),blen_shift (n:=t / 2 ^ 16) (s:=8) (by omega)];omega
theorem shift_ok {y s : Nat} (hy : y ≠ 0) (hs : s = 32 - blen (dig (words y) ((words y).length - 1))) : s < 32 ∧ y * 2 ^ s < 4294967296 ^ (words y).length:=by
  have htop:=dig_last_pos hy
  have hlt:=dig_lt (wfl_words y) ((words y).length - 1)
  have hb:=blen_le (n:=dig (words y) ((words y).length - 1)) (k:=32) (by omega)
  have hp:=blen_pos htop
  have hl:=lt_blen (dig (words y) ((words y).length - 1))
  have hL:=len_pos hy
  refine ⟨by omega,?_⟩
  have hsplit:=val_split (words y) ((words y).length - 1)
  rw [val_words,val_drop_dig,Nat.sub_add_cancel hL,List.drop_length] at hsplit
  simp only [val,Nat.mul_zero,Nat.add_zero] at hsplit
  have hlow:=val_lt ((wfl_words y).take ((words y).length - 1))
  have hl2 : ((words y).take ((words y).length - 1)).length = (words y).length - 1:=by simp
  rw [hl2] at hlow
  generalize dig (words y) ((words y).length - 1) = t at *
  generalize hB : 4294967296 ^ ((words y).length - 1) = B at *
  have hpow : 4294967296 ^ (words y).length = B * 4294967296:=by rw [← hB,← Nat.pow_succ];congr 1;omega
  have e1 : (t + 1) * 2 ^ s ≤ 4294967296:=by
    have : (t + 1) * 2 ^ s ≤ 2 ^ blen t * 2 ^ s:=Nat.mul_le_mul_right _ hl
    rw [← Nat.pow_add,show blen t + s = 32 from by omega] at this
    exact this
  have e2 : y * 2 ^ s < (B * (t + 1)) * 2 ^ s:=by
    refine Nat.mul_lt_mul_of_pos_right ?_ (Nat.pow_pos (by decide))
    rw [Nat.mul_add];omega
  rw [hpow]
  have e3 : (B * (t + 1)) * 2 ^ s ≤ B * 4294967296:=by rw [Nat.mul_assoc];exact Nat.mul_le_mul_left _ e1
  omega
theorem v_facts {y s : Nat} {l : List Nat} (hy : y ≠ 0) (hL : 2 ≤ (words y).length) (hlt : y * 2 ^ s < 4294967296 ^ (words y).length) (hl : l.length = (words y).length + 1) (hp : wfl l ∧ val l = y * 2 ^ s) :
    (l.take (words y).length).length = (words y).length ∧ wfl (l.take (words y).length) ∧ val (l.take (words y).length) = y * 2 ^ s ∧ dig (l.take (words y).length) ((l.take (words y).length).length - 1) ≠ 0:=by
  have h1 : (l.take (words y).length).length = (words y).length:=by simp;omega
  have h2:=hp.1.take (words y).length
  have h3 : val (l.take (words y).length) = y * 2 ^ s:=by
    have h4:=val_split l (words y).length
    rw [hp.2] at h4
    rcases Nat.eq_zero_or_pos (val (l.drop (words y).length)) with h5 | h5
    · rw [h5] at h4;omega
    · have : 4294967296 ^ (words y).length * 1 ≤ 4294967296 ^ (words y).length * val (l.drop (words y).length):=Nat.mul_le_mul_left _ h5
      omega
  refine ⟨h1,h2,h3,fun e=>?_⟩
  have h4:=val_split (l.take (words y).length) ((l.take (words y).length).length - 1)
  rw [val_drop_dig,e,Nat.sub_add_cancel (by omega),List.drop_length] at h4
  simp only [val,Nat.mul_zero,Nat.add_zero,Nat.zero_add] at h4
  have h5:=val_lt (h2.take ((l.take (words y).length).length - 1))
  rw [← h4,h3,List.length_take,h1] at h5
  have h6:=pow_le_words hy
  have h7 : y * 1 ≤ y * 2 ^ s:=Nat.mul_le_mul_left _ (Nat.pow_pos (by decide))
  have h8 : min ((words y).length - 1) (words y).length = (words y).length - 1:=by omega
  rw [h8] at h5
  omega
theorem div_start {x y s : Nat} {us vs : List Nat} (hs : s < 32) (hus : val us = x * 2 ^ s) (hvs : val vs = y * 2 ^ s) (hy : y ≠ 0) (hle : (words y).length ≤ (words x).length) (hL : vs.length = (words y).length) :
    val us < val vs * 4294967296 ^ ((words x).length + 1 - vs.length):=by
  have h1:=val_lt (wfl_words x)
  rw [val_words] at h1
  have h2:=pow_le_words hy
  have h3:=len_pos hy
  rw [hus,hvs,hL,Nat.mul_right_comm]
  refine Nat.mul_lt_mul_of_pos_right ?_ (Nat.pow_pos (by decide))
  have h4 : 4294967296 ^ ((words y).length - 1) * 4294967296 ^ ((words x).length + 1 - (words y).length) ≤ y * 4294967296 ^ ((words x).length + 1 - (words y).length):=Nat.mul_le_mul_right _ h2
  rw [← Nat.pow_add,show (words y).length - 1 + ((words x).length + 1 - (words y).length) = (words x).length from by omega] at h4
  omega
theorem ring1 (D p q t : Nat) : t + D * (q + 4294967296 * p) = (p * 4294967296 + q) * D + t:=by grind
theorem ring2 (D p q r t M : Nat) : t + D * r + D * M * q + D * M * M * p = ((p * M + q) * M + r) * D + t:=by grind
theorem ring3 (A B U V g Q M m : Nat) (h : V * g + m = U) : A + B * m + V * (B * (g + M * Q)) = A + B * U + V * (B * M * Q):=by grind
theorem mkDG {l vs : List Nat} {j : Nat} (hL : 2 ≤ vs.length) (hw : wfl vs) (htop : dig vs (vs.length - 1) ≠ 0) (hlw : wfl l) (hlt : val l < val vs * 4294967296 ^ (j + 1)) :
    DG 4294967296 (dig vs (vs.length - 1)) (dig vs (vs.length - 2)) (val (vs.take (vs.length - 2))) (dig l (j + vs.length)) (dig l (j + (vs.length - 1))) (dig l (j + (vs.length - 2))) (val ((l.drop j).take (vs.length - 2)))
      (4294967296 ^ (vs.length - 2)) (val vs) (val ((l.drop j).take (vs.length + 1))):=by
  have hsV : val vs = (dig vs (vs.length - 1) * 4294967296 + dig vs (vs.length - 2)) * 4294967296 ^ (vs.length - 2) + val (vs.take (vs.length - 2)):=by
    have h1:=val_split vs (vs.length - 2)
    have h2:=val_drop_dig vs (vs.length - 2)
    have h3:=val_drop_dig vs (vs.length - 2 + 1)
    rw [show vs.length - 2 + 1 = vs.length - 1 from by omega] at h2 h3
    rw [show vs.length - 1 + 1 = vs.length from by omega,List.drop_length] at h3
    simp only [val,Nat.mul_zero,Nat.add_zero] at h3
    rw [h2,h3] at h1
    rw [h1]
    exact ring1 _ _ _ _
  have hsU : val ((l.drop j).take (vs.length + 1)) = ((dig l (j + vs.length) * 4294967296 + dig l (j + (vs.length - 1))) * 4294967296 + dig l (j + (vs.length - 2))) * 4294967296 ^ (vs.length - 2) + val ((l.drop j).take (vs.length - 2)):=by
    have h1:=seg_take_dig (l:=l) (i:=j) (k:=vs.length)
    have h2:=seg_take_dig (l:=l) (i:=j) (k:=vs.length - 1)
    have h3:=seg_take_dig (l:=l) (i:=j) (k:=vs.length - 2)
    rw [show vs.length - 1 + 1 = vs.length from by omega] at h2
    rw [show vs.length - 2 + 1 = vs.length - 1 from by omega] at h3
    rw [h1,h2,h3]
    have e1 : 4294967296 ^ vs.length = 4294967296 ^ (vs.length - 2) * 4294967296 * 4294967296:=by
      rw [← Nat.pow_succ,← Nat.pow_succ];congr 1;omega
    have e2 : 4294967296 ^ (vs.length - 1) = 4294967296 ^ (vs.length - 2) * 4294967296:=by
      rw [← Nat.pow_succ];congr 1;omega
    rw [e1,e2]
    exact ring2 _ _ _ _ _ _
  refine ⟨hsV,hsU,?_,?_,by omega,dig_lt hw _,dig_lt hw _,dig_lt hlw _,dig_lt hlw _,?_⟩
  · exact Nat.lt_of_lt_of_le (val_lt (hw.take _)) (Nat.pow_le_pow_right (by decide) (by rw [List.length_take];omega))
  · exact Nat.lt_of_lt_of_le (val_lt ((hlw.drop j).take _)) (Nat.pow_le_pow_right (by decide) (by rw [List.length_take];omega))
  · have h1:=val_split l j
    have h2:=val_split (l.drop j) (vs.length + 1)
    have h3 : 4294967296 ^ j * val ((l.drop j).take (vs.length + 1)) ≤ val l:=by
      rw [h1,h2,Nat.mul_add];omega
    have h4 : 4294967296 ^ j * val ((l.drop j).take (vs.length + 1)) < 4294967296 ^ j * (val vs * 4294967296):=by
      rw [Nat.pow_succ,← Nat.mul_assoc,Nat.mul_right_comm,Nat.mul_comm (val vs * 4294967296)] at hlt
      omega
    exact Nat.lt_of_mul_lt_mul_left h4
theorem digit_hit {V U g x C c L : Nat} {vs : List Nat} (hV : val vs = V) (hV0 : 0 < V) (hL : vs.length = L) (hc : c = 0) (hC : vs.length < L + 1 → C = 0) (h : x + g * val (vs.take (L + 1)) = U + 4294967296 ^ (L + 1) * (C + c)) (hle : U / V ≤ g) : g = U / V ∧ x = U % V:=by
  rw [List.take_of_length_le (by omega),hV,hC (by omega),hc,Nat.add_zero,Nat.mul_zero,Nat.add_zero] at h
  have h1 : g ≤ U / V:=(Nat.le_div_iff_mul_le hV0).2 (by omega)
  have h2 : g = U / V:=Nat.le_antisymm h1 hle
  refine ⟨h2,?_⟩
  have h3:=Nat.div_add_mod U V
  rw [← h2,Nat.mul_comm] at h3
  omega
theorem digit_back {V U g x z C c c2 L : Nat} {vs : List Nat} (hV : val vs = V) (hV0 : 0 < V) (hw : wfl vs) (hL : vs.length = L) (hc : c = 1) (hC : vs.length < L + 1 → C = 0) (h : x + g * val (vs.take (L + 1)) = U + 4294967296 ^ (L + 1) * (C + c)) (hx : x < 4294967296 ^ (L + 1)) (hz : z < 4294967296 ^ (L + 1))
    (hle : g ≤ U / V + 1) (h2 : z + 4294967296 ^ (L + 1) * c2 = x + val (vs.take (L + 1))) (hc2 : c2 ≤ 1) : g - 1 = U / V ∧ 0 < g ∧ z = U % V:=by
  rw [List.take_of_length_le (by omega),hV] at h h2
  rw [hC (by omega),hc,Nat.zero_add,Nat.mul_one] at h
  have hpow : 4294967296 ^ L ≤ 4294967296 ^ (L + 1):=Nat.pow_le_pow_right (by decide) (Nat.le_succ L)
  have hVb : V < 4294967296 ^ L:=by rw [← hV,← hL];exact val_lt hw
  generalize 4294967296 ^ (L + 1) = B at *
  generalize 4294967296 ^ L = B1 at *
  have h3 : U < g * V:=by omega
  have h4 : U / V < g:=(Nat.div_lt_iff_lt_mul hV0).2 h3
  have h5 : g = U / V + 1:=by generalize U / V = q at *;omega
  have h6:=Nat.div_add_mod U V
  have h7:=Nat.mod_lt U hV0
  rw [h5,Nat.add_mul,Nat.one_mul,Nat.mul_comm (U / V)] at h
  generalize V * (U / V) = q at *
  generalize U % V = m at *
  refine ⟨by generalize U / V = q2 at *;omega,by generalize U / V = q2 at *;omega,?_⟩
  by_cases h0 : c2 = 0
  · subst h0;omega
  · have : c2 = 1:=by omega
    subst this;omega
theorem div_step {l l' qq vs : List Nat} {j x g : Nat} (hw : wfl vs) (hlw : wfl l) (hlw' : wfl l') (hlt : val l < val vs * 4294967296 ^ (j + 1)) (hinv : val l + val vs * (4294967296 ^ (j + 1) * val (qq.drop (j + 1))) = x) (hV0 : 0 < val vs) (hq : j < qq.length)
    (hA : l'.take j = l.take j) (hB : l'.drop (j + (vs.length + 1)) = l.drop (j + (vs.length + 1))) (hg : g = val ((l.drop j).take (vs.length + 1)) / val vs) (hgB : g < 4294967296) (hz : val ((l'.drop j).take (vs.length + 1)) = val ((l.drop j).take (vs.length + 1)) % val vs) :
    val l' + val vs * (4294967296 ^ j * val ((qq.set j (g % 4294967296)).drop j)) = x ∧ val l' < val vs * 4294967296 ^ j:=by
  have s1:=val_split l j;have s2:=val_split (l.drop j) (vs.length + 1)
  have s1':=val_split l' j;have s2':=val_split (l'.drop j) (vs.length + 1)
  rw [List.drop_drop] at s2 s2'
  rw [hA] at s1';rw [hB] at s2'
  have hVb:=val_lt hw
  have hR : val (l.drop (j + (vs.length + 1))) = 0:=by
    rcases Nat.eq_zero_or_pos (val (l.drop (j + (vs.length + 1)))) with h | h
    · exact h
    · exfalso
      have e1 : 4294967296 ^ (vs.length + 1) * 1 ≤ 4294967296 ^ (vs.length + 1) * val (l.drop (j + (vs.length + 1))):=Nat.mul_le_mul_left _ h
      have e2 : 4294967296 ^ j * 4294967296 ^ (vs.length + 1) ≤ 4294967296 ^ j * val (l.drop j):=Nat.mul_le_mul_left _ (by omega)
      have e3 : val vs * 4294967296 ^ (j + 1) ≤ 4294967296 ^ vs.length * 4294967296 ^ (j + 1):=Nat.mul_le_mul_right _ (by omega)
      have e4 : 4294967296 ^ vs.length * 4294967296 ^ (j + 1) = 4294967296 ^ j * 4294967296 ^ (vs.length + 1):=by rw [← Nat.pow_add,← Nat.pow_add];congr 1;omega
      omega
  rw [hR,Nat.mul_zero,Nat.add_zero] at s2 s2'
  rw [hz] at s2'
  rw [s2'] at s1';rw [s2] at s1
  have hlow:=val_lt (hlw.take j)
  have hlow2 : 4294967296 ^ (l.take j).length ≤ 4294967296 ^ j:=Nat.pow_le_pow_right (by decide) (by simp;omega)
  have hm:=Nat.mod_lt (val ((l.drop j).take (vs.length + 1))) hV0
  have hdm:=Nat.div_add_mod (val ((l.drop j).take (vs.length + 1))) (val vs)
  rw [← hg] at hdm
  rw [val_drop_set hq,Nat.mod_eq_of_lt hgB]
  generalize val ((l.drop j).take (vs.length + 1)) % val vs = m at *
  generalize val ((l.drop j).take (vs.length + 1)) = U at *
  generalize val (qq.drop (j + 1)) = Q at *
  generalize val vs = V at *
  generalize val (l.take j) = A at *
  rw [Nat.pow_succ] at hinv
  generalize 4294967296 ^ (l.take j).length = B0 at *
  generalize 4294967296 ^ j = B at *
  constructor
  · rw [s1',← hinv,s1]
    exact ring3 _ _ _ _ _ _ _ _ hdm
  · rw [s1']
    have : B * (m + 1) ≤ B * V:=Nat.mul_le_mul_left _ hm
    rw [Nat.mul_add,Nat.mul_one] at this
    rw [Nat.mul_comm V]
    omega
theorem div_fin {l qq vs : List Nat} {k x y s : Nat} (hk : k = 0) (hvs : val vs = y * 2 ^ s) (hlt : val l < val vs * 4294967296 ^ k) (hinv : val l + val vs * (4294967296 ^ k * val (qq.drop k)) = x * 2 ^ s) : val qq = x / y ∧ val l / 2 ^ s = x % y:=by
  subst hk
  simp only [Nat.pow_zero,Nat.one_mul,Nat.mul_one,List.drop_zero] at hlt hinv
  rw [hvs] at hlt hinv
  have hp : 0 < 2 ^ s:=Nat.pow_pos (by decide)
  have hy : 0 < y:=by
    rcases Nat.eq_zero_or_pos y with h | h
    · subst h;simp at hlt
    · exact h
  have h1 : (x * 2 ^ s) / (y * 2 ^ s) = x / y:=Nat.mul_div_mul_right _ _ hp
  have h2 : (x * 2 ^ s) % (y * 2 ^ s) = x % y * 2 ^ s:=Nat.mul_mod_mul_right _ _ _
  rw [← hinv] at h1 h2
  rw [Nat.add_mul_div_left _ _ (Nat.mul_pos hy hp),Nat.div_eq_of_lt hlt,Nat.zero_add] at h1
  rw [Nat.add_mul_mod_self_left,Nat.mod_eq_of_lt hlt] at h2
  exact ⟨h1,by rw [h2];exact Nat.mul_div_cancel _ hp⟩
end Go.Proofs.YtboicjlbbbodgaaGreatDoor
namespace Go.Proofs.YtboicjlbbbodgaaGreatDoor
open Go.RowKit (Below)
section
variable {P : Program} {o : Oper} {a : Act} {w : World} {G : Gh} {τ : MT} {t : TypeId} {x y z : Operand}
theorem OpR.bld {ps : Array (Nat × Operand)} {cells : Array Value} (hok : Gok w G) (ho : o.op = .build t ps) (hb : P.built t ((ps.map fun (i,x)=>(i,a.eval x)).toList) = some cells) (h : τ.t (.agg cells) G) : OpR P o a w G τ:=by
  refine .run hok (v:=.agg cells) ?_ h
  have:=run_build (P:=P) w t (ps.map fun (i,x)=>(i,a.eval x)) cells hb
  simp only [execOp,ho,Sem.run_bind,this];rfl
theorem OpR.bneq {t' : TypeId} {m n : Bool} (hok : Gok w G) (ho : o.op = .binOp .neq t x y t') (hx : a.eval x = .bool m) (hy : a.eval y = .bool n) (ht : P.underlying t = some .bool)
    (h : τ.t (.bool (!(m == n))) G) : OpR P o a w G τ:=.run hok (by simp only [execOp,ho,hx,hy,eqGuard,Sem.run_bind,Sem.run_pure,Result.andThen_ok];simp;rw [run_neq_bool w t m n ht];rfl) h
end
def sg (s : Bool) (m : Nat) : Int:=if s then -(m : Int) else m
def cmpZ (x y : Int) : Int:=if x < y then -1 else if y < x then 1 else 0
section
variable {v : Value} {G : Gh} {n m : Nat} {z x y : Int} {s b : Bool} {l : List Nat}
theorem WR.toW (h : (WR s l).t v G) (e : wval s l = z ∧ z.natAbs < 2 ^ n) : (W n z).t v G:=⟨e.2,s,l,e.1,h⟩
theorem WR.whole (h : (WR b (words m)).t v G) (e : b = (s && decide (0 < (words m).length))) (hm : m < 2 ^ n) : (WC n (sg s m)).t v G:=by
  have e1 : (sg s m).natAbs = m:=by unfold sg;split <;> simp
  refine ⟨by rw [e1];exact hm,?_⟩
  rw [e1]
  have e2 : decide (sg s m < 0) = b:=by
    rw [e]
    by_cases h0 : m = 0
    · subst h0;simp [sg,words_zero]
    · have:=len_pos h0
      cases s <;> simp [sg,this] <;> omega
  rw [e2];exact h
theorem WR.zero (h : (WR false []).t v G) (e : z = 0) : (WC n z).t v G:=by
  subst e
  exact ⟨Nat.pow_pos (by decide),by simpa [words_zero] using h⟩
theorem WR.lim (h : (WR s l).t v G) : l.length ≤ LIM:=by obtain ⟨_,_,h⟩:=h;exact SL.lim h
theorem WR.wf (h : (WR s l).t v G) : wfl l:=by obtain ⟨_,_,h⟩:=h;exact SL.wf h
theorem wok_nil (h : l.length = 0) : (!s) = wok s l:=by rw [List.length_eq_zero_iff.1 h];rfl
theorem wok_last (h : ¬ l.length = 0) : decide (dig l (l.length - 1) ≠ 0) = wok s l:=by
  have hn : l ≠ []:=fun e=>h (by rw [e];rfl)
  unfold wok;rw [if_neg hn]
  unfold canl dig
  rw [List.getLast?_eq_getElem?]
  have hlt : l.length - 1 < l.length:=by omega
  simp [hlt]
  generalize l[l.length - 1] = d
  by_cases hd : d = 0 <;> simp [hd]
theorem not_true_of {b : Bool} (h : (!b) = true) : b = false:=by cases b <;> simp_all
theorem not_false_of {b : Bool} (h : (!b) = false) : b = true:=by cases b <;> simp_all
theorem not_wok (hv : wval s l = z) (h : wok s l = false) : z = 0:=by unfold wval at hv;rw [h] at hv;simpa using hv.symm
theorem mag_of (hw : wfl l) (hv : wval s l = z) (h : wok s l = true) : l = words z.natAbs:=hv ▸ (wval_digits hw h).1
theorem neg_of (hw : wfl l) (hv : wval s l = z) (h : wok s l = true) : s = decide (z < 0):=hv ▸ (wval_digits hw h).2
theorem len_zero {m : Nat} (h : (words m).length = 0) : m = 0:=words_nil_iff.1 (List.length_eq_zero_iff.1 h)
theorem len_zero_iff {m : Nat} : (words m).length = 0 ↔ m = 0:=⟨len_zero,fun h=>by rw [h,words_zero];rfl⟩
theorem len_pos_iff {m : Nat} : 0 < (words m).length ↔ m ≠ 0:=by have:=@len_zero_iff m;omega
theorem wok_of_ne (hv : wval s l = z) (hz : z ≠ 0) : wok s l = true:=by
  cases h : wok s l
  · exact absurd (not_wok hv h) hz
  · rfl
theorem sign_zero (h : (words z.natAbs).length = 0) : ((0 : Nat) : Int) = z.sign:=by
  have : z = 0:=by have:=len_zero h;omega
  subst this;rfl
theorem sign_neg (hw : wfl l) (hv : wval s l = z) (h : ¬ (words z.natAbs).length = 0) (hs : s = true) : -1 = z.sign:=by
  have hz : z ≠ 0:=fun e=>h (by rw [e];simp [words_zero])
  have:=neg_of hw hv (wok_of_ne hv hz)
  rw [hs] at this
  have h1 : z < 0:=of_decide_eq_true this.symm
  exact (Int.sign_eq_neg_one_of_neg h1).symm
theorem sign_pos (hw : wfl l) (hv : wval s l = z) (h : ¬ (words z.natAbs).length = 0) (hs : s = false) : ((1 : Nat) : Int) = z.sign:=by
  have hz : z ≠ 0:=fun e=>h (by rw [e];simp [words_zero])
  have:=neg_of hw hv (wok_of_ne hv hz)
  rw [hs] at this
  have h1 : ¬ z < 0:=of_decide_eq_false this.symm
  exact (Int.sign_eq_one_of_pos (by omega)).symm
theorem cmpN_bd (m n : Nat) : -1 ≤ cmpN m n ∧ cmpN m n ≤ 1:=by unfold cmpN;split <;> (try split) <;> omega
theorem cmpN_ge {m n : Nat} : cmpN m n ≥ 0 ↔ n ≤ m:=by unfold cmpN;split <;> (try split) <;> omega
theorem sgn_cases (z : Int) : (z < 0 ∧ z.sign = -1) ∨ (z = 0 ∧ z.sign = 0) ∨ (0 < z ∧ z.sign = 1):=by
  rcases Int.lt_trichotomy z 0 with h | h | h
  · exact .inl ⟨h,Int.sign_eq_neg_one_of_neg h⟩
  · subst h;exact .inr (.inl ⟨rfl,rfl⟩)
  · exact .inr (.inr ⟨h,Int.sign_eq_one_of_pos h⟩)
theorem cmp_lt (h : x.sign < y.sign) : -1 = cmpZ x y:=by
  have:=sgn_cases x;have:=sgn_cases y
  unfold cmpZ;rw [if_pos (by omega)]
theorem cmp_gt (h0 : x.sign ≠ y.sign) (h : ¬ x.sign < y.sign) : ((1 : Nat) : Int) = cmpZ x y:=by
  have:=sgn_cases x;have:=sgn_cases y
  unfold cmpZ;rw [if_neg (by omega),if_pos (by omega)];rfl
theorem cmp_neg (h0 : ¬ x.sign ≠ y.sign) (h : x < 0) : -(cmpN x.natAbs y.natAbs) = cmpZ x y:=by
  have:=sgn_cases x;have:=sgn_cases y
  unfold cmpZ cmpN
  split <;> split <;> (try split) <;> (try split) <;> omega
theorem cmp_pos (h0 : ¬ x.sign ≠ y.sign) (h : ¬ x < 0) : cmpN x.natAbs y.natAbs = cmpZ x y:=by
  have:=sgn_cases x;have:=sgn_cases y
  unfold cmpZ cmpN
  split <;> split <;> (try split) <;> (try split) <;> omega
theorem neg_sg : sg (!decide (z < 0)) z.natAbs = -z:=by
  unfold sg;by_cases h : z < 0 <;> simp [h] <;> omega
theorem add_same (h : (decide (x < 0) == decide (y < 0)) = true) : sg (decide (x < 0)) (x.natAbs + y.natAbs) = x + y:=by
  unfold sg;by_cases h1 : x < 0 <;> by_cases h2 : y < 0 <;> simp [h1,h2] at h ⊢ <;> omega
theorem add_diff (h : (decide (x < 0) == decide (y < 0)) = false) (hle : y.natAbs ≤ x.natAbs) : sg (decide (x < 0)) (x.natAbs - y.natAbs) = x + y:=by
  unfold sg;by_cases h1 : x < 0 <;> by_cases h2 : y < 0 <;> simp [h1,h2] at h ⊢ <;> omega
theorem add_diff2 (h : (decide (x < 0) == decide (y < 0)) = false) (hle : x.natAbs ≤ y.natAbs) : sg (decide (y < 0)) (y.natAbs - x.natAbs) = x + y:=by
  unfold sg;by_cases h1 : x < 0 <;> by_cases h2 : y < 0 <;> simp [h1,h2] at h ⊢ <;> omega
theorem mul_sg : sg (!(decide (x < 0) == decide (y < 0))) (x.natAbs * y.natAbs) = x * y:=by
  have e : ((x.natAbs * y.natAbs : Nat) : Int) = (x.natAbs : Int) * (y.natAbs : Int):=by simp
  unfold sg
  by_cases h1 : x < 0 <;> by_cases h2 : y < 0
  · simp only [h1,h2];simp only [decide_true,BEq.rfl,Bool.not_true,Bool.false_eq_true,if_false]
    rw [e,show (x.natAbs : Int) = -x by omega,show (y.natAbs : Int) = -y by omega,Int.neg_mul_neg]
  · simp [h1,h2]
    rw [show (x.natAbs : Int) = -x by omega,show (y.natAbs : Int) = y by omega,Int.neg_mul,Int.neg_neg]
  · simp [h1,h2]
    rw [show (x.natAbs : Int) = x by omega,show (y.natAbs : Int) = -y by omega,Int.mul_neg,Int.neg_neg]
  · simp [h1,h2]
    rw [show (x.natAbs : Int) = x by omega,show (y.natAbs : Int) = y by omega]
theorem abs_ne (hy : ¬ (words y.natAbs).length = 0) : y ≠ 0:=fun e=>hy (by rw [e];simp [words_zero])
theorem ediv_of {q r : Int} (hy : y ≠ 0) (h : r + y * q = x) (h0 : 0 ≤ r) (h1 : r < y.natAbs) : q = x / y ∧ r = x % y:=by
  rcases Int.lt_trichotomy y 0 with h2 | h2 | h2
  · have:=(Int.ediv_emod_unique' h2).2 ⟨h,h0,by omega⟩
    exact ⟨this.1.symm,this.2.symm⟩
  · exact absurd h2 hy
  · have:=(Int.ediv_emod_unique h2).2 ⟨h,h0,by omega⟩
    exact ⟨this.1.symm,this.2.symm⟩
theorem abs_dm (x y : Int) : (x.natAbs : Int) = (y.natAbs : Int) * ((x.natAbs / y.natAbs : Nat) : Int) + ((x.natAbs % y.natAbs : Nat) : Int):=by
  have h:=Nat.div_add_mod x.natAbs y.natAbs
  have : ((y.natAbs * (x.natAbs / y.natAbs) + x.natAbs % y.natAbs : Nat) : Int) = (x.natAbs : Int):=by rw [h]
  rw [← this,Int.natCast_add,Int.natCast_mul]
theorem qd2 (hy : y ≠ 0) (h : ¬ x < 0 ∨ x.natAbs % y.natAbs = 0) : sg (!(decide (x < 0) == decide (y < 0))) (x.natAbs / y.natAbs) = x / y ∧ sg false (x.natAbs % y.natAbs) = x % y:=by
  have hd:=abs_dm x y
  have hlt:=Nat.mod_lt x.natAbs (show 0 < y.natAbs by omega)
  generalize x.natAbs / y.natAbs = q at *
  generalize x.natAbs % y.natAbs = r at *
  refine ediv_of hy ?_ (by simp [sg]) (by simp [sg];omega)
  unfold sg
  by_cases h1 : x < 0 <;> by_cases h2 : y < 0 <;> simp only [h1,h2,decide_true,decide_false,BEq.rfl,Bool.not_true,Bool.false_eq_true,if_false,show (true == false) = false from rfl,show (false == true) = false from rfl,Bool.not_false,if_true,Int.mul_neg]
  · have e : (y.natAbs : Int) = -y:=by omega
    rw [e,Int.neg_mul] at hd;omega
  · have e : (y.natAbs : Int) = y:=by omega
    rw [e] at hd;omega
  · have e : (y.natAbs : Int) = -y:=by omega
    rw [e,Int.neg_mul] at hd;omega
  · have e : (y.natAbs : Int) = y:=by omega
    rw [e] at hd;omega
theorem qd1 (hy : y ≠ 0) (h : x < 0) (hr : 0 < x.natAbs % y.natAbs) : sg (!(decide (x < 0) == decide (y < 0))) (x.natAbs / y.natAbs + 1) = x / y ∧ sg false (y.natAbs - x.natAbs % y.natAbs) = x % y:=by
  have hd:=abs_dm x y
  have hlt:=Nat.mod_lt x.natAbs (show 0 < y.natAbs by omega)
  generalize x.natAbs / y.natAbs = q at *
  generalize x.natAbs % y.natAbs = r at *
  refine ediv_of hy ?_ (by simp [sg]) (by simp [sg];omega)
  unfold sg
  by_cases h2 : y < 0 <;> simp only [h,h2,decide_true,decide_false,BEq.rfl,Bool.not_true,Bool.false_eq_true,if_false,show (true == false) = false from rfl,Bool.not_false,if_true,Int.mul_neg,Int.natCast_add,Int.mul_add,Int.mul_one,Int.cast_ofNat_Int]
  · have e : (y.natAbs : Int) = -y:=by omega
    rw [e,Int.neg_mul] at hd;omega
  · have e : (y.natAbs : Int) = y:=by omega
    rw [e] at hd;omega
theorem qd_bound (hx : x.natAbs < 2 ^ n) (hr : 0 < x.natAbs % y.natAbs) (hy : y ≠ 0) : x.natAbs / y.natAbs + 1 < 2 ^ n:=by
  have hd:=Nat.div_add_mod x.natAbs y.natAbs
  have h1 : x.natAbs / y.natAbs * 1 ≤ y.natAbs * (x.natAbs / y.natAbs):=by rw [Nat.mul_comm];exact Nat.mul_le_mul_right _ (by omega)
  omega
theorem words_one : [1] = words 1:=by
  rw [← words_val (l:=[1]) (by simp [wfl]) (by simp [canl])];simp [val]
theorem gcd_next {p r g : Nat} (h : Nat.gcd p r = g) : Nat.gcd r (p % r) = g:=by rw [← h,Nat.gcd_comm p r,Nat.gcd_rec r p,Nat.gcd_comm]
theorem gcd_end {p r g : Nat} (h : Nat.gcd p r = g) (h0 : ¬ 0 < (words r).length) : sg false p = (g : Int):=by
  have : r = 0:=len_zero (by omega)
  subst this
  rw [Nat.gcd_zero_right] at h
  simp [sg,h]
theorem of_neg {m : Nat} (h0 : 0 < m) (h : m < 18446744073709551616) : IntKind.u64.wrap (0 - (m : Int)) = ((18446744073709551616 - m : Nat) : Int):=by
  rw [show IntKind.u64.wrap (0 - (m : Int)) = (0 - (m : Int)) % 18446744073709551616 from by simp [IntKind.wrap,IntKind.bits,IntKind.signed]]
  omega
end
end Go.Proofs.YtboicjlbbbodgaaGreatDoor
