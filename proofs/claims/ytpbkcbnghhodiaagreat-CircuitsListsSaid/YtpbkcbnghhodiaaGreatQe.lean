import Derived.Test.YtpbkcbnghhodiaaGreatQd
set_option linter.unusedVariables false
set_option linter.unusedSimpArgs false
set_option linter.unusedVariables false
set_option linter.unusedSimpArgs false
namespace Go.Proofs.YtpbkcbnghhodiaaGreat
open Go.RowKit (Below)
def GD (b pol : Bool) (τ : MT) : MT:=⟨fun v G=>(b = pol → τ.t v G) ∧ (b ≠ pol → v = undef),fun hle h=>⟨fun hg=>τ.mono hle (h.1 hg),h.2⟩⟩
def GI (b pol : Bool) (p : Prop) : Prop:=b = pol → p
theorem GI.i {b pol : Bool} {p : Prop} (h : b = pol → p) : GI b pol p:=h
def Env (L : List (Nat × MT)) (u : List Nat) (a : Act) (G : Gh) : Prop:=∀ t τ,t ∈ u → (t,τ) ∈ L → τ.t (tm a t) G
theorem Env.l {L : List (Nat × MT)} {u v : List Nat} {a : Act} {G : Gh} (h : Env L (u ++ v) a G) : Env L u a G:=fun t τ ht=>h t τ (List.mem_append_left _ ht)
theorem Env.r {L : List (Nat × MT)} {u v : List Nat} {a : Act} {G : Gh} (h : Env L (u ++ v) a G) : Env L v a G:=fun t τ ht=>h t τ (List.mem_append_right _ ht)
def Bku (B : List BX) (u : List Nat) (W0 w : World) (G : Gh) : Prop:=∀ i x,1000000 + i ∈ u → B[i]? = some x → x.ok W0 w G
theorem Bku.l {B : List BX} {u v : List Nat} {W0 w : World} {G : Gh} (h : Bku B (u ++ v) W0 w G) : Bku B u W0 w G:=fun i x hi=>h i x (List.mem_append_left _ hi)
class Lk (L : List (Nat × MT)) (t : Nat) (τ : outParam MT) : Prop where
  m : (t,τ) ∈ L
instance (priority:=500) Lk.tl {p : Nat × MT} {L : List (Nat × MT)} {t : Nat} {τ : MT} [h : Lk L t τ] : Lk (p :: L) t τ:=⟨.tail _ h.m⟩
instance Lk.hd {L : List (Nat × MT)} {t : Nat} {τ : MT} : Lk ((t,τ) :: L) t τ:=⟨.head _⟩
class Opd (L : List (Nat × MT)) (x : Operand) (τ : outParam MT) (u : outParam (List Nat)) : Prop where
  h : ∀ {a : Act} {G : Gh},Env L u a G → τ.t (a.eval x) G
instance Opd.tmp {L : List (Nat × MT)} {t : Nat} {τ : MT} [h : Lk L t τ] : Opd L (.tmp t) τ [t]:=⟨fun e=>e t τ (by simp) h.m⟩
instance Opd.const {L : List (Nat × MT)} {v : Value} : Opd L (.const v) (.ex v) []:=⟨fun _=>rfl⟩
class OpdG (L : List (Nat × MT)) (x : Operand) (b pol : Bool) (τ : outParam MT) (u : outParam (List Nat)) : Prop where
  h : ∀ {a : Act} {G : Gh},Env L u a G → b = pol → τ.t (a.eval x) G
instance (priority:=500) OpdG.of {L : List (Nat × MT)} {x : Operand} {b pol : Bool} {τ : MT} {u : List Nat} [h : Opd L x τ u] : OpdG L x b pol τ u:=⟨fun e _=>h.h e⟩
instance OpdG.g {L : List (Nat × MT)} {x : Operand} {b pol : Bool} {τ : MT} {u : List Nat} [h : Opd L x (GD b pol τ) u] : OpdG L x b pol τ u:=⟨fun e hb=>(h.h e).1 hb⟩
class Bx (B : List BX) (b : Nat) (i : outParam Nat) (ty : outParam TypeId) (k : outParam (Option Nat)) (τ : outParam MT) : Prop where
  m : B[i]? = some ⟨b,ty,k,τ⟩
instance (priority:=500) Bx.tl {x : BX} {B : List BX} {b i : Nat} {ty : TypeId} {k : Option Nat} {τ : MT} [h : Bx B b i ty k τ] : Bx (x :: B) b (i + 1) ty k τ:=⟨h.m⟩
instance Bx.hd {B : List BX} {b : Nat} {ty : TypeId} {k : Option Nat} {τ : MT} : Bx (⟨b,ty,k,τ⟩ :: B) b 0 ty k τ:=⟨rfl⟩
class TyS (P : Program) (t : TypeId) (k : outParam (Option Nat)) : Prop where
  h : tyS P t k = true
class FO (P : Program) (s f : Nat) (off : outParam Nat) : Prop where
  h : fldOff P s f = some off
class Und (P : Program) (t : TypeId) (d : outParam TypeDesc) : Prop where
  h : P.underlying t = some d
class Ifc (P : Program) (t : TypeId) : Prop where
  h : ifaceT P t
class NIf (P : Program) (t : TypeId) : Prop where
  h : (match P.underlying t with | some (.interface _)=>false | some _=>true | none=>false) = true
class ErI (P : Program) (n : TypeId) : Prop where
  h : ∃ i k,P.info? n = some i ∧ i.comparable = true ∧ P.underlying n = some (.int k)
theorem ErI.of {P : Program} {n : TypeId} {k : IntKind} (h1 : (P.info? n).map (·.comparable) = some true) (h2 : P.underlying n = some (.int k)) : ErI P n:=⟨by
  cases hi : P.info? n with
  | none=>rw [hi] at h1;cases h1
  | some i=>rw [hi] at h1;exact ⟨i,k,rfl,by simpa using h1,h2⟩⟩
class NZ (k : Option Nat) : Prop where
  h : k ≠ some 0
instance NZ.n : NZ none:=⟨by simp⟩
instance NZ.s {n : Nat} : NZ (some (n + 1)):=⟨by simp⟩
class Prt (τb : MT) (i : Nat) (kt : Option Nat) (τ : outParam MT) : Prop where
  h : ∀ {v : Value} {k : Option Nat} {G : Gh},τb.t v G → Shaped k v → ∃ u,Shaped kt u ∧ τ.t u G ∧ ∀ j x,u.cells[j]? = some x → v.cells[i + j]? = some x
def PF (fs : List (Option Nat × MT)) (us : List Value) (G : Gh) : Prop:=us.length = fs.length ∧ ∀ (i : Nat) (f : Option Nat × MT) (u : Value),fs[i]? = some f → us[i]? = some u → Shaped f.1 u ∧ f.2.t u G
class PrtL (fs : List (Option Nat × MT)) (i : Nat) (kt : Option Nat) (τ : outParam MT) : Prop where
  h : ∀ {us : List Value} {G : Gh},PF fs us G → ∃ u,Shaped kt u ∧ τ.t u G ∧ ∀ j x,u.cells[j]? = some x → (flat us)[i + j]? = some x
theorem PF.cons {k : Option Nat} {τ : MT} {fs : List (Option Nat × MT)} {us : List Value} {G : Gh} (h : PF ((k,τ) :: fs) us G) : ∃ u us',us = u :: us' ∧ Shaped k u ∧ τ.t u G ∧ PF fs us' G:=by
  obtain ⟨h1,h2⟩:=h
  match us,h1 with
  | u :: us',h1=>exact ⟨u,us',rfl,(h2 0 _ u rfl rfl).1,(h2 0 _ u rfl rfl).2,by simpa using h1,fun i f x hf hx=>h2 (i + 1) f x hf hx⟩
theorem flat_cns {u : Value} {us : List Value} : flat (u :: us) = u.cells.toList ++ flat us:=rfl
theorem PrtL.skip {k : Option Nat} {τ' : MT} {fs : List (Option Nat × MT)} {i j : Nat} {kt : Option Nat} {τ : MT} (h : PrtL fs i kt τ) (e : j = i + k.getD 1) : PrtL ((k,τ') :: fs) j kt τ:=⟨fun hp=>by
  obtain ⟨u,us',rfl,hs,_,hp'⟩:=hp.cons
  obtain ⟨x,h1,h2,h3⟩:=h.h hp'
  refine ⟨x,h1,h2,fun m y hm=>?_⟩
  have:=h3 m y hm
  have hsz : u.cells.toList.length = k.getD 1:=by simpa using shaped_size hs
  rw [flat_cns,List.getElem?_append_right (by omega),hsz]
  rw [← this];congr 1;omega⟩
instance PrtL.hd {k : Option Nat} {τ : MT} {fs : List (Option Nat × MT)} : PrtL ((k,τ) :: fs) 0 k τ:=⟨fun hp=>by
  obtain ⟨u,us',rfl,hs,ht,_⟩:=hp.cons
  refine ⟨u,hs,ht,fun m y hm=>?_⟩
  have hm' : u.cells.toList[m]? = some y:=by simpa using hm
  have hl : m < u.cells.toList.length:=(List.getElem?_eq_some_iff.1 hm').1
  rw [flat_cns,Nat.zero_add,List.getElem?_append_left hl];exact hm'⟩
instance (priority:=700) PrtL.inn {k : Option Nat} {gs fs : List (Option Nat × MT)} {i : Nat} {kt : Option Nat} {τ : MT} [h : PrtL gs i kt τ] : PrtL ((k,PTS gs) :: fs) i kt τ:=⟨fun hp=>by
  obtain ⟨u,us',rfl,hs,ht,_⟩:=hp.cons
  obtain ⟨vs,rfl,hl,hE⟩:=ht
  obtain ⟨x,h1,h2,h3⟩:=h.h ⟨hl,hE⟩
  refine ⟨x,h1,h2,fun m y hm=>?_⟩
  have h4:=h3 m y hm
  have hlt : i + m < (flat vs).length:=(List.getElem?_eq_some_iff.1 h4).1
  rw [flat_cns,List.getElem?_append_left (by simpa [Value.cells] using hlt)]
  simpa [Value.cells] using h4⟩
instance (priority:=500) PrtL.s1 {τ' : MT} {fs : List (Option Nat × MT)} {i : Nat} {kt : Option Nat} {τ : MT} [h : PrtL fs i kt τ] : PrtL ((none,τ') :: fs) (i + 1) kt τ:=h.skip rfl
instance (priority:=500) PrtL.s2 {τ' : MT} {fs : List (Option Nat × MT)} {i : Nat} {kt : Option Nat} {τ : MT} [h : PrtL fs i kt τ] : PrtL ((some 2,τ') :: fs) (i + 2) kt τ:=h.skip rfl
instance (priority:=500) PrtL.s3 {τ' : MT} {fs : List (Option Nat × MT)} {i : Nat} {kt : Option Nat} {τ : MT} [h : PrtL fs i kt τ] : PrtL ((some 3,τ') :: fs) (i + 3) kt τ:=h.skip rfl
instance (priority:=500) PrtL.s4 {τ' : MT} {fs : List (Option Nat × MT)} {i : Nat} {kt : Option Nat} {τ : MT} [h : PrtL fs i kt τ] : PrtL ((some 4,τ') :: fs) (i + 4) kt τ:=h.skip rfl
instance (priority:=500) PrtL.s6 {τ' : MT} {fs : List (Option Nat × MT)} {i : Nat} {kt : Option Nat} {τ : MT} [h : PrtL fs i kt τ] : PrtL ((some 6,τ') :: fs) (i + 6) kt τ:=h.skip rfl
instance (priority:=800) Prt.pts {fs : List (Option Nat × MT)} {i : Nat} {kt : Option Nat} {τ : MT} [h : PrtL fs i kt τ] : Prt (PTS fs) i kt τ:=⟨fun ht _=>by
  obtain ⟨us,rfl,h1,h2⟩:=ht
  obtain ⟨u,a1,a2,a3⟩:=h.h ⟨h1,h2⟩
  exact ⟨u,a1,a2,fun j x hx=>by have:=a3 j x hx;simpa [Value.cells] using this⟩⟩
instance Prt.whole {τ : MT} {k : Option Nat} [s : Shp τ k] : Prt τ 0 k τ:=⟨fun ht _=>⟨_,s.sh ht,ht,fun j x hx=>by rw [Nat.zero_add];exact hx⟩⟩
class Op1 (P : Program) (L : List (Nat × MT)) (B : List BX) (op : Op) (pre : outParam Prop) (τ : outParam MT) (u : outParam (List Nat)) : Prop where
  ok : ∀ {W0 w : World} {a : Act} {G : Gh} {o : Oper},o.op = op → Gok w G → Env L u a G → Bku B u W0 w G → pre → OpR P o a w G τ
section
variable {P : Program} {L : List (Nat × MT)} {B : List BX} {x y z : Operand} {u v u' : List Nat} {t t' : TypeId} {τ τ' τ'' : MT} {m n : Int} {b c : Bool}
abbrev I64 (z : Int) : Prop:=-9223372036854775808 ≤ z ∧ z ≤ 9223372036854775807
theorem i64_w {z : Int} (h : I64 z) : IntKind.i64.wrap z = z:=by have:=iw_i64 (z:=z) rfl h;injection this
instance Op1.mv [h : Opd L x τ u] : Op1 P L B (.move x) True τ u:=⟨fun ho hok e _ _=>.mv hok ho (h.h e)⟩
instance Op1.add [h : Opd L x (IT m) u] [k : Opd L y (IT n) v] : Op1 P L B (.binOp .add t x y t') (I64 (m + n)) (IT (m + n)) (u ++ v):=⟨fun ho hok e _ hp=>.iadd hok ho (h.h e.l) (k.h e.r) (by rw [i64_w hp];rfl)⟩
instance Op1.sub [h : Opd L x (IT m) u] [k : Opd L y (IT n) v] : Op1 P L B (.binOp .sub t x y t') (I64 (m - n)) (IT (m - n)) (u ++ v):=⟨fun ho hok e _ hp=>.isub hok ho (h.h e.l) (k.h e.r) (by rw [i64_w hp];rfl)⟩
instance Op1.mul [h : Opd L x (IT m) u] [k : Opd L y (IT n) v] : Op1 P L B (.binOp .mul t x y t') (I64 (m * n)) (IT (m * n)) (u ++ v):=⟨fun ho hok e _ hp=>.imul hok ho (h.h e.l) (k.h e.r) (by rw [i64_w hp];rfl)⟩
instance Op1.neg [h : Opd L x (IT m) u] : Op1 P L B (.unOp .neg t x) (I64 (-m)) (IT (-m)) u:=⟨fun ho hok e _ hp=>.ineg hok ho (h.h e) (by rw [show (0 - m : Int) = -m by omega,i64_w hp];rfl)⟩
theorem beq_dec {m n : Int} : (m == n) = decide (m = n):=by rw [Bool.eq_iff_iff];simp
theorem bne_dec {m n : Int} : (m != n) = decide (m ≠ n):=by rw [Bool.eq_iff_iff];simp
instance Op1.eql [h : Opd L x (IT m) u] [k : Opd L y (IT n) v] : Op1 P L B (.binOp .eql t x y t') True (BT (decide (m = n))) (u ++ v):=⟨fun ho hok e _ _=>.ieql hok ho (h.h e.l) (k.h e.r) (by rw [beq_dec];rfl)⟩
instance Op1.neq [h : Opd L x (IT m) u] [k : Opd L y (IT n) v] : Op1 P L B (.binOp .neq t x y t') True (BT (decide (m ≠ n))) (u ++ v):=⟨fun ho hok e _ _=>.ineq hok ho (h.h e.l) (k.h e.r) (by rw [bne_dec];rfl)⟩
instance Op1.lss [h : Opd L x (IT m) u] [k : Opd L y (IT n) v] : Op1 P L B (.binOp .lss t x y t') True (BT (decide (m < n))) (u ++ v):=⟨fun ho hok e _ _=>.ilss hok ho (h.h e.l) (k.h e.r) rfl⟩
instance Op1.leq [h : Opd L x (IT m) u] [k : Opd L y (IT n) v] : Op1 P L B (.binOp .leq t x y t') True (BT (decide (m ≤ n))) (u ++ v):=⟨fun ho hok e _ _=>.ileq hok ho (h.h e.l) (k.h e.r) rfl⟩
instance Op1.gtr [h : Opd L x (IT m) u] [k : Opd L y (IT n) v] : Op1 P L B (.binOp .gtr t x y t') True (BT (decide (m > n))) (u ++ v):=⟨fun ho hok e _ _=>.igtr hok ho (h.h e.l) (k.h e.r) rfl⟩
instance Op1.geq [h : Opd L x (IT m) u] [k : Opd L y (IT n) v] : Op1 P L B (.binOp .geq t x y t') True (BT (decide (m ≥ n))) (u ++ v):=⟨fun ho hok e _ _=>.igeq hok ho (h.h e.l) (k.h e.r) rfl⟩
instance Op1.beq [i : Und P t .bool] [h : Opd L x (BT b) u] [k : Opd L y (BT c) v] : Op1 P L B (.binOp .eql t x y t') True (BT (b == c)) (u ++ v):=⟨fun ho hok e _ _=>.beql hok ho (h.h e.l) (k.h e.r) i.h rfl⟩
instance Op1.bne [i : Und P t .bool] [h : Opd L x (BT b) u] [k : Opd L y (BT c) v] : Op1 P L B (.binOp .neq t x y t') True (BT (b != c)) (u ++ v):=⟨fun ho hok e _ _=>.bneq hok ho (h.h e.l) (k.h e.r) i.h rfl⟩
instance Op1.not [h : Opd L x (BT b) u] : Op1 P L B (.unOp .not t x) True (BT (!b)) u:=⟨fun ho hok e _ _=>.bnot hok ho (h.h e) rfl⟩
instance (priority:=500) Op1.pick {f g : Bool} [h : Opd L x (BT b) u] [k : OpdG L y b true (BT f) v] [l : OpdG L z b false (BT g) u'] : Op1 P L B (.pick x y z) True (BT (if b = true then f else g)) (u ++ (v ++ u')) :=
  ⟨fun ho hok e _ _=>.pick hok ho (h.h e.l) (by
    cases b with
    | true=>exact k.h e.r.l rfl
    | false=>exact l.h e.r.r rfl)⟩
instance Op1.andb {f : Bool} [h : Opd L x (BT b) u] [k : OpdG L y b true (BT f) v] : Op1 P L B (.pick x y (.const (.bool false))) True (BT (b && f)) (u ++ v) :=
  ⟨fun ho hok e _ _=>.pick hok ho (h.h e.l) (by
    cases b with
    | true=>exact k.h e.r rfl
    | false=>rfl)⟩
instance Op1.orb {f : Bool} [h : Opd L x (BT b) u] [k : OpdG L y b false (BT f) v] : Op1 P L B (.pick x (.const (.bool true)) y) True (BT (b || f)) (u ++ v) :=
  ⟨fun ho hok e _ _=>.pick hok ho (h.h e.l) (by
    cases b with
    | true=>rfl
    | false=>exact k.h e.r rfl)⟩
instance Op1.ex20 [h : Opd L x (.tup2 τ τ') u] : Op1 P L B (.extract x 0) True τ u:=⟨fun ho hok e _ _=>.ext2a hok ho (h.h e)⟩
instance Op1.ex21 [h : Opd L x (.tup2 τ τ') u] : Op1 P L B (.extract x 1) True τ' u:=⟨fun ho hok e _ _=>.ext2b hok ho (h.h e)⟩
instance Op1.ex30 [h : Opd L x (.tup3 τ τ' τ'') u] : Op1 P L B (.extract x 0) True τ u:=⟨fun ho hok e _ _=>.ext3a hok ho (h.h e)⟩
instance Op1.ex31 [h : Opd L x (.tup3 τ τ' τ'') u] : Op1 P L B (.extract x 1) True τ' u:=⟨fun ho hok e _ _=>.ext3b hok ho (h.h e)⟩
instance Op1.ex32 [h : Opd L x (.tup3 τ τ' τ'') u] : Op1 P L B (.extract x 2) True τ'' u:=⟨fun ho hok e _ _=>.ext3c hok ho (h.h e)⟩
theorem errV_nil {n : TypeId} : nilB (errV n m) = decide (m = 0):=by unfold errV;split <;> simp_all [nilB]
instance Op1.erN {n : TypeId} [i : Ifc P t] [h : Opd L x (.ex (errV n m)) u] : Op1 P L B (.binOp .neq t x (.const .nilIface) t') True (BT (decide (m ≠ 0))) u :=
  ⟨fun ho hok e _ _=>.errNeqNil hok ho i.h (h.h e) (errV_or m) (by rw [errV_nil];by_cases hm : m = 0 <;> simp [hm] <;> rfl)⟩
instance Op1.erE {n : TypeId} [i : Ifc P t] [h : Opd L x (.ex (errV n m)) u] : Op1 P L B (.binOp .eql t x (.const .nilIface) t') True (BT (decide (m = 0))) u :=
  ⟨fun ho hok e _ _=>.errEqNil hok ho i.h (h.h e) (errV_or m) (by rw [errV_nil];rfl)⟩
instance Op1.erI {n : TypeId} {c : Int} [i : Ifc P t] [ei : ErI P n] [h : Opd L x (.ex (errV n m)) u] [k : Opd L y (.ex (errV n c)) v] : Op1 P L B (.binOp .eql t x y t') (c ≠ 0) (BT (decide (m = c))) (u ++ v):=⟨fun ho hok e _ hp=>by
  obtain ⟨j,k',h1,h2,h3⟩:=ei.h
  exact .errEqI hok ho i.h h1 h2 h3 (h.h e.l) ((k.h e.r).trans (by unfold errV;rw [if_neg hp])) hp rfl⟩
instance Op1.mkE [i : NIf P t] [h : Opd L x (IT m) u] : Op1 P L B (.makeInterface t x) (m ≠ 0) (.ex (errV t m)) u:=⟨fun ho hok e _ hp=>.mkI hok ho i.h (h.h e) (by unfold errV;rw [if_neg hp];rfl)⟩
instance (priority:=500) Op1.fldA {s f b0 i off : Nat} [k : FO P s f off] [h : Opd L x (.ex (.pointer (some ⟨b0,i,none⟩))) u] : Op1 P L B (.fieldAddr s x f) True (.ex (.pointer (some ⟨b0,i + off,none⟩))) u:=⟨fun ho hok e _ _=>.fldA hok ho (h.h e) k.h rfl⟩
instance Op1.fld0 {s f b0 off : Nat} [k : FO P s f off] [h : Opd L x (PB b0) u] : Op1 P L B (.fieldAddr s x f) True (.ex (.pointer (some ⟨b0,off,none⟩))) u:=⟨fun ho hok e _ _=>.fldA hok ho (h.h e) k.h (by rw [Nat.zero_add];rfl)⟩
theorem prt_load {W0 w : World} {a : Act} {G : Gh} {o : Oper} {b0 i : Nat} {ty : TypeId} {k kt : Option Nat} {τb : MT} (hok : Gok w G) (ho : o.op = .load t x) (hT : tyS P t kt = true) (hk : kt ≠ some 0)
    (hx : a.eval x = .pointer (some ⟨b0,i,none⟩)) (hb : BX.ok ⟨b0,ty,k,τb⟩ W0 w G) (h : Prt τb i kt τ) : OpR P o a w G τ:=by
  have h0 : (decide (0 < kt.getD 1)) = true:=by
    cases kt with
    | none=>rfl
    | some n=>exact decide_eq_true (Nat.pos_of_ne_zero fun e=>hk (by simpa using e))
  cases kt with
  | none=>exact .ldCell hok ho hx hb hT fun v ht hs=>part_load (k':=none) (h.h ht hs) h0
  | some n=>exact .ldPart hok ho hx hb hT fun v ht hs=>part_load (k':=some n) (h.h ht hs) h0
instance Op1.ld {b0 i c : Nat} {ty : TypeId} {k kt : Option Nat} {τb : MT} [h : Opd L x (.ex (.pointer (some ⟨b0,i,none⟩))) u] [hb : Bx B b0 c ty k τb] [hT : TyS P t kt] [hz : NZ kt] [hp : Prt τb i kt τ] : Op1 P L B (.load t x) True τ (u ++ [1000000 + c]) :=
  ⟨fun ho hok e B _=>prt_load hok ho hT.h hz.h (h.h e.l) (B c _ (by simp) hb.m) hp⟩
end
end Go.Proofs.YtpbkcbnghhodiaaGreat
set_option linter.unusedVariables false
set_option linter.unusedSimpArgs false
namespace Go.Proofs.YtpbkcbnghhodiaaGreat
open Go.RowKit (Below)
def Args : List Value → List MT → Gh → Prop
  | [],[],_=>True
  | v :: vs,τ :: τs,G=>τ.t v G ∧ Args vs τs G
  | _,_,_=>False
class Con (P : Program) (f : Nat) (τs : List MT) (pre : outParam Prop) (ρ : outParam MT) : Prop where
  h : ∀ {vs : List Value} {w : World} {G : Gh},Gok w G → Args vs τs G → pre → Calls P f vs.toArray w (Ret w G ρ)
class Cb (P : Program) (f : Nat) : Prop where
  h : callable P f = true
class OpdL (L : List (Nat × MT)) (xs : List Operand) (τs : outParam (List MT)) (u : outParam (List Nat)) : Prop where
  h : ∀ {a : Act} {G : Gh},Env L u a G → Args (xs.map a.eval) τs G
instance OpdL.nil {L : List (Nat × MT)} : OpdL L [] [] []:=⟨fun _=>trivial⟩
instance OpdL.cons {L : List (Nat × MT)} {x : Operand} {xs : List Operand} {τ : MT} {τs : List MT} {u v : List Nat} [h : Opd L x τ u] [k : OpdL L xs τs v] : OpdL L (x :: xs) (τ :: τs) (u ++ v):=⟨fun e=>⟨h.h e.l,k.h e.r⟩⟩
section
variable {P : Program} {f : Nat} {τ1 τ2 τ3 τ4 τ5 ρ : MT} {pre : Prop}
theorem Con.o0 (h : ∀ {w : World} {G : Gh},Gok w G → pre → Calls P f #[] w (Ret w G ρ)) : Con P f [] pre ρ:=⟨fun {vs _ _} hok ha hp=>match vs,ha with | [],_=>h hok hp⟩
theorem Con.o1 (h : ∀ {v1 : Value} {w : World} {G : Gh},Gok w G → τ1.t v1 G → pre → Calls P f #[v1] w (Ret w G ρ)) : Con P f [τ1] pre ρ:=⟨fun {vs _ _} hok ha hp=>match vs,ha with | [_],ha=>h hok ha.1 hp⟩
theorem Con.o2 (h : ∀ {v1 v2 : Value} {w : World} {G : Gh},Gok w G → τ1.t v1 G → τ2.t v2 G → pre → Calls P f #[v1,v2] w (Ret w G ρ)) : Con P f [τ1,τ2] pre ρ:=⟨fun {vs _ _} hok ha hp=>match vs,ha with | [_,_],ha=>h hok ha.1 ha.2.1 hp⟩
theorem Con.o3 (h : ∀ {v1 v2 v3 : Value} {w : World} {G : Gh},Gok w G → τ1.t v1 G → τ2.t v2 G → τ3.t v3 G → pre → Calls P f #[v1,v2,v3] w (Ret w G ρ)) : Con P f [τ1,τ2,τ3] pre ρ:=⟨fun {vs _ _} hok ha hp=>match vs,ha with | [_,_,_],ha=>h hok ha.1 ha.2.1 ha.2.2.1 hp⟩
section
variable {w : World} {G : Gh} {v1 v2 v3 v4 : Value}
theorem Con.c1 (c : Con P f [τ1] pre ρ) (hok : Gok w G) (h1 : τ1.t v1 G) (hp : pre) : Calls P f #[v1] w (Ret w G ρ):=c.h (vs:=[v1]) hok ⟨h1,trivial⟩ hp
theorem Con.c2 (c : Con P f [τ1,τ2] pre ρ) (hok : Gok w G) (h1 : τ1.t v1 G) (h2 : τ2.t v2 G) (hp : pre) : Calls P f #[v1,v2] w (Ret w G ρ):=c.h (vs:=[v1,v2]) hok ⟨h1,h2,trivial⟩ hp
theorem Con.c3 (c : Con P f [τ1,τ2,τ3] pre ρ) (hok : Gok w G) (h1 : τ1.t v1 G) (h2 : τ2.t v2 G) (h3 : τ3.t v3 G) (hp : pre) : Calls P f #[v1,v2,v3] w (Ret w G ρ):=c.h (vs:=[v1,v2,v3]) hok ⟨h1,h2,h3,trivial⟩ hp
theorem Con.c4 (c : Con P f [τ1,τ2,τ3,τ4] pre ρ) (hok : Gok w G) (h1 : τ1.t v1 G) (h2 : τ2.t v2 G) (h3 : τ3.t v3 G) (h4 : τ4.t v4 G) (hp : pre) : Calls P f #[v1,v2,v3,v4] w (Ret w G ρ):=c.h (vs:=[v1,v2,v3,v4]) hok ⟨h1,h2,h3,h4,trivial⟩ hp
end
instance Op1.call {L : List (Nat × MT)} {B : List BX} {xs : List Operand} {ats : Array TypeId} {τs : List MT} {u : List Nat} [h : OpdL L xs τs u] [c : Con P f τs pre ρ] [k : Cb P f] : Op1 P L B (.call { callee:=.value (.func f),args:=xs.toArray,argTypes:=ats }) pre ρ u :=
  ⟨fun ho hok e _ hp=>.call ho k.h (by rw [List.map_toArray];exact c.h hok (h.h e) hp)⟩
end
structure RE where
  d : Nat
  τ : MT
  u : List Nat
class Gs (b pol : Bool) (L : List (Nat × MT)) (L' : outParam (List (Nat × MT))) : Prop where
  h : ∀ (t : Nat) (τ' : MT),(t,τ') ∈ L' → ∃ τ,(t,τ) ∈ L ∧ (b = pol → ∀ v G,τ.t v G → τ'.t v G)
instance Gs.nil {b pol : Bool} : Gs b pol [] []:=⟨fun _ _ h=>by simp at h⟩
instance (priority:=500) Gs.cons {b pol : Bool} {p : Nat × MT} {L L' : List (Nat × MT)} [h : Gs b pol L L'] : Gs b pol (p :: L) (p :: L'):=⟨fun t τ' hm=>by
  rcases List.mem_cons.1 hm with e | e
  · subst e;exact ⟨τ',.head _,fun _ _ _ h=>h⟩
  · obtain ⟨τ,h1,h2⟩:=h.h t τ' e;exact ⟨τ,.tail _ h1,h2⟩⟩
instance Gs.gd {b pol : Bool} {d : Nat} {τ0 : MT} {L L' : List (Nat × MT)} [h : Gs b pol L L'] : Gs b pol ((d,GD b pol τ0) :: L) ((d,τ0) :: L'):=⟨fun t τ' hm=>by
  rcases List.mem_cons.1 hm with e | e
  · cases e;exact ⟨_,.head _,fun hb _ _ h=>h.1 hb⟩
  · obtain ⟨τ,h1,h2⟩:=h.h t τ' e;exact ⟨τ,.tail _ h1,h2⟩⟩
theorem Gs.env {b pol : Bool} {L L' : List (Nat × MT)} (h : Gs b pol L L') {u : List Nat} {a : Act} {G : Gh} (e : Env L u a G) (hb : b = pol) : Env L' u a G:=fun t τ' ht hm=>by
  obtain ⟨τ,h1,h2⟩:=h.h t τ' hm;exact h2 hb _ _ (e t τ ht h1)
class Gw (τg : MT) (pol : Bool) (L : List (Nat × MT)) (L' : outParam (List (Nat × MT))) (wr : outParam (MT → MT)) (wp : outParam (Prop → Prop)) : Prop where
  h : ∀ {v : Value} {G : Gh},τg.t v G → (v = .bool pol ∧ (∀ u a G,Env L u a G → Env L' u a G) ∧ (∀ τ v G,τ.t v G → (wr τ).t v G) ∧ ∀ p,wp p → p) ∨ (v ≠ .bool pol ∧ ∀ τ G,(wr τ).t undef G)
instance Gw.b {b pol : Bool} {L L' : List (Nat × MT)} [g : Gs b pol L L'] : Gw (BT b) pol L L' (GD b pol) (GI b pol):=⟨fun {v G} ht=>by
  have hv : v = .bool b:=ht
  by_cases hb : b = pol
  · exact .inl ⟨by rw [hv,hb],fun u a G e=>g.env e hb,fun τ v G h=>⟨fun _=>h,fun e=>absurd hb e⟩,fun p h=>h hb⟩
  · exact .inr ⟨by rw [hv];simpa using hb,fun τ G=>⟨fun e=>absurd e hb,fun _=>rfl⟩⟩⟩
instance Gw.g {b pol pol' : Bool} {τg : MT} {L L1 L' : List (Nat × MT)} {wr : MT → MT} {wp : Prop → Prop} [g : Gs b pol L L1] [k : Gw τg pol' L1 L' wr wp] : Gw (GD b pol τg) pol' L L' (fun τ=>GD b pol (wr τ)) (fun p=>GI b pol (wp p)):=⟨fun {v G} ht=>by
  by_cases hb : b = pol
  · rcases k.h (ht.1 hb) with ⟨h1,h2,h3,h4⟩ | ⟨h1,h2⟩
    · exact .inl ⟨h1,fun u a G e=>h2 u a G (g.env e hb),fun τ v G h=>⟨fun _=>h3 τ v G h,fun e=>absurd hb e⟩,fun p h=>h4 p (h hb)⟩
    · exact .inr ⟨h1,fun τ G=>⟨fun _=>h2 τ G,fun e=>absurd hb e⟩⟩
  · exact .inr ⟨by rw [ht.2 hb];simp [undef],fun τ G=>⟨fun e=>absurd e hb,fun _=>rfl⟩⟩⟩
class DstAt (all : List Oper) (j : Nat) (d : outParam Nat) : Prop where
  h : (all[j]?).bind (·.dst) = some d
instance DstAt.z {d : Nat} {op : Op} {ty : TypeId} {pos : String} {aft : Array Edge} {g : Option (Nat × Bool)} {l : List Oper} : DstAt (⟨some d,op,ty,pos,aft,g⟩ :: l) 0 d:=⟨rfl⟩
instance DstAt.s {o : Oper} {l : List Oper} {j d : Nat} [h : DstAt l j d] : DstAt (o :: l) (j + 1) d:=⟨h.h⟩
inductive RunI (P : Program) (B : List BX) (all : List Oper) : List (Nat × MT) → List Oper → Prop → List RE → List (Nat × MT) → List Oper → Prop
  | stop {L : List (Nat × MT)} {ops : List Oper} : RunI P B all L ops True [] L ops
  | cons {L : List (Nat × MT)} {ops : List Oper} {d : Nat} {op : Op} {ty : TypeId} {pos : String} {aft : Array Edge} {pre pre' : Prop} {τ : MT} {u : List Nat} {es : List RE} {out : List (Nat × MT)} {rest : List Oper} :
      Op1 P L B op pre τ u → RunI P B all ((d,τ) :: L) ops pre' es out rest → RunI P B all L (⟨some d,op,ty,pos,aft,none⟩ :: ops) (pre ∧ pre') (⟨d,τ,u⟩ :: es) out rest
  | gcons {L L' : List (Nat × MT)} {ops : List Oper} {d : Nat} {op : Op} {ty : TypeId} {pos : String} {aft : Array Edge} {pre pre' : Prop} {τ : MT} {u : List Nat} {es : List RE} {out : List (Nat × MT)} {rest : List Oper} {j dj : Nat} {pol : Bool} {τg : MT} {wr : MT → MT} {wp : Prop → Prop} :
      (all[j]?).bind (·.dst) = some dj → (dj,τg) ∈ L → Gw τg pol L L' wr wp → Op1 P L' B op pre τ u → RunI P B all ((d,wr τ) :: L) ops pre' es out rest →
      RunI P B all L (⟨some d,op,ty,pos,aft,some (j,pol)⟩ :: ops) (wp pre ∧ pre') (⟨d,wr τ,dj :: u⟩ :: es) out rest
class Run (P : Program) (B : List BX) (all : List Oper) (L : List (Nat × MT)) (ops : List Oper) (pre : outParam Prop) (es : outParam (List RE)) (out : outParam (List (Nat × MT))) (rest : outParam (List Oper)) : Prop where
  r : RunI P B all L ops pre es out rest
section
variable {P : Program} {B : List BX} {all : List Oper} {L L' : List (Nat × MT)} {ops : List Oper} {d : Nat} {op : Op} {ty : TypeId} {pos : String} {aft : Array Edge} {pre pre' : Prop} {τ : MT} {u : List Nat} {es : List RE} {out : List (Nat × MT)} {rest : List Oper} {j dj : Nat} {b pol : Bool} {τg : MT} {wr : MT → MT} {wp : Prop → Prop}
instance (priority:=100) Run.stop : Run P B all L ops True [] L ops:=⟨.stop⟩
instance Run.cons [h : Op1 P L B op pre τ u] [k : Run P B all ((d,τ) :: L) ops pre' es out rest] : Run P B all L (⟨some d,op,ty,pos,aft,none⟩ :: ops) (pre ∧ pre') (⟨d,τ,u⟩ :: es) out rest:=⟨.cons h k.r⟩
instance (priority:=1100) Run.smv {x : Operand} : Run P B all L (⟨some d,.move x,ty,pos,aft,none⟩ :: ops) True [] L (⟨some d,.move x,ty,pos,aft,none⟩ :: ops):=⟨.stop⟩
instance Run.gcons [hj : DstAt all j dj] [hb : Lk L dj τg] [g : Gw τg pol L L' wr wp] [h : Op1 P L' B op pre τ u] [k : Run P B all ((d, wr τ) :: L) ops pre' es out rest] :
    Run P B all L (⟨some d,op,ty,pos,aft,some (j,pol)⟩ :: ops) (wp pre ∧ pre') (⟨d,wr τ,dj :: u⟩ :: es) out rest:=⟨.gcons hj.h hb.m g h k.r⟩
variable {W0 : World} {G0 : Gh} {N : Nat} {a : Act} {w : World} {G : Gh} {Q : Exit → Act → World → Prop}
theorem St.env (S : St W0 G0 N L B a w G) (u : List Nat) : Env L u a G:=fun t τ _ hm=>by
  obtain ⟨i,hi⟩:=List.mem_iff_getElem?.1 hm;exact S.ty i _ hi
theorem St.bok (S : St W0 G0 N L B a w G) (u : List Nat) : Bku B u W0 w G:=fun i x _ hi=>S.bx i _ hi
theorem St.mem (S : St W0 G0 N L B a w G) {t : Nat} {τ : MT} (hm : (t,τ) ∈ L) : τ.t (tm a t) G:=S.env [t] t τ (by simp) hm
def frs (N : Nat) : List Nat → List RE → Bool
  | _,[]=>true
  | ks,e :: es=>!ks.contains e.d && decide (e.d < N) && frs N (e.d :: ks) es
theorem fresh_of {d : Nat} {L : List (Nat × MT)} (h : (L.map (·.1)).contains d = false) : fresh d L = true:=by
  unfold fresh
  rw [List.all_eq_true]
  intro p hp
  simp only [bne_iff_ne,ne_eq]
  intro e
  have : (L.map (·.1)).contains d = true:=by simpa using ⟨p.2,by rw [← e];exact hp⟩
  rw [h] at this;cases this
theorem wantedV {o : Oper} (ho : o.guard = some (j,pol)) (hj : (all[j]?).bind (·.dst) = some dj) : (tm a dj = .bool pol → Region.wanted o (yielded all.toArray a.tmps) = true) ∧ (tm a dj ≠ .bool pol → Region.wanted o (yielded all.toArray a.tmps) = false):=by
  have key : Region.wanted o (yielded all.toArray a.tmps) = ((match a.tmps[dj]? with | some (Value.bool b)=>some b | x=>none) == some pol):=by simp [Region.wanted,ho,yielded,hj];rfl
  rw [key]
  rcases Nat.lt_or_ge dj a.tmps.size with h1 | h1
  · have e : tm a dj = a.tmps[dj]:=by simp [tm,h1]
    rw [e,Array.getElem?_eq_getElem h1]
    refine ⟨fun h=>by rw [h];simp,fun h=>?_⟩
    cases hv : a.tmps[dj] <;> rw [hv] at h <;> simp_all
  · have e : tm a dj = undef:=by simp [tm,Array.getElem?_eq_none h1]
    rw [e,Array.getElem?_eq_none h1]
    exact ⟨fun h=>by simp [undef] at h,fun _=>rfl⟩
theorem St.runI (R : RunI P B all L ops pre es out rest) : ∀ {a : Act} {w : World} {G : Gh},St W0 G0 N L B a w G → frs N (L.map (·.1)) es = true → pre → (∀ a w G,St W0 G0 N out B a w G → wpList P all.toArray Q rest a w) → wpList P all.toArray Q ops a w:=by
  induction R with
  | stop=>exact fun S _ _ K=>K _ _ _ S
  | cons h _ ih =>
    intro a w G S hf hp K
    simp only [frs,Bool.and_eq_true,Bool.not_eq_true',decide_eq_true_eq] at hf
    refine S.step (h.ok rfl S.ok (S.env _) (S.bok _) hp.1) rfl rfl (decide_eq_true hf.1.2) (fresh_of hf.1.1) fun a w G S=>ih S hf.2 hp.2 K
  | gcons hj hm g h _ ih =>
    intro a w G S hf hp K
    simp only [frs,Bool.and_eq_true,Bool.not_eq_true',decide_eq_true_eq] at hf
    refine wpList_step fun K' hK=>?_
    rcases g.h (S.mem hm) with ⟨h1,h2,h3,h4⟩ | ⟨h1,h2⟩
    · rw [if_pos ((wantedV rfl hj).1 h1)]
      refine h.ok rfl S.ok (h2 _ _ _ (S.env _)) (S.bok _) (h4 _ hp.1) Q K' fun v w' G' hv hn=>hK _ _ (ih (S.put hf.1.2 (fresh_of hf.1.1) (h3 _ _ _ hv) hn) hf.2 hp.2 K)
    · rw [if_neg (by rw [(wantedV rfl hj).2 h1];simp)]
      exact hK _ _ (ih (S.put (v:=undef) hf.1.2 (fresh_of hf.1.1) (h2 _ _) (Nxt.refl S.ok)) hf.2 hp.2 K)
theorem St.run (S : St W0 G0 N L B a w G) [R : Run P B all L ops pre es out rest] (hp : pre) (K : ∀ a w G,St W0 G0 N out B a w G → wpList P all.toArray Q rest a w) (hn : es.isEmpty = false:=by rfl) (hf : frs N (L.map (·.1)) es = true:=by rfl) : wpList P all.toArray Q ops a w :=
  St.runI R.r S hf hp K
end
end Go.Proofs.YtpbkcbnghhodiaaGreat
set_option linter.unusedVariables false
set_option linter.unusedSimpArgs false
namespace Go.Proofs.YtpbkcbnghhodiaaGreat
open Go.RowKit (Below)
section
variable {P : Program} {B : List BX} {all : List Oper} {L L0 : List (Nat × MT)} {ops : List Oper} {pre : Prop} {es : List RE} {out : List (Nat × MT)} {rest : List Oper}
variable {W0 : World} {G0 : Gh} {N : Nat} {a : Act} {w : World} {G : Gh} {Q : Exit → Act → World → Prop}
theorem OpG.gd {o : Oper} {j dj : Nat} {pol : Bool} {τ τg : MT} {L L' : List (Nat × MT)} {wr : MT → MT} {wp : Prop → Prop} (ho : o.guard = some (j,pol)) (hj : (all[j]?).bind (·.dst) = some dj) (g : Gw τg pol L L' wr wp) (he : τg.t (tm a dj) G) (h : (∀ u a G,Env L u a G → Env L' u a G) → (∀ p,wp p → p) → OpR P o a w G τ) : OpG P all.toArray o a w G (wr τ):=by
  rcases g.h he with ⟨h1,h2,h3,h4⟩ | ⟨h1,h2⟩
  · exact .inl ⟨(wantedV ho hj).1 h1,fun Q K hK=>h h2 h4 Q K fun v w' G' hv hn=>hK v w' G' (h3 _ _ _ hv) hn⟩
  · exact .inr ⟨(wantedV ho hj).2 h1,h2 _ _⟩
end
end Go.Proofs.YtpbkcbnghhodiaaGreat
set_option linter.unusedVariables false
set_option linter.unusedSimpArgs false
namespace Go.Proofs.YtpbkcbnghhodiaaGreat
open Go.RowKit (Below)
class ShN (fs : List (Option Nat × MT)) (n : Nat) : Prop where
  h : offs fs fs.length = n
theorem offs_cons {k : Option Nat} {τ : MT} {fs : List (Option Nat × MT)} : offs ((k,τ) :: fs) ((k,τ) :: fs).length = k.getD 1 + offs fs fs.length:=by simp [offs]
instance ShN.nil : ShN [] 0:=⟨rfl⟩
section
variable {fs : List (Option Nat × MT)} {n i : Nat} {τ τ' τ'' : MT} {k kt : Option Nat}
instance ShN.s1 [h : ShN fs n] : ShN ((none,τ) :: fs) (n + 1):=⟨by rw [offs_cons,h.h];simp;omega⟩
instance ShN.s2 [h : ShN fs n] : ShN ((some 2,τ) :: fs) (n + 2):=⟨by rw [offs_cons,h.h];simp;omega⟩
instance ShN.s3 [h : ShN fs n] : ShN ((some 3,τ) :: fs) (n + 3):=⟨by rw [offs_cons,h.h];simp;omega⟩
instance ShN.s4 [h : ShN fs n] : ShN ((some 4,τ) :: fs) (n + 4):=⟨by rw [offs_cons,h.h];simp;omega⟩
instance ShN.s5 [h : ShN fs n] : ShN ((some 5,τ) :: fs) (n + 5):=⟨by rw [offs_cons,h.h];simp;omega⟩
instance ShN.s6 [h : ShN fs n] : ShN ((some 6,τ) :: fs) (n + 6):=⟨by rw [offs_cons,h.h];simp;omega⟩
class ShK (τ : MT) (k : Option Nat) : Prop where
  h : ∀ {v : Value} {G : Gh},τ.t v G → Shaped k v
instance (priority:=500) ShK.of [h : Shp τ k] : ShK τ k:=⟨fun ht=>h.sh ht⟩
instance ShK.pts [h : ShN fs n] : ShK (PTS fs) (some n):=⟨fun ht=>PTS.shaped h.h ht⟩
instance (priority:=900) Prt.ptsw [h : ShN fs n] : Prt (PTS fs) 0 (some n) (PTS fs):=⟨fun ht _=>⟨_,PTS.shaped h.h ht,ht,fun j x hx=>by rw [Nat.zero_add];exact hx⟩⟩
class UpdL (fs : List (Option Nat × MT)) (i : Nat) (kt : Option Nat) (τ : MT) (fs' : outParam (List (Option Nat × MT))) : Prop where
  h : ∀ {us : List Value} {y : Value} {G : Gh},PF fs us G → Shaped kt y → τ.t y G → ∃ us',PF fs' us' G ∧ flat us' = (flat us).take i ++ y.cells.toList ++ (flat us).drop (i + kt.getD 1)
theorem PF.mk {u : Value} {us : List Value} {G : Gh} (hs : Shaped k u) (ht : τ.t u G) (h : PF fs us G) : PF ((k,τ) :: fs) (u :: us) G:=⟨by simp [h.1],fun i f x hf hx=>by
  cases i with
  | zero=>cases hf;cases hx;exact ⟨hs,ht⟩
  | succ i=>exact h.2 i f x hf hx⟩
theorem UpdL.skip {fs' : List (Option Nat × MT)} {j : Nat} (h : UpdL fs i kt τ fs') (e : j = i + k.getD 1) : UpdL ((k,τ') :: fs) j kt τ ((k,τ') :: fs'):=⟨fun hp hy hty=>by
  obtain ⟨u,us',rfl,hs,ht,hp'⟩:=hp.cons
  obtain ⟨us2,h1,h2⟩:=h.h hp' hy hty
  refine ⟨u :: us2,.mk hs ht h1,?_⟩
  have hsz : u.cells.toList.length = k.getD 1:=by simpa using shaped_size hs
  rw [flat_cns,flat_cns,h2,e,← hsz,Nat.add_comm i u.cells.toList.length,List.take_length_add_append,Nat.add_assoc,List.drop_length_add_append]
  simp only [List.append_assoc]⟩
instance UpdL.hd : UpdL ((k,τ') :: fs) 0 k τ ((k,τ) :: fs):=⟨fun {us y G} hp hy hty=>by
  obtain ⟨u,us',rfl,hs,ht,hp'⟩:=hp.cons
  refine ⟨y :: us',.mk hy hty hp',?_⟩
  have hsz : u.cells.toList.length = k.getD 1:=by simpa using shaped_size hs
  rw [flat_cns,flat_cns,Nat.zero_add,← hsz,List.drop_left]
  simp⟩
instance (priority:=500) UpdL.s1 {fs' : List (Option Nat × MT)} [h : UpdL fs i kt τ fs'] : UpdL ((none,τ') :: fs) (i + 1) kt τ ((none,τ') :: fs'):=h.skip rfl
instance (priority:=500) UpdL.s2 {fs' : List (Option Nat × MT)} [h : UpdL fs i kt τ fs'] : UpdL ((some 2,τ') :: fs) (i + 2) kt τ ((some 2,τ') :: fs'):=h.skip rfl
instance (priority:=500) UpdL.s3 {fs' : List (Option Nat × MT)} [h : UpdL fs i kt τ fs'] : UpdL ((some 3,τ') :: fs) (i + 3) kt τ ((some 3,τ') :: fs'):=h.skip rfl
instance (priority:=500) UpdL.s4 {fs' : List (Option Nat × MT)} [h : UpdL fs i kt τ fs'] : UpdL ((some 4,τ') :: fs) (i + 4) kt τ ((some 4,τ') :: fs'):=h.skip rfl
instance (priority:=500) UpdL.s6 {fs' : List (Option Nat × MT)} [h : UpdL fs i kt τ fs'] : UpdL ((some 6,τ') :: fs) (i + 6) kt τ ((some 6,τ') :: fs'):=h.skip rfl
class Upd (τb : MT) (i : Nat) (kt : Option Nat) (τ : MT) (τ' : outParam MT) : Prop where
  h : ∀ {cs : Array Value} {y : Value} {G : Gh},τb.t (.agg cs) G → Shaped kt y → τ.t y G → τ'.t (.agg (cs.toList.take i ++ y.cells.toList ++ cs.toList.drop (i + kt.getD 1)).toArray) G
instance Upd.pts {fs' : List (Option Nat × MT)} [h : UpdL fs i kt τ fs'] : Upd (PTS fs) i kt τ (PTS fs'):=⟨fun ht hy hty=>by
  obtain ⟨us,e,h1,h2⟩:=ht
  injection e with e
  obtain ⟨us',h3,h4⟩:=h.h ⟨h1,h2⟩ hy hty
  exact ⟨us',by rw [e,h4],h3.1,h3.2⟩⟩
end
class BSet (B : List BX) (b : Nat) (x : BX) (B' : outParam (List BX)) : Prop where
  h : ∃ i y,B[i]? = some y ∧ y.b = b ∧ B' = B.set i x
instance BSet.hd {B : List BX} {b : Nat} {ty : TypeId} {k : Option Nat} {τ : MT} {x : BX} : BSet (⟨b,ty,k,τ⟩ :: B) b x (x :: B):=⟨0,_,rfl,rfl,rfl⟩
instance (priority:=500) BSet.tl {y x : BX} {B B' : List BX} {b : Nat} [h : BSet B b x B'] : BSet (y :: B) b x (y :: B'):=⟨by
  obtain ⟨i,z,h1,h2,h3⟩:=h.h
  exact ⟨i + 1,z,h1,h2,by rw [h3];rfl⟩⟩
class Rm (L : List (Nat × MT)) (d : Nat) (L' : outParam (List (Nat × MT))) : Prop where
  h : ∀ p ∈ L',p ∈ L
instance Rm.nil {d : Nat} : Rm [] d []:=⟨fun _ h=>h⟩
instance Rm.hd {d : Nat} {τ : MT} {L L' : List (Nat × MT)} [h : Rm L d L'] : Rm ((d,τ) :: L) d L':=⟨fun p hp=>.tail _ (h.h p hp)⟩
instance (priority:=500) Rm.tl {d : Nat} {q : Nat × MT} {L L' : List (Nat × MT)} [h : Rm L d L'] : Rm (q :: L) d (q :: L'):=⟨fun p hp=>by
  rcases List.mem_cons.1 hp with e | e
  · exact e ▸ .head _
  · exact .tail _ (h.h p e)⟩
class Zer (P : Program) (t : TypeId) (k : outParam (Option Nat)) (τ : outParam MT) : Prop where
  h : ∃ z,(P.info? t).bind (·.zero) = some z ∧ Shaped k z ∧ ∀ G,τ.t z G
section
variable {P : Program} {B : List BX} {L L' : List (Nat × MT)} {d : Nat} {op : Op} {ty t : TypeId} {pos : String} {aft : Array Edge} {τ τ' τ'' τ1 τ2 τ3 : MT} {u : List Nat} {rest : List Oper} {all : Array Oper} {x y : Operand} {k kt : Option Nat}
variable {W0 : World} {G0 : Gh} {N : Nat} {a : Act} {w : World} {G : Gh} {Q : Exit → Act → World → Prop} {fn : Func}
theorem St.only (S : St W0 G0 N L B a w G) (h : ∀ p ∈ L',p ∈ L) : St W0 G0 N L' B a w G:=S.weak fun i p hi=>S.mem (h p (List.mem_of_getElem? hi))
theorem St.asg (S : St W0 G0 N L B a w G) [h : Opd L x τ u] [r : Rm L d L'] (K : ∀ a w G, St W0 G0 N ((d, τ) :: L') B a w G → wpList P all Q rest a w) (hf : fresh d L' = true := by rfl) (hN : (decide (d < N)) = true := by rfl) :
    wpList P all Q (⟨some d,.assign x,ty,pos,aft,none⟩ :: rest) a w :=
  (S.only r.h).step (OpR.asn S.ok rfl (h.h (S.env u))) rfl rfl hN hf fun a w G S=>K a w G S
theorem St.mvk (S : St W0 G0 N L B a w G) [h : Opd L x τ u] [r : Rm L d L'] (K : ∀ a w G, St W0 G0 N ((d, τ) :: L') B a w G → wpList P all Q rest a w) (hf : fresh d L' = true := by rfl) (hN : (decide (d < N)) = true := by rfl) :
    wpList P all Q (⟨some d,.move x,ty,pos,aft,none⟩ :: rest) a w :=
  (S.only r.h).step (OpR.mv S.ok rfl (h.h (S.env u))) rfl rfl hN hf fun a w G S=>K a w G S
theorem St.bx1 (S : St W0 G0 N L B a w G) [h : Opd L x τ u] [hk : TyS P t k] [hs : ShK τ k] (K : ∀ b a w G, St W0 G0 N ((d, PB b) :: L) (⟨b, t, k, τ⟩ :: B) a w G → wpList P all Q rest a w) (hf : fresh d L = true := by rfl) (hN : (decide (d < N)) = true := by rfl) :
    wpList P all Q (⟨some d,.box t x,ty,pos,aft,none⟩ :: rest) a w :=
  S.boxop (h.h (S.env u)) (hs.h (h.h (S.env u))) rfl rfl rfl hN hf K
theorem St.al (S : St W0 G0 N L B a w G) [hz : Zer P t k τ] (K : ∀ b a w G, St W0 G0 N ((d, PB b) :: L) (⟨b, t, k, τ⟩ :: B) a w G → wpList P all Q rest a w) (hf : fresh d L = true := by rfl) (hN : (decide (d < N)) = true := by rfl) :
    wpList P all Q (⟨some d,.alloc t,ty,pos,aft,none⟩ :: rest) a w:=by
  obtain ⟨z,h1,h2,h3⟩:=hz.h
  exact S.alloc rfl rfl rfl h1 h2 hN hf fun b a w G S=>K b a w G (S.castBox 0 rfl fun v hv _=>by cases hv;exact h3 G)
theorem BSet.at {b : Nat} {z : BX} {B' : List BX} (h : BSet B b z B') (S : St W0 G0 N L B a w G) {x0 : BX} {j : Nat} (hj : B[j]? = some x0) (hb : x0.b = b) : ∃ i,B[i]? = some x0 ∧ B' = B.set i z:=by
  obtain ⟨i,y,h1,h2,h3⟩:=h.h
  by_cases hij : i = j
  · subst hij;rw [h1] at hj;cases hj;exact ⟨i,h1,h3⟩
  · exact absurd (h2.trans hb.symm) (S.nd i j y x0 h1 hj hij)
theorem St.st (S : St W0 G0 N L B a w G) {b : Nat} {v : List Nat} {B' : List BX} [hx : Opd L x (PB b) u] {i0 : Nat} [hb : Bx B b i0 ty k τ'] [hT : TyS P t k] [hy : Opd L y τ v] [hs : ShK τ k] [hB : BSet B b ⟨b, ty, k, τ⟩ B'] (K : ∀ w, St W0 G0 N L B' a w G → wpList P all Q rest a w) {ty' : TypeId} :
    wpList P all Q (⟨none,.store t x y,ty',pos,aft,none⟩ :: rest) a w:=by
  obtain ⟨i,h1,h2⟩:=hB.at S hb.m rfl
  exact S.store i rfl rfl rfl h1 (hx.h (S.env u)) hT.h (hy.h (S.env v)) (hs.h (hy.h (S.env v))) fun w' S=>K w' (h2 ▸ S)
theorem St.stp (S : St W0 G0 N L B a w G) {b i n : Nat} {v : List Nat} {B' : List BX} [hx : Opd L x (.ex (.pointer (some ⟨b, i, none⟩))) u] {i0 : Nat} [hb : Bx B b i0 ty (some n) τ'] [hT : TyS P t kt] [hy : Opd L y τ v] [hs : ShK τ kt] [hu : Upd τ' i kt τ τ''] [hB : BSet B b ⟨b, ty, some n, τ''⟩ B'] (K : ∀ w, St W0 G0 N L B' a w G → wpList P all Q rest a w) (hn : i + kt.getD 1 ≤ n := by decide) {ty' : TypeId} :
    wpList P all Q (⟨none,.store t x y,ty',pos,aft,none⟩ :: rest) a w:=by
  obtain ⟨j,h1,h2⟩:=hB.at S hb.m rfl
  exact S.storeAt j rfl rfl rfl h1 (hx.h (S.env u)) hT.h (hs.h (hy.h (S.env v))) hn (fun cs _ hc=>hu.h hc (hs.h (hy.h (S.env v))) (hy.h (S.env v))) fun w' S=>K w' (h2 ▸ S)
theorem St.cd (S : St W0 G0 N L B a w G) {t : Nat} {p : Prop} [i : Decidable p] {c c' : Code} [h : Lk L t (BT (decide p))] (h1 : p → c.wp P Q a w) (h2 : ¬ p → c'.wp P Q a w) : (Code.cond (.tmp t) c c').wp P Q a w :=
  wp_cond_split (S.mem h.m) (fun e=>h1 (of_decide_eq_true e)) (fun e=>h2 (of_decide_eq_false e))
theorem St.cb (S : St W0 G0 N L B a w G) {t : Nat} {b : Bool} {c c' : Code} [h : Lk L t (BT b)] (h1 : b = true → c.wp P Q a w) (h2 : b = false → c'.wp P Q a w) : (Code.cond (.tmp t) c c').wp P Q a w :=
  wp_cond_split (S.mem h.m) h1 h2
class Cv (τ' τ : MT) (pre : outParam Prop) : Prop where
  h : pre → ∀ {v : Value} {G : Gh},τ'.t v G → τ.t v G
instance Cv.refl : Cv τ τ True:=⟨fun _ _ _ h=>h⟩
instance (priority:=800) Cv.b {b c : Bool} : Cv (BT b) (BT c) (b = c):=⟨fun e _ _ h=>e ▸ h⟩
instance (priority:=800) Cv.i {kd : IntKind} {m n : Int} : Cv (.ex (.int kd m)) (.ex (.int kd n)) (m = n):=⟨fun e _ _ h=>e ▸ h⟩
instance (priority:=800) Cv.e {t : TypeId} {m n : Int} : Cv (.ex (errV t m)) (.ex (errV t n)) (m = n):=⟨fun e _ _ h=>e ▸ h⟩
instance (priority:=800) Cv.e0 {t : TypeId} {n : Int} : Cv (.ex .nilIface) (.ex (errV t n)) (n = 0):=⟨fun e _ _ h=>by subst e;exact h⟩
instance (priority:=800) Cv.qc {m n : Nat} {x y : Rat} : Cv (QC m x) (QC n y) (m ≤ n ∧ x = y):=⟨fun e _ _ h=>QC.eq (QC.up h e.1) e.2⟩
instance (priority:=800) Cv.qv {m n : Nat} {x y : Rat} : Cv (QV m x) (QV n y) (m ≤ n ∧ x = y):=⟨fun e _ _ h=>QV.eq (QV.up h e.1) e.2⟩
instance (priority:=800) Cv.cv {m n : Nat} {x y : Rat} : Cv (QC m x) (QV n y) (m ≤ n ∧ x = y):=⟨fun e _ _ h=>QV.eq (QV.up (QC.toQV h) e.1) e.2⟩
instance (priority:=800) Cv.fx {m n : Nat} {r s : FR} : Cv (FX m r) (FX n s) (m ≤ n ∧ r = s):=⟨fun e _ _ h=>FX.eq (FX.up h e.1) e.2⟩
instance (priority:=800) Cv.fv {m n : Nat} {r : FR} {y : Rat} : Cv (FX m r) (QV n y) (m ≤ n ∧ r.val = y):=⟨fun e _ _ h=>QV.eq (QV.up (FX.toQV h) e.1) e.2⟩
instance (priority:=800) Cv.qf {m n : Nat} {x : Rat} {r : FR} : Cv (QC m x) (FX n r) (m ≤ n ∧ FR.of x = r):=⟨fun e _ _ h=>FX.eq (FX.up (QC.toFX h (one_le_of_lt x.den_nz h.1.2)) e.1) e.2⟩
class CvL (fs gs : List (Option Nat × MT)) (pre : outParam Prop) : Prop where
  h : pre → ∀ {us : List Value} {G : Gh},PF fs us G → PF gs us G
instance CvL.nil : CvL [] [] True:=⟨fun _ _ _ h=>h⟩
instance CvL.cons {fs gs : List (Option Nat × MT)} {p q : Prop} [h : Cv τ τ' p] [l : CvL fs gs q] : CvL ((k,τ) :: fs) ((k,τ') :: gs) (p ∧ q):=⟨fun e us G hp=>by
  obtain ⟨v,us',rfl,hs,ht,hp'⟩:=hp.cons
  exact .mk hs (h.h e.1 ht) (l.h e.2 hp')⟩
instance (priority:=800) Cv.pts {fs gs : List (Option Nat × MT)} {p : Prop} [h : CvL fs gs p] : Cv (PTS fs) (PTS gs) p:=⟨fun e v G hv=>by
  obtain ⟨us,e1,h1,h2⟩:=hv
  exact ⟨us,e1,h.h e ⟨h1,h2⟩⟩⟩
def rvRun (r : ResultVar) (tmps : Array Value) : Sem Value :=
  match r with
  | .tmp t=>pure (tmps.getD t undef)
  | .cell c t=>do loadVar t (← asAddr (tmps.getD c undef))
theorem results_rv (fn : Func) (tmps : Array Value) : results fn tmps = (do let vs ← fn.results.mapM (fun r=>rvRun r tmps);pure (if h : vs.size = 1 then vs[0] else .tuple vs)):=by
  unfold results
  congr 1
theorem rv_1 {fn : Func} {r : ResultVar} (hr : fn.results = #[r]) {tmps : Array Value} {P : Program} {w : World} {v : Value} (h : (rvRun r tmps).run P w = .ok v w) : (results fn tmps).run P w = .ok v w:=by
  rw [results_rv];simp [hr,h]
theorem rv_2 {fn : Func} {r r2 : ResultVar} (hr : fn.results = #[r,r2]) {tmps : Array Value} {P : Program} {w : World} {v v2 : Value} (h : (rvRun r tmps).run P w = .ok v w) (h2 : (rvRun r2 tmps).run P w = .ok v2 w) : (results fn tmps).run P w = .ok (.tuple #[v,v2]) w:=by
  rw [results_rv];simp [hr,h,h2]
theorem rv_3 {fn : Func} {r r2 r3 : ResultVar} (hr : fn.results = #[r,r2,r3]) {tmps : Array Value} {P : Program} {w : World} {v v2 v3 : Value} (h : (rvRun r tmps).run P w = .ok v w) (h2 : (rvRun r2 tmps).run P w = .ok v2 w) (h3 : (rvRun r3 tmps).run P w = .ok v3 w) : (results fn tmps).run P w = .ok (.tuple #[v,v2,v3]) w:=by
  rw [results_rv];simp [hr,h,h2,h3]
class Rs1 (P : Program) (L : List (Nat × MT)) (B : List BX) (r : ResultVar) (τ : outParam MT) : Prop where
  h : ∀ {a : Act} {w W0 : World} {G : Gh},(∀ u,Env L u a G) → (∀ u,Bku B u W0 w G) → ∃ v,τ.t v G ∧ (rvRun r a.tmps).run P w = .ok v w
instance Rs1.tmp {t : Nat} [h : Lk L t τ] : Rs1 P L B (.tmp t) τ:=⟨fun e _=>⟨_,e [t] t τ (by simp) h.m,rfl⟩⟩
instance Rs1.cell {c b i0 : Nat} [h : Lk L c (PB b)] [hb : Bx B b i0 ty k τ] [hT : TyS P t k] : Rs1 P L B (.cell c t) τ:=⟨fun {a w W0 G} e hB=>by
  obtain ⟨_,_,v,hv,hs,ht⟩:=hB [1000000 + i0] i0 _ (by simp) hb.m
  have h2 : a.tmps.getD c undef = .pointer (some ⟨b,0,none⟩):=e [c] c (PB b) (by simp) h.m
  refine ⟨v,ht,?_⟩
  have:=load_whole hT.h hv hs
  unfold rvRun;simp only [h2];simp [asAddr];exact this⟩
theorem St.rt1 (S : St W0 G0 N L B a w G) {r : ResultVar} {pre : Prop} (hr : fn.results = #[r]) [h : Rs1 P L B r τ'] [c : Cv τ' τ pre] (hp : pre) : bodyPost P fn (Ret W0 G0 τ) .ret a w:=by
  obtain ⟨v,h1,h2⟩:=h.h (fun u=>S.env u) (fun u=>S.bok u)
  exact bodyPost_ret (rv_1 hr h2) S.dfr ⟨v,G,rfl,c.h hp h1,S.nxt⟩
theorem St.rt2 (S : St W0 G0 N L B a w G) {r r2 : ResultVar} {pre pre2 : Prop} {ρ ρ2 : MT} (hr : fn.results = #[r,r2]) [h : Rs1 P L B r τ'] [c : Cv τ' ρ pre] [h2 : Rs1 P L B r2 τ''] [c2 : Cv τ'' ρ2 pre2] (hp : pre) (hp2 : pre2) : bodyPost P fn (Ret W0 G0 (.tup2 ρ ρ2)) .ret a w:=by
  obtain ⟨v,h1,e1⟩:=h.h (fun u=>S.env u) (fun u=>S.bok u)
  obtain ⟨v2,h3,e2⟩:=h2.h (fun u=>S.env u) (fun u=>S.bok u)
  exact bodyPost_ret (rv_2 hr e1 e2) S.dfr ⟨_,G,rfl,⟨v,v2,rfl,c.h hp h1,c2.h hp2 h3⟩,S.nxt⟩
theorem St.rt3 (S : St W0 G0 N L B a w G) {r r2 r3 : ResultVar} {pre pre2 pre3 : Prop} {ρ ρ2 ρ3 σ : MT} (hr : fn.results = #[r,r2,r3]) [h : Rs1 P L B r τ'] [c : Cv τ' ρ pre] [h2 : Rs1 P L B r2 τ''] [c2 : Cv τ'' ρ2 pre2] [h3 : Rs1 P L B r3 σ] [c3 : Cv σ ρ3 pre3] (hp : pre) (hp2 : pre2) (hp3 : pre3) : bodyPost P fn (Ret W0 G0 (.tup3 ρ ρ2 ρ3)) .ret a w:=by
  obtain ⟨v,h1,e1⟩:=h.h (fun u=>S.env u) (fun u=>S.bok u)
  obtain ⟨v2,h4,e2⟩:=h2.h (fun u=>S.env u) (fun u=>S.bok u)
  obtain ⟨v3,h5,e3⟩:=h3.h (fun u=>S.env u) (fun u=>S.bok u)
  exact bodyPost_ret (rv_3 hr e1 e2 e3) S.dfr ⟨_,G,rfl,⟨v,v2,v3,rfl,c.h hp h1,c2.h hp2 h4,c3.h hp3 h5⟩,S.nxt⟩
end
end Go.Proofs.YtpbkcbnghhodiaaGreat
namespace Go.Proofs.YtpbkcbnghhodiaaGreat
open Go.RowKit (Below)
def mixedF (x y d : Rat) : Int :=
  if x.num.sign = 0 ∨ x.num.sign = y.num.sign * d.num.sign then y.num.sign * d.num.sign
  else if y.num.sign * d.num.sign = 0 then x.num.sign
  else x.num.sign * cmpQ (x * x) (y * y * d)
def posR (r : FR) : Bool:=r.ok && decide (0 < r.val)
def insF (xs : List Rat) : Nat → List Nat → List Nat
  | 0,o=>o
  | k + 1,o=>if cmpQ (xs.getD (o.getD (k + 1) default) default) (xs.getD (o.getD k default) default) < 0 then insF xs k ((o.set (k + 1) (o.getD k default)).set k (o.getD (k + 1) default)) else o
def ordF (xs : List Rat) (i : Nat) (o : List Nat) : Nat → List Nat
  | 0=>o
  | n + 1=>ordF xs (i + 1) (insF xs i o) n
def orderF (xs : List Rat) : List Nat:=ordF xs 0 [0,1,2,3] 4
def lk (l : List FR) (j : Nat) : Rat:=(l.getD ((orderF (l.map FR.val)).getD j default) default).val
def closesF (p q r s : Rat) : Bool :=
  if mixedF (q + r - (p + s)) 2 (q * r) ≥ 0 then true
  else decide (mixedF ((q + r - (p + s)) * (q + r - (p + s)) + 4 * (q * r) - 4 * (p * s)) (4 * (q + r - (p + s))) (q * r) ≤ 0)
def chkF (l : List FR) : Int:=if l.all posR then if closesF (lk l 3) (lk l 0) (lk l 1) (lk l 2) then 0 else 16 else 3
theorem sg_mul_bd (u w : Int) : -9223372036854775808 ≤ u.sign * w.sign ∧ u.sign * w.sign ≤ 9223372036854775807:=by
  rcases sgn_cases u with ⟨_,h⟩ | ⟨_,h⟩ | ⟨_,h⟩ <;> rcases sgn_cases w with ⟨_,h'⟩ | ⟨_,h'⟩ | ⟨_,h'⟩ <;> rw [h,h'] <;> decide
theorem cmpQ_cases (x y : Rat) : cmpQ x y = -1 ∨ cmpQ x y = 0 ∨ cmpQ x y = 1:=by unfold cmpQ;split <;> (try split) <;> simp
theorem sg_cmp_bd (u : Int) (x y : Rat) : -9223372036854775808 ≤ u.sign * cmpQ x y ∧ u.sign * cmpQ x y ≤ 9223372036854775807:=by
  rcases sgn_cases u with ⟨_,h⟩ | ⟨_,h⟩ | ⟨_,h⟩ <;> rcases cmpQ_cases x y with h' | h' | h' <;> rw [h,h'] <;> decide
theorem rat_pos_iff {x : Rat} : 0 < x ↔ 0 < x.num:=by
  have h1:=@Rat.num_nonneg x;have h2:=@Rat.num_eq_zero x
  constructor
  · intro h;have h0 : 0 ≤ x:=by grind
    have h3:=h1.2 h0
    have : x.num ≠ 0:=fun e=>by have:=h2.1 e;grind
    omega
  · intro h;have : 0 ≤ x:=h1.1 (by omega)
    have : x ≠ 0:=fun e=>by have:=h2.2 e;omega
    grind
theorem posR_of {r : FR} (h : r.ok = true) (h2 : ¬ r.val.num.sign ≤ 0) : posR r = true:=by
  unfold posR
  have : 0 < r.val:=by rw [rat_pos_iff];have:=sgn_cases r.val.num;omega
  simp [h,this]
theorem posR_not1 {r : FR} (h : r.ok = false) : posR r = false:=by unfold posR;simp [h]
theorem posR_not2 {r : FR} (h2 : r.val.num.sign ≤ 0) : posR r = false:=by
  unfold posR
  have : ¬ 0 < r.val:=by rw [rat_pos_iff];have:=sgn_cases r.val.num;omega
  simp [this]
theorem all_snoc {α : Type} [Inhabited α] {l : List α} {p : α → Bool} {k : Nat} (hk : k < l.length) (h : (l.take k).all p = true) (h2 : p (l.getD k default) = true) : (l.take (k + 1)).all p = true:=by
  rw [List.take_succ_eq_append_getElem hk,List.all_append,h]
  rw [List.getD_eq_getElem?_getD,List.getElem?_eq_getElem hk] at h2
  simpa using h2
theorem all_not {α : Type} [Inhabited α] {l : List α} {p : α → Bool} {k : Nat} (hk : k < l.length) (h2 : p (l.getD k default) = false) : l.all p = false:=by
  rw [List.getD_eq_getElem?_getD,List.getElem?_eq_getElem hk] at h2
  cases h : l.all p with
  | false=>rfl
  | true=>rw [List.all_eq_true] at h;have:=h l[k] (by simp);simp at h2;rw [h2] at this;cases this
theorem all_end {α : Type} {l : List α} {p : α → Bool} {k : Nat} (hk : ¬ k < l.length) (h : (l.take k).all p = true) : l.all p = true:=by rwa [List.take_of_length_le (by omega)] at h
theorem insF_len {xs : List Rat} {k : Nat} {o : List Nat} : (insF xs k o).length = o.length:=by
  induction k generalizing o with
  | zero=>rfl
  | succ k ih => unfold insF; split
                 · rw [ih];simp
                 · rfl
theorem insF_lt {xs : List Rat} {k n : Nat} {o : List Nat} (h : ∀ x ∈ o,x < n) (hn : 0 < n) : ∀ x ∈ insF xs k o,x < n:=by
  induction k generalizing o with
  | zero=>exact h
  | succ k ih =>
    unfold insF;split
    · refine ih fun x hx=>?_
      have hg : ∀ j,o.getD j default < n:=fun j=>by
        rw [List.getD_eq_getElem?_getD]
        cases hj : o[j]? with
        | none=>exact hn
        | some z=>exact h z (List.mem_of_getElem? hj)
      rcases List.mem_or_eq_of_mem_set hx with h1 | h1
      · rcases List.mem_or_eq_of_mem_set h1 with h2 | h2
        · exact h x h2
        · rw [h2];exact hg _
      · rw [h1];exact hg _
    · exact h
theorem ordF_lt {xs : List Rat} {i m n : Nat} {o : List Nat} (h : ∀ x ∈ o,x < n) (hn : 0 < n) : (∀ x ∈ ordF xs i o m,x < n) ∧ (ordF xs i o m).length = o.length:=by
  induction m generalizing i o with
  | zero=>exact ⟨h,rfl⟩
  | succ m ih=>unfold ordF;have:=ih (i:=i + 1) (o:=insF xs i o) (insF_lt h hn);rw [insF_len] at this;exact this
theorem getD_lt {o : List Nat} {n j : Nat} (h : ∀ x ∈ o,x < n) (hn : 0 < n) : o.getD j default < n:=by
  rw [List.getD_eq_getElem?_getD]
  cases hj : o[j]? with
  | none=>exact hn
  | some z=>exact h z (List.mem_of_getElem? hj)
theorem orderF_lt (xs : List Rat) (j : Nat) : (orderF xs).getD j default < 4:=getD_lt (ordF_lt (n:=4) (by decide) (by decide)).1 (by decide)
theorem orderF_len (xs : List Rat) : (orderF xs).length = 4:=(ordF_lt (n:=4) (by decide) (by decide)).2
theorem errV_eql {t : TypeId} {n : Int} : nilB (errV t n) = decide (n = 0):=by unfold errV;split <;> simp_all [nilB]
theorem errV_ne {t : TypeId} {n : Int} {k : Nat} (e : n = (k : Int)) (h : k ≠ 0) : Value.iface t (nv .i64 k) = errV t n:=err_is e h
theorem errV_z {t : TypeId} {n : Int} (e : n = 0) : Value.nilIface = errV t n:=err_no e
theorem swap_lt {o : List Nat} {k : Nat} (h : ∀ x ∈ o,x < 4) : ∀ x ∈ (o.set k (o.getD (k - 1) default)).set (k - 1) (o.getD k default),x < 4:=fun x hx=>by
  rcases List.mem_or_eq_of_mem_set hx with h1 | h1
  · rcases List.mem_or_eq_of_mem_set h1 with h2 | h2
    · exact h x h2
    · rw [h2];exact getD_lt h (by decide)
  · rw [h1];exact getD_lt h (by decide)
theorem ins_step {xs : List Rat} {k : Nat} {q r : List Nat} (hk : 0 < k) (hc : cmpQ (xs.getD (q.getD k default) default) (xs.getD (q.getD (k - 1) default) default) < 0) (h : insF xs k q = r) : insF xs (k - 1) ((q.set k (q.getD (k - 1) default)).set (k - 1) (q.getD k default)) = r:=by
  obtain ⟨j,rfl⟩ : ∃ j,k = j + 1:=⟨k - 1,by omega⟩
  rw [insF] at h
  rw [Nat.add_sub_cancel] at hc ⊢
  rw [if_pos hc] at h
  exact h
theorem ins_end0 {xs : List Rat} {k : Nat} {q r : List Nat} (hk : ¬ 0 < k) (h : insF xs k q = r) : q = r:=by
  obtain rfl : k = 0:=by omega
  exact h
theorem ins_end1 {xs : List Rat} {k : Nat} {q r : List Nat} (hk : 0 < k) (hc : ¬ cmpQ (xs.getD (q.getD k default) default) (xs.getD (q.getD (k - 1) default) default) < 0) (h : insF xs k q = r) : q = r:=by
  obtain ⟨j,rfl⟩ : ∃ j,k = j + 1:=⟨k - 1,by omega⟩
  rw [insF] at h
  rw [Nat.add_sub_cancel] at hc
  rw [if_neg hc] at h
  exact h
theorem ord_next {xs : List Rat} {i : Nat} {o q r : List Nat} (hi : i < 4) (h : ordF xs i o (4 - i) = r) (hq : q = insF xs i o) : ordF xs (i + 1) q (4 - (i + 1)) = r:=by
  rw [show 4 - i = (4 - (i + 1)) + 1 from by omega,ordF,← hq] at h
  exact h
theorem chk3 {l : List FR} (h : l.all posR = false) : chkF l = ((3 : Nat) : Int):=by unfold chkF;rw [h];rfl
theorem chk0 {l : List FR} (h : l.all posR = true) (h2 : closesF (lk l 3) (lk l 0) (lk l 1) (lk l 2) = true) : chkF l = 0:=by unfold chkF;rw [h,h2];rfl
theorem chk16 {l : List FR} (h : l.all posR = true) (h2 : closesF (lk l 3) (lk l 0) (lk l 1) (lk l 2) = false) : chkF l = ((16 : Nat) : Int):=by unfold chkF;rw [h,h2];rfl
end Go.Proofs.YtpbkcbnghhodiaaGreat
namespace Go.Proofs.YtpbkcbnghhodiaaGreat
open Go.RowKit (Below)
def LSC (k : Option Nat) (τs : List MT) : MT:=⟨fun v G=>(LS k τs).t v G ∧ ∃ b,v = .slice (some b) τs.length τs.length,fun hle ⟨h,h2⟩=>⟨(LS k τs).mono hle h,h2⟩⟩
theorem LSC.ls {k : Option Nat} {τs : List MT} {v : Value} {G : Gh} (h : (LSC k τs).t v G) : (LS k τs).t v G:=h.1
section
variable {P : Program} {o : Oper} {a : Act} {w : World} {G : Gh} {e : TypeId} {k : Option Nat} {τs σs : List MT}
theorem OpR.buildSC {t bytes n : Nat} {z : Value} {ps : Array (Nat × Operand)} {us : List Value} (hok : Gok w G) (ho : o.op = .buildSlice t n ps) (ht : P.underlying t = some (.slice e)) (he : elS P e (k.getD 1) bytes z) (hk : (decide (0 < k.getD 1)) = true) (hn : n * k.getD 1 ≤ 16777216) (hn0 : 0 < n)
    (hps : (ps.map fun (i,x)=>(i,a.eval x)).toList = (us.zipIdx 0).map fun x=>(x.2,x.1)) (hl : us.length = n) (hE : Els k τs us G) : OpR P o a w G (LSC k τs):=by
  obtain ⟨i,hi,h1,h2,h3⟩:=elS_of he
  have hk:=of_decide_eq_true hk
  have hsz:=hE.sizes
  have hfill:=Great.fill_whole (s:=k.getD 1) hk us ((Array.range (n * i.size)).map (z.cells[· % z.cells.size]!)) hsz (by simp [hl,h1])
  rw [← h1] at hfill
  have hps2 : (ps.map fun (i,x)=>(i,a.eval x)) = ((us.zipIdx 0).map fun x=>(x.2,x.1)).toArray:=by rw [← hps]
  have hb:=run_buildSlice (P:=P) w t e n ((us.zipIdx 0).map fun x=>(x.2,x.1)).toArray (us.flatMap fun v=>v.cells.toList).toArray i z ht hi h3 (by rw [h1];omega) (by rw [h1];have:=Nat.mul_pos hn0 hk;omega) (by simpa using hfill)
  refine .run' (w':=w.alloc (.cells (flat us ++ []).toArray e)) (G':=Gput G w.heap.size (.cells (flat us ++ []).toArray e)) (v:=.slice (some ⟨w.heap.size,0,none⟩) n n) ?_ (Nxt.allocPut hok _) ?_
  · rw [List.append_nil]
    simp only [execOp,ho,Sem.run_bind,hps2]
    rw [hb];rfl
  · have hle:=(Nxt.allocPut (w:=w) hok (.cells (flat us ++ []).toArray e)).le
    have hlen : n = τs.length:=by rw [← hl,hE.1]
    subst hlen
    refine ⟨LS.of_vals rfl (Nat.le_refl _) ?_ (hE.mono hle) (Lies.block (rest:=[]) (ty:=e) (fr:=(0,0)) hsz (by simp [Gput])),_,rfl⟩
    have : τs.length * 1 ≤ τs.length * k.getD 1:=Nat.mul_le_mul_left _ hk
    simp only [LIM];omega
end
end Go.Proofs.YtpbkcbnghhodiaaGreat
set_option linter.unusedVariables false
set_option linter.unusedSimpArgs false
namespace Go.Proofs.YtpbkcbnghhodiaaGreat
open Go.RowKit (Below)
structure ZE where
  k : Option Nat
  z : Value
  τ : MT
class ZV (e : ZE) : Prop where
  s : Shaped e.k e.z
  t : ∀ G,e.τ.t e.z G
class ZVL (zs : List ZE) : Prop where
  h : ∀ e ∈ zs,ZV e
instance ZVL.nil : ZVL []:=⟨fun _ h=>by simp at h⟩
instance ZVL.cons {e : ZE} {zs : List ZE} [h : ZV e] [k : ZVL zs] : ZVL (e :: zs):=⟨fun x hx=>by
  rcases List.mem_cons.1 hx with rfl | hx
  · exact h
  · exact k.h x hx⟩
instance ZV.b : ZV ⟨none,.bool false,BT false⟩:=⟨⟨rfl,rfl⟩,fun _=>rfl⟩
instance ZV.i {k : IntKind} : ZV ⟨none,.int k 0,.ex (.int k 0)⟩:=⟨⟨rfl,rfl⟩,fun _=>rfl⟩
instance ZV.sl : ZV ⟨none,.slice none 0 0,.ex (.slice none 0 0)⟩:=⟨⟨rfl,rfl⟩,fun _=>rfl⟩
instance ZV.n : ZV ⟨none,.nilIface,.ex .nilIface⟩:=⟨⟨rfl,rfl⟩,fun _=>rfl⟩
instance ZV.q : ZV ⟨some 3,.agg #[.bool false,.slice none 0 0,.slice none 0 0],FX 1 default⟩:=⟨⟨_,rfl,rfl,by simp [Value.oneCell']⟩,fun _=>zero_FX (Nat.le_refl _)⟩
theorem ZV.pts {n : Nat} {z : Array Value} (zs : List ZE) (h : ZVL zs) (hz : z = (flat (zs.map (·.z))).toArray) (hn : z.size = n) (h1 : (z.toList.all (·.oneCell')) = true) : ZV ⟨some n,.agg z,PTS (zs.map fun e=>(e.k,e.τ))⟩ :=
  ⟨⟨z,rfl,hn,fun c hc=>List.all_eq_true.1 h1 c hc⟩,fun G=>⟨zs.map (·.z),by rw [hz],by simp,fun i f u hf hu=>by
    rw [List.getElem?_map] at hf hu
    cases he : zs[i]? with
    | none=>rw [he] at hf;cases hf
    | some e =>
      rw [he] at hf hu;cases hf;cases hu
      have:=h.h e (List.mem_of_getElem? he)
      exact ⟨this.s,this.t G⟩⟩⟩
theorem Zer.of {P : Program} {t : TypeId} (e : ZE) [h : ZV e] (hz : (P.info? t).bind (·.zero) = some e.z) : Zer P t e.k e.τ:=⟨_,hz,h.s,h.t⟩
def plc : Nat → List (Option Nat) → List (Nat × Nat)
  | _,[]=>[]
  | o,k :: ks=>(o,k.getD 1) :: plc (o + k.getD 1) ks
class ZFl (P : Program) (t : TypeId) (zs : outParam (List ZE)) : Prop where
  z : ((P.info? t).bind (·.zero)).map (·.cells) = some (flat (zs.map (·.z))).toArray
  p : (match P.underlying t with | some (.struct fs)=>fs.toList.mapM (fun f=>(P.info? f.type).map fun i=>(f.offset,i.size)) | _=>none) = some (plc 0 (zs.map (·.k)))
  h : ZVL zs
theorem built_eq {P : Program} {t : TypeId} {ps : List (Nat × Value)} {cs : Array Value} {pl : List (Nat × Nat)} (h1 : ((P.info? t).bind (·.zero)).map (·.cells) = some cs)
    (h2 : (match P.underlying t with | some (.struct fs)=>fs.toList.mapM (fun f=>(P.info? f.type).map fun i=>(f.offset,i.size)) | _=>none) = some pl) : P.built t ps = Instr.fill (pl.toArray[·]?) cs ps:=by
  unfold Program.built
  cases hi : P.info? t with
  | none=>rw [hi] at h1;cases h1
  | some it =>
    rw [hi] at h1
    cases hz : it.zero with
    | none=>simp [hz] at h1
    | some z =>
      simp [hz] at h1
      cases hu : P.underlying t with
      | none=>rw [hu] at h2;cases h2
      | some d =>
        rw [hu] at h2
        cases d <;> simp at h2
        simp only [hz,List.getElem?_toArray]
        simp [h2,h1]
theorem plc_get : ∀ {ks : List (Option Nat)} {o i : Nat} {k : Option Nat},ks[i]? = some k → (plc o ks)[i]? = some (o + ((ks.take i).map (·.getD 1)).sum,k.getD 1)
  | [],_,_,_,h=>by simp at h
  | k0 :: ks,o,0,k,h=>by cases h;simp [plc]
  | k0 :: ks,o,i + 1,k,h=>by
    have:=plc_get (ks:=ks) (o:=o + k0.getD 1) (i:=i) (k:=k) h
    simp only [plc,List.getElem?_cons_succ,this,List.take_succ_cons,List.map_cons,List.sum_cons]
    rw [Nat.add_assoc]
theorem fill_set {l1 l2 : List Value} {z v : Value} {n : Nat} (hz : z.cells.size = n) (hv : v.cells.size = n) :
    v.cells.zipIdx.foldl (fun cs (x : Value × Nat)=>cs.setIfInBounds ((flat l1).length + x.2) x.1) (flat (l1 ++ z :: l2)).toArray = (flat (l1 ++ v :: l2)).toArray:=by
  have e : ∀ u : Value,flat (l1 ++ u :: l2) = flat l1 ++ (u.cells.toList ++ flat l2):=fun u=>by simp [flat]
  rw [← Array.foldl_toList,Array.toList_zipIdx]
  obtain ⟨h1,h2⟩:=Great.foldl_set (flat l1).length v.cells.toList 0 (flat (l1 ++ z :: l2)).toArray
  apply Array.ext_getElem?
  intro k
  rw [h2 k,e,e]
  simp only [Nat.add_zero,Array.length_toList,hv,List.getElem?_toArray,List.size_toArray,List.length_append]
  have hz' : z.cells.toList.length = n:=by simpa using hz
  have hv' : v.cells.toList.length = n:=by simpa using hv
  by_cases hk : k < (flat l1).length
  · rw [if_neg (by omega),List.getElem?_append_left hk,List.getElem?_append_left hk]
  · have e2 : (flat l1 ++ (v.cells.toList ++ flat l2))[k]? = (v.cells.toList ++ flat l2)[k - (flat l1).length]?:=List.getElem?_append_right (by omega)
    rw [e2]
    by_cases hk2 : k < (flat l1).length + n
    · rw [if_pos (by omega),List.getElem?_append_left (by omega)]
    · rw [if_neg (by omega),List.getElem?_append_right (by omega),List.getElem?_append_right (by omega),List.getElem?_append_right (by omega),hz',hv']
class BldL (L : List (Nat × MT)) (zs : List ZE) (i : Nat) (ps : List (Nat × Operand)) (fs : outParam (List (Option Nat × MT))) (u : outParam (List Nat)) : Prop where
  h : ∀ {a : Act} {G : Gh} {ks : List (Option Nat)} {l : List Value} {pl : List (Nat × Nat)},Env L u a G → ZVL zs → l.length = i → ks.length = i → (∀ (j : Nat) (k : Option Nat) (x : Value),ks[j]? = some k → l[j]? = some x → Shaped k x) → pl = plc 0 (ks ++ zs.map (·.k)) →
    ∃ us,PF fs us G ∧ Instr.fill (pl.toArray[·]?) (flat (l ++ zs.map (·.z))).toArray (ps.map fun p=>(p.1,a.eval p.2)) = some (flat (l ++ us)).toArray
section
variable {L : List (Nat × MT)} {zs : List ZE} {i : Nat} {ps : List (Nat × Operand)} {fs : List (Option Nat × MT)} {u v : List Nat} {x : Operand} {τ : MT} {e : ZE} {P : Program} {B : List BX} {t : TypeId}
instance BldL.nil : BldL L [] i [] [] []:=⟨fun {a G ks l pl} _ _ _ _ _ _=>⟨[],⟨rfl,fun i f u h=>by simp at h⟩,rfl⟩⟩
theorem snoc_shp {ks : List (Option Nat)} {l : List Value} {k : Option Nat} {x : Value} (hl : l.length = i) (hk : ks.length = i) (h : ∀ (j : Nat) (k : Option Nat) (x : Value), ks[j]? = some k → l[j]? = some x → Shaped k x) (hs : Shaped k x) :
    ∀ (j : Nat) (k' : Option Nat) (x' : Value),(ks ++ [k])[j]? = some k' → (l ++ [x])[j]? = some x' → Shaped k' x':=fun j k' x' h1 h2=>by
  by_cases hj : j < i
  · rw [List.getElem?_append_left (by omega)] at h1 h2;exact h j k' x' h1 h2
  · rw [List.getElem?_append_right (by omega)] at h1 h2
    rw [hk] at h1;rw [hl] at h2
    cases hd : j - i with
    | zero=>rw [hd] at h1 h2;cases h1;cases h2;exact hs
    | succ m=>rw [hd] at h1;cases h1
instance (priority:=500) BldL.skip {k0 : Option Nat} {z0 : Value} {τ0 : MT} [k : BldL L zs (i + 1) ps fs u] : BldL L (⟨k0,z0,τ0⟩ :: zs) i ps ((k0,τ0) :: fs) u:=⟨fun {a G ks l pl} hE hz hl hk hs hp=>by
  have he : ZV ⟨k0,z0,τ0⟩:=hz.h _ (.head _)
  obtain ⟨us,h1,h2⟩:=k.h (ks:=ks ++ [k0]) (l:=l ++ [z0]) (pl:=pl) hE ⟨fun x hx=>hz.h x (.tail _ hx)⟩ (by simp [hl]) (by simp [hk]) (snoc_shp hl hk hs he.s) (by rw [hp];simp)
  exact ⟨z0 :: us,.mk he.s (he.t G) h1,by simpa using h2⟩⟩
theorem flat_lenS : ∀ {ks : List (Option Nat)} {l : List Value},ks.length = l.length → (∀ (j : Nat) (k : Option Nat) (x : Value),ks[j]? = some k → l[j]? = some x → Shaped k x) → (flat l).length = (ks.map (·.getD 1)).sum
  | [],[],_,_=>rfl
  | k :: ks,x :: l,h,hs=>by
    rw [flat_cns,List.length_append,List.map_cons,List.sum_cons,flat_lenS (by simpa using h) fun j k' x' h1 h2=>hs (j + 1) k' x' h1 h2]
    have:=shaped_size (hs 0 k x rfl rfl)
    simp [this]
instance BldL.take {k0 : Option Nat} {z0 : Value} {τ0 : MT} [h : Opd L x τ u] [sh : ShK τ k0] [k : BldL L zs (i + 1) ps fs v] : BldL L (⟨k0,z0,τ0⟩ :: zs) i ((i,x) :: ps) ((k0,τ) :: fs) (u ++ v):=⟨fun {a G ks l pl} hE hz hl hk hs hp=>by
  have he : ZV ⟨k0,z0,τ0⟩:=hz.h _ (.head _)
  have hx:=h.h hE.l
  have hxs:=sh.h hx
  obtain ⟨us,h1,h2⟩:=k.h (ks:=ks ++ [k0]) (l:=l ++ [a.eval x]) (pl:=pl) hE.r ⟨fun x hx=>hz.h x (.tail _ hx)⟩ (by simp [hl]) (by simp [hk]) (snoc_shp hl hk hs hxs) (by rw [hp];simp)
  refine ⟨a.eval x :: us,.mk hxs hx h1,?_⟩
  have hpl : pl.toArray[i]? = some ((flat l).length,k0.getD 1):=by
    have:=plc_get (ks:=ks ++ ((⟨k0,z0,τ0⟩ : ZE) :: zs).map (·.k)) (o:=0) (i:=i) (k:=k0) (by rw [List.getElem?_append_right (by omega),hk];simp)
    rw [hp]
    simp only [List.getElem?_toArray,this]
    rw [flat_lenS (hk.trans hl.symm) hs]
    rw [show i = ks.length from hk.symm,List.take_left,Nat.zero_add]
  simp only [List.map_cons]
  rw [Instr.fill,hpl]
  simp only [shaped_size hxs]
  have hle : (flat l).length + k0.getD 1 ≤ (flat (l ++ z0 :: List.map (fun x=>x.z) zs)).length:=by
    have : flat (l ++ z0 :: zs.map (·.z)) = flat l ++ (z0.cells.toList ++ flat (zs.map (·.z))):=by simp [flat]
    rw [this]
    have:=shaped_size he.s
    simp [this]
  rw [if_neg (by simp;omega),fill_set (shaped_size he.s) (shaped_size hxs)]
  simpa using h2⟩
instance Op1.bld {ps : List (Nat × Operand)} [z : ZFl P t zs] [k : BldL L zs 0 ps fs u] : Op1 P L B (.build t ps.toArray) True (PTS fs) u:=⟨fun {W0 w a G o} ho hok e _ _=>by
  obtain ⟨us,h1,h2⟩:=k.h (ks:=[]) (l:=[]) (pl:=plc 0 (zs.map (·.k))) e z.h rfl rfl (fun j k x h=>by simp at h) rfl
  refine .bldP hok ho (us:=us) ?_ h1.1 h1.2
  have : ((ps.toArray.map fun (i,x)=>(i,a.eval x)).toList : List (Nat × Value)) = ps.map fun p=>(p.1,a.eval p.2):=by simp only [List.map_toArray]
  rw [this,built_eq z.z z.p]
  simpa using h2⟩
class BZ (P : Program) (t : TypeId) (τ : outParam MT) : Prop where
  h : ∃ cs,P.built t [] = some cs ∧ ∀ G,τ.t (.agg cs) G
instance Op1.bz {τ : MT} {P : Program} {B : List BX} {L : List (Nat × MT)} {t : TypeId} [z : BZ P t τ] : Op1 P L B (.build t (List.toArray [])) True τ []:=⟨fun ho hok e _ _=>by
  obtain ⟨cs,h1,h2⟩:=z.h
  exact .bld hok ho (by simpa using h1) (h2 _)⟩
class SlE (P : Program) (t : TypeId) (k : outParam (Option Nat)) : Prop where
  h : ∃ e,P.underlying t = some (.slice e) ∧ tyS P e k = true
theorem SlE.of {P : Program} {t : TypeId} {k : Option Nat} (e : TypeId) (h1 : P.underlying t = some (.slice e)) (h2 : tyS P e k = true) : SlE P t k:=⟨e,h1,h2⟩
class ElS (P : Program) (t : TypeId) (e : outParam TypeId) (k : outParam (Option Nat)) (bytes : outParam Nat) (z : outParam Value) : Prop where
  h1 : P.underlying t = some (.slice e)
  h2 : elS P e (k.getD 1) bytes z
  h3 : (decide (0 < k.getD 1)) = true
class AsLS (τ : MT) (k : Option Nat) (τs : outParam (List MT)) : Prop where
  h : ∀ {v : Value} {G : Gh},τ.t v G → (LS k τs).t v G
instance AsLS.l {k : Option Nat} {τs : List MT} : AsLS (LS k τs) k τs:=⟨fun h=>h⟩
instance AsLS.c {k : Option Nat} {τs : List MT} : AsLS (LSC k τs) k τs:=⟨fun h=>h.1⟩
instance AsLS.n {k : Option Nat} : AsLS (.ex (.slice none 0 0)) k []:=⟨fun h=>by cases h;exact ⟨none,0,rfl,Nat.le_refl _,Nat.zero_le _,fun i τ h=>by simp at h⟩⟩
class AsT {α : Type} (τ : MT) (T : α → MT) (x : outParam α) : Prop where
  h : ∀ {v : Value} {G : Gh},τ.t v G → (T x).t v G
class AsTL {α : Type} (τs : List MT) (T : α → MT) (xs : outParam (List α)) : Prop where
  h : τs.length = xs.length ∧ ∀ (i : Nat) (τ : MT),τs[i]? = some τ → ∃ x,xs[i]? = some x ∧ ∀ {v : Value} {G : Gh},τ.t v G → (T x).t v G
instance AsTL.m {α : Type} {T : α → MT} {xs : List α} : AsTL (xs.map T) T xs:=⟨by simp,fun i τ h=>by
  rw [List.getElem?_map] at h
  cases hx : xs[i]? with
  | none=>rw [hx] at h;cases h
  | some x=>rw [hx] at h;cases h;exact ⟨x,rfl,fun h=>h⟩⟩
instance AsTL.nil {α : Type} {T : α → MT} : AsTL [] T []:=⟨rfl,fun i τ h=>by simp at h⟩
instance AsTL.cons {α : Type} {T : α → MT} {τ : MT} {τs : List MT} {x : α} {xs : List α} [h : AsT τ T x] [l : AsTL τs T xs] : AsTL (τ :: τs) T (x :: xs):=⟨by simp [l.h.1],fun i σ hi=>by
  cases i with
  | zero=>cases hi;exact ⟨x,rfl,h.h⟩
  | succ i=>exact l.h.2 i σ (by simpa using hi)⟩
theorem Elt.cv {k : Option Nat} {τ τ' : MT} {G : Gh} {b i : Nat} (h : Elt k τ G b i) (f : ∀ {v : Value},τ.t v G → τ'.t v G) : Elt k τ' G b i:=by
  cases k with
  | none=>obtain ⟨u,h1,h2,h3⟩:=h;exact ⟨u,h1,f h2,h3⟩
  | some n=>obtain ⟨cs,h1,h2,h3,h4⟩:=h;exact ⟨cs,h1,h2,f h3,h4⟩
theorem AsTL.ls {α : Type} {T : α → MT} {τs : List MT} {xs : List α} (l : AsTL τs T xs) {k : Option Nat} {v : Value} {G : Gh} (h : (LS k τs).t v G) : (LS k (xs.map T)).t v G:=by
  obtain ⟨A,c,h1,h2,h3,h4⟩:=h
  obtain ⟨l1,l2⟩:=l.h
  refine ⟨A,c,by rw [h1,List.length_map,l1],by rw [List.length_map,← l1];exact h2,by rw [List.length_map,← l1];exact h3,fun i σ hi=>?_⟩
  rw [List.getElem?_map] at hi
  cases hx : xs[i]? with
  | none=>rw [hx] at hi;cases hi
  | some x =>
    rw [hx] at hi;cases hi
    have hlt : i < τs.length:=by rw [l1];exact (List.getElem?_eq_some_iff.1 hx).1
    have hτ : τs[i]? = some τs[i]:=List.getElem?_eq_getElem hlt
    obtain ⟨x',e1,e2⟩:=l2 i _ hτ
    rw [hx] at e1;cases e1
    obtain ⟨b,off,e3,e4⟩:=h4 i _ hτ
    exact ⟨b,off,e3,e4.cv e2⟩
instance (priority:=800) Prt.cir {x : Bool × Bool × Int} {i : Nat} {kt : Option Nat} {τ : MT} [h : PrtL [(none,BT x.1),(none,BT x.2.1),(none,IT x.2.2)] i kt τ] : Prt (CIR x) i kt τ:=(inferInstance : Prt (PTS [(none,BT x.1),(none,BT x.2.1),(none,IT x.2.2)]) i kt τ)
instance {a b : Bool} {z : Int} : AsT (PTS [(none,BT a),(none,BT b),(none,IT z)]) CIR (a,b,z):=⟨fun h=>h⟩
instance {n : Nat} {r : FR} : AsT (FX n r) (FX n) r:=⟨fun h=>h⟩
instance {n : Nat} {x : Rat} : AsT (QC n x) (QC n) x:=⟨fun h=>h⟩
instance {n : Nat} {x : Rat} : AsT (QV n x) (QV n) x:=⟨fun h=>h⟩
instance {z : Int} : AsT (IT z) (fun z=>IT z) z:=⟨fun h=>h⟩
instance (priority:=800) Cv.lc {k : Option Nat} {τs : List MT} {α : Type} {T : α → MT} {xs ys : List α} [h : AsTL τs T xs] : Cv (LSC k τs) (LS k (ys.map T)) (xs = ys):=⟨fun e v G hv=>by
  subst e;exact h.ls hv.1⟩
instance (priority:=800) Cv.ll {k : Option Nat} {τs : List MT} {α : Type} {T : α → MT} {xs ys : List α} [h : AsTL τs T xs] : Cv (LS k τs) (LS k (ys.map T)) (xs = ys):=⟨fun e v G hv=>by
  subst e;exact h.ls hv⟩
instance (priority:=800) Cv.ln {k : Option Nat} {α : Type} {T : α → MT} {ys : List α} : Cv (.ex (.slice none 0 0)) (LS k (ys.map T)) (ys = []):=⟨fun e v G hv=>by
  cases hv;subst e;exact LS.nil⟩
class AsLM {α : Type} (τ : MT) (k : Option Nat) (T : α → MT) (xs : outParam (List α)) : Prop where
  h : ∀ {v : Value} {G : Gh},τ.t v G → (LS k (xs.map T)).t v G
class SlL (L : List (Nat × MT)) (i n : Nat) (ps : List (Nat × Operand)) (k : Option Nat) (τs : outParam (List MT)) (u : outParam (List Nat)) : Prop where
  h : i + ps.length = n ∧ ∀ {a : Act} {G : Gh},Env L u a G → ∃ us,us.length = ps.length ∧ Els k τs us G ∧ ps.map (fun p=>(p.1,a.eval p.2)) = (us.zipIdx i).map fun x=>(x.2,x.1)
class KS (k : Option Nat) (s : outParam Nat) : Prop where
  h : k.getD 1 = s
instance KS.n : KS none 1:=⟨rfl⟩
instance KS.s {n : Nat} : KS (some n) n:=⟨rfl⟩
section
variable {k : Option Nat} {τs σs : List MT} {ps : List (Nat × Operand)}
instance SlL.nil {n : Nat} : SlL L n n [] k [] []:=⟨rfl,fun _=>⟨[],rfl,⟨rfl,fun i τ u h=>by simp at h⟩,rfl⟩⟩
instance SlL.cons {n : Nat} [h : Opd L x τ u] [sh : ShK τ k] [l : SlL L (i + 1) n ps k τs v] : SlL L i n ((i,x) :: ps) k (τ :: τs) (u ++ v):=⟨by have:=l.h.1;simp only [List.length_cons];omega,fun {a G} e=>by
  obtain ⟨us,h1,⟨h2,h3⟩,h4⟩:=l.h.2 e.r
  have hx:=h.h e.l
  refine ⟨a.eval x :: us,by simp [h1],⟨by simp [h2],fun j σ y hj hy=>?_⟩,by simp [h4]⟩
  cases j with
  | zero=>cases hj;cases hy;exact ⟨sh.h hx,hx⟩
  | succ j=>exact h3 j σ y hj hy⟩
variable {e0 : TypeId} {by0 n s0 : Nat} {z0 : Value}
instance Op1.bsl [e : ElS P t e0 k by0 z0] [ks : KS k s0] [l : SlL L 0 n ps k τs u] : Op1 P L B (.buildSlice t n ps.toArray) (n * s0 ≤ 16777216 ∧ 0 < n) (LSC k τs) u:=⟨fun {W0 w a G o} ho hok hE _ hp=>by
  obtain ⟨us,h1,h2,h3⟩:=l.h.2 hE
  have hl:=l.h.1
  refine .buildSC hok ho e.h1 e.h2 e.h3 (by rw [ks.h];exact hp.1) hp.2 (us:=us) (?_ : _ = _) (by omega) h2
  have : ((ps.toArray.map fun (i,x)=>(i,a.eval x)).toList : List (Nat × Value)) = ps.map fun p=>(p.1,a.eval p.2):=by simp only [List.map_toArray]
  rw [this,h3]⟩
variable {y : Operand} {α : Type} {T : α → MT} {xs : List α} {m : Int}
instance Op1.len [s : SlE P t k] [h : Opd L x τ u] [l : AsLS τ k τs] : Op1 P L B (.call { callee:=.builtin .len,args:=#[x],argTypes:=#[t] }) True (IT τs.length) u:=⟨fun ho hok e _ _=>by obtain ⟨e',h1,h2⟩:=s.h;exact .lenS hok ho h1 (l.h (h.h e)) rfl⟩
instance (priority:=1100) Op1.lenM [s : SlE P t k] [h : Opd L x (LS k (xs.map T)) u] : Op1 P L B (.call { callee:=.builtin .len,args:=#[x],argTypes:=#[t] }) True (IT xs.length) u:=⟨fun ho hok e _ _=>by obtain ⟨e',h1,h2⟩:=s.h;exact .lenM hok ho h1 (h.h e) rfl⟩
instance Op1.ixM [Inhabited α] [s : SlE P t k] [h : Opd L x (LS k (xs.map T)) u] [h2 : Opd L y (IT m) v] : Op1 P L B (.indexAddr t x y) (0 ≤ m ∧ m < xs.length) (PE k (T (xs.getD m.toNat default))) (u ++ v):=⟨fun ho hok e _ hp=>by
  obtain ⟨e',h3,h4⟩:=s.h
  exact .ixM hok ho h3 h4 (h.h e.l) (h2.h e.r) (i:=m.toNat) (by omega) (by omega)⟩
instance (priority:=1100) Op1.ixN [Inhabited α] {j : Nat} [s : SlE P t k] [h : Opd L x (LS k (xs.map T)) u] [h2 : Opd L y (NT j) v] : Op1 P L B (.indexAddr t x y) (j < xs.length) (PE k (T (xs.getD j default))) (u ++ v):=⟨fun ho hok e _ hp=>by
  obtain ⟨e',h3,h4⟩:=s.h
  exact .ixM hok ho h3 h4 (h.h e.l) (h2.h e.r) (i:=j) rfl hp⟩
instance (priority:=1200) Op1.ixC [Inhabited α] {j : Nat} [s : SlE P t k] [h : Opd L x (LS k (xs.map T)) u] : Op1 P L B (.indexAddr t x (.const (.int .i64 (OfNat.ofNat j)))) (j < xs.length) (PE k (T (xs.getD j default))) u:=⟨fun ho hok e _ hp=>by
  obtain ⟨e',h3,h4⟩:=s.h
  exact .ixM hok ho h3 h4 (h.h e) (y:=.const (.int .i64 (OfNat.ofNat j))) (m:=OfNat.ofNat j) rfl (i:=j) rfl hp⟩
class FS (P : Program) (s f : Nat) (k : outParam (Option Nat)) : Prop where
  h : True
instance Op1.fldE {s f off n s0 : Nat} {k' : Option Nat} {τ' : MT} [ko : FO P s f off] [FS P s f k'] [ks : KS k' s0] [h : Opd L x (PE (some n) τ) u] [hp : Prt τ off k' τ'] : Op1 P L B (.fieldAddr s x f) (off + s0 ≤ n) (PE k' τ') u :=
  ⟨fun ho hok e _ hle=>.fldE hok ho (h.h e) ko.h (by rw [ks.h];exact decide_eq_true hle) fun v ht hs=>hp.h ht hs⟩
instance Op1.ldE [s : TyS P t k] [h : Opd L x (PE k τ) u] : Op1 P L B (.load t x) True τ u:=⟨fun ho hok e _ _=>.ldE hok ho s.h (h.h e)⟩
end
end
end Go.Proofs.YtpbkcbnghhodiaaGreat
set_option linter.unusedVariables false
set_option linter.unusedSimpArgs false
namespace Go.Proofs.YtpbkcbnghhodiaaGreat
open Go.RowKit (Below)
inductive SE where
  | g (d : Nat) (τ : MT) (u : List Nat)
  | al (d : Nat) (ty : TypeId) (k : Option Nat) (τ : MT)
  | st (j : Nat) (τ : MT) (u : List Nat)
  | sx (j : Nat) (τ : MT) (u : List Nat)
def depS : Nat → List SE → List Nat → List Nat
  | _,[],_=>[]
  | i,.g d _ _ :: es,u=>if u.contains d then i :: depS (i + 1) es u else depS (i + 1) es u
  | i,_ :: es,u=>depS (i + 1) es u
def poS (nB : Nat) (all : List SE) : SE → PO3
  | .g d τ u=>⟨d,.g τ,depS 0 all u⟩
  | .al d ty k τ=>⟨d,.al mkP ty k τ,[]⟩
  | .st j τ u=>⟨9998,.st (nB + j) τ,j :: depS 0 all u⟩
  | .sx j τ u=>⟨9998,.st j τ,depS 0 all u⟩
def plS (nB : Nat) (all : List SE) : List PO3:=all.map (poS nB all)
theorem plS_get {nB : Nat} {all : List SE} {i : Nat} {e : SE} (h : all[i]? = some e) : (plS nB all)[i]? = some (poS nB all e):=by simp [plS,h]
theorem depS_mem : ∀ {es : List SE} {o i d : Nat} {τ : MT} {v u : List Nat},es[i]? = some (.g d τ v) → d ∈ u → o + i ∈ depS o es u
  | e :: es,o,0,d,τ,v,u,h,hu=>by cases h;simp [depS,hu]
  | e :: es,o,i + 1,d,τ,v,u,h,hu=>by
    have ih : o + 1 + i ∈ depS (o + 1) es u:=depS_mem (es:=es) (by simpa using h) hu
    rw [show o + (i + 1) = o + 1 + i by omega]
    cases e with
    | g d' τ' u'=>unfold depS;split <;> simp [ih]
    | al=>exact ih
    | st=>exact ih
    | sx=>exact ih
  | [],_,_,_,_,_,_,h,_=>by simp at h
def tgt (nB : Nat) : SE → Option (Nat × MT)
  | .st j τ _=>some (nB + j,τ)
  | .sx j τ _=>some (j,τ)
  | _=>none
def tgs (nB : Nat) (es : List SE) : List Nat:=es.filterMap fun e=>(tgt nB e).map (·.1)
def nodupB : List Nat → Bool
  | []=>true
  | j :: l=>!l.contains j && nodupB l
def uniqS (nB : Nat) (es : List SE) : Bool:=nodupB (tgs nB es)
theorem tgs_mem {nB v : Nat} {τ : MT} {e : SE} {es : List SE} {i : Nat} (h : es[i]? = some e) (ht : tgt nB e = some (v,τ)) : v ∈ tgs nB es:=List.mem_filterMap.2 ⟨e,List.mem_of_getElem? h,by rw [ht];rfl⟩
theorem storeOf_st {nB v : Nat} {τ : MT} {all : List SE} {e : SE} (ht : tgt nB e = some (v,τ)) : ∀ {es : List SE} {o i : Nat},nodupB (tgs nB es) = true → es[i]? = some e → storeOf (es.map (poS nB all)) o v = some (o + i,τ)
  | x :: es,o,0,hu,h=>by
    obtain rfl : x = e:=by simpa using h
    cases x with
    | g=>cases ht
    | al=>cases ht
    | st j' τ' u'=>cases ht;simp [storeOf,poS]
    | sx j' τ' u'=>cases ht;simp [storeOf,poS]
  | x :: es,o,i + 1,hu,h=>by
    have h' : es[i]? = some e:=by simpa using h
    have hm : v ∈ tgs nB es:=tgs_mem h' ht
    rw [show o + (i + 1) = o + 1 + i by omega]
    have key : ∀ w τ',tgt nB x = some (w,τ') → w ≠ v ∧ nodupB (tgs nB es) = true:=fun w τ' hx=>by
      have e1 : tgs nB (x :: es) = w :: tgs nB es:=by simp [tgs,hx]
      rw [e1] at hu
      simp only [nodupB,Bool.and_eq_true,Bool.not_eq_true'] at hu
      exact ⟨fun e=>(by rw [e] at hu;have:=List.contains_iff_mem.2 hm;rw [hu.1] at this;cases this),hu.2⟩
    cases x with
    | g d τ' u'=>exact storeOf_st ht (es:=es) hu h'
    | al d ty k τ'=>exact storeOf_st ht (es:=es) hu h'
    | st j τ' u' =>
      obtain ⟨h1,h2⟩:=key _ _ rfl
      simp only [List.map_cons,storeOf,poS]
      rw [if_neg (by simpa using h1)]
      exact storeOf_st ht (es:=es) h2 h'
    | sx j τ' u' =>
      obtain ⟨h1,h2⟩:=key _ _ rfl
      simp only [List.map_cons,storeOf,poS]
      rw [if_neg (by simpa using h1)]
      exact storeOf_st ht (es:=es) h2 h'
  | [],_,_,_,h=>by simp at h
theorem storeOf_no {nB v : Nat} {all : List SE} : ∀ {es : List SE} {o : Nat},(tgs nB es).contains v = false → storeOf (es.map (poS nB all)) o v = none
  | [],_,_=>rfl
  | x :: es,o,h=>by
    have key : ∀ w τ',tgt nB x = some (w,τ') → w ≠ v ∧ (tgs nB es).contains v = false:=fun w τ' hx=>by
      have e1 : tgs nB (x :: es) = w :: tgs nB es:=by simp [tgs,hx]
      rw [e1,List.contains_cons,Bool.or_eq_false_iff] at h
      exact ⟨fun e=>by rw [e] at h;simp at h,h.2⟩
    cases x with
    | g d τ' u'=>exact storeOf_no (es:=es) h
    | al d ty k τ'=>exact storeOf_no (es:=es) h
    | st j τ' u' =>
      obtain ⟨h1,h2⟩:=key _ _ rfl
      simp only [List.map_cons,storeOf,poS]
      rw [if_neg (by simpa using h1)]
      exact storeOf_no (es:=es) h2
    | sx j τ' u' =>
      obtain ⟨h1,h2⟩:=key _ _ rfl
      simp only [List.map_cons,storeOf,poS]
      rw [if_neg (by simpa using h1)]
      exact storeOf_no (es:=es) h2
def bxOk (ops : Array Oper) (nB : Nat) (es : List SE) : Bool :=
  (List.range es.length).all fun i=>match es[i]? with
    | some (.g _ _ u)=>u.all fun c=>decide (c < 1000000) || freeB ops (plS nB es) i (c - 1000000)
    | _=>true
theorem seeB_at {ops : Array Oper} {PL : List PO3} {i : Nat} : ∀ {B : List BX} {v c : Nat} {x : BX},B[c]? = some x → freeB ops PL i (v + c) = true → (seeB ops PL i v B)[c]? = some x
  | y :: B,v,0,x,h,hf=>by cases h;rw [Nat.add_zero] at hf;simp [seeB,hf]
  | y :: B,v,c + 1,x,h,hf=>by
    have:=seeB_at (ops:=ops) (PL:=PL) (i:=i) (B:=B) (v:=v + 1) (c:=c) (x:=x) (by simpa using h) (by rw [show v + 1 + c = v + (c + 1) by omega];exact hf)
    simpa [seeB] using this
  | [],_,_,_,h,_=>by simp at h
theorem bxOk_at {ops : Array Oper} {nB i d : Nat} {τ : MT} {u : List Nat} {es : List SE} {B : List BX} (h : bxOk ops nB es = true) (hi : es[i]? = some (.g d τ u)) {W0 w : World} {G0 : Gh} {N : Nat} {L : List (Nat × MT)} {a : Act} {G : Gh} (S : St W0 G0 N L (seeB ops (plS nB es) i 0 B) a w G) : Bku B u W0 w G:=fun c x hc hx=>by
  have h1:=List.all_eq_true.1 h i (List.mem_range.2 (List.getElem?_eq_some_iff.1 hi).1)
  rw [hi] at h1
  have h2:=List.all_eq_true.1 h1 _ hc
  simp only [Bool.or_eq_true,decide_eq_true_eq,Nat.add_sub_cancel_left] at h2
  rcases h2 with h2 | h2
  · omega
  · exact S.bx c x (seeB_at hx (by rw [Nat.zero_add];exact h2))
inductive RunSI (P : Program) (B : List BX) (all : List Oper) : Nat → List (Nat × MT) → List (Nat × Nat × Option Nat) → List Oper → Prop → List SE → List Oper → Prop
  | stop {i : Nat} {L : List (Nat × MT)} {als : List (Nat × Nat × Option Nat)} {ops : List Oper} : RunSI P B all i L als ops True [] ops
  | cons {i : Nat} {L : List (Nat × MT)} {als : List (Nat × Nat × Option Nat)} {ops : List Oper} {d : Nat} {op : Op} {ty : TypeId} {pos : String} {aft : Array Edge} {pre pre' : Prop} {τ : MT} {u : List Nat} {es : List SE} {rest : List Oper} :
      Op1 P L B op pre τ u → RunSI P B all (i + 1) ((d,τ) :: L) als ops pre' es rest → RunSI P B all i L als (⟨some d,op,ty,pos,aft,none⟩ :: ops) (pre ∧ pre') (.g d τ u :: es) rest
  | gcons {i : Nat} {L L' : List (Nat × MT)} {als : List (Nat × Nat × Option Nat)} {ops : List Oper} {d : Nat} {op : Op} {ty : TypeId} {pos : String} {aft : Array Edge} {pre pre' : Prop} {τ : MT} {u : List Nat} {es : List SE} {rest : List Oper} {j dj : Nat} {pol : Bool} {τg : MT} {wr : MT → MT} {wp : Prop → Prop} :
      (all[j]?).bind (·.dst) = some dj → (dj,τg) ∈ L → Gw τg pol L L' wr wp → Op1 P L' B op pre τ u → RunSI P B all (i + 1) ((d,wr τ) :: L) als ops pre' es rest →
      RunSI P B all i L als (⟨some d,op,ty,pos,aft,some (j,pol)⟩ :: ops) (wp pre ∧ pre') (.g d (wr τ) (dj :: u) :: es) rest
  | al {i : Nat} {L : List (Nat × MT)} {als : List (Nat × Nat × Option Nat)} {ops : List Oper} {d : Nat} {t ty : TypeId} {pos : String} {aft : Array Edge} {pre : Prop} {z : Value} {k : Option Nat} {es : List SE} {rest : List Oper} :
      (P.info? t).bind (·.zero) = some z → Shaped k z → RunSI P B all (i + 1) L ((d,i,k) :: als) ops pre es rest → RunSI P B all i L als (⟨some d,.alloc t,ty,pos,aft,none⟩ :: ops) pre (.al d t k (.ex z) :: es) rest
  | st {i j : Nat} {L : List (Nat × MT)} {als : List (Nat × Nat × Option Nat)} {ops : List Oper} {d : Nat} {t ty : TypeId} {pos : String} {aft : Array Edge} {pre : Prop} {τ : MT} {k : Option Nat} {y : Operand} {u : List Nat} {es : List SE} {rest : List Oper} :
      (d,j,k) ∈ als → tyS P t k = true → Opd L y τ u → ShK τ k → RunSI P B all (i + 1) L als ops pre es rest → RunSI P B all i L als (⟨none,.store t (.tmp d) y,ty,pos,aft,none⟩ :: ops) pre (.st j τ u :: es) rest
  | sx {i j b : Nat} {L : List (Nat × MT)} {als : List (Nat × Nat × Option Nat)} {ops : List Oper} {t ty tb : TypeId} {pos : String} {aft : Array Edge} {pre : Prop} {τ τb : MT} {k : Option Nat} {x y : Operand} {u v : List Nat} {es : List SE} {rest : List Oper} :
      Opd L x (PB b) u → B[j]? = some ⟨b,tb,k,τb⟩ → tyS P t k = true → Opd L y τ v → ShK τ k → RunSI P B all (i + 1) L als ops pre es rest → RunSI P B all i L als (⟨none,.store t x y,ty,pos,aft,none⟩ :: ops) pre (.sx j τ (u ++ v) :: es) rest
section
variable {P : Program} {B : List BX} {all : List Oper} {L L0 : List (Nat × MT)} {als : List (Nat × Nat × Option Nat)} {ops : List Oper} {pre : Prop} {es : List SE} {rest : List Oper} {i : Nat}
variable {W0 : World} {G0 : Gh} {N : Nat} {a : Act} {w : World} {G : Gh} {Q : Exit → Act → World → Prop}
theorem mem_dep3 {nB i d : Nat} {τ : MT} {v u : List Nat} (h : es[i]? = some (.g d τ v)) (hu : d ∈ u) {l : List Nat} (hl : ∀ x ∈ depS 0 es u,x ∈ l) : (d,τ) ∈ depL3 (plS nB es) l:=by
  refine List.mem_filterMap.2 ⟨i,hl i (by have:=depS_mem (o:=0) h hu;rwa [Nat.zero_add] at this),?_⟩
  rw [plS_get h];rfl
theorem RunSI.obls (R : RunSI P B all i L als ops pre es rest) : ∀ {e0 : List SE}, (∀ p ∈ L, p ∈ L0 ∨ ∃ v, SE.g p.1 p.2 v ∈ e0) → (∀ x ∈ als, ∃ t z, e0[x.2.1]? = some (.al x.1 t x.2.2 z)) → e0.length = i → ops = all.drop i → pre → uniqS B.length (e0 ++ es) = true → bxOk all.toArray B.length (e0 ++ es) = true →
    Obls3 P W0 G0 N L0 B all.toArray (plS B.length (e0 ++ es)) i ((plS B.length (e0 ++ es)).drop i):=by
  induction R with
  | stop =>
    intro e0 _ _ hi _ _ _ _
    subst hi
    rw [List.append_nil,plS,List.drop_eq_nil_of_le (by simp)];trivial
  | @cons i L als ops d op ty pos aft pre pre' τ u es rest h _ ih =>
    intro e0 hL hA hi hops hp hu hx
    have hg : (e0 ++ .g d τ u :: es)[i]? = some (.g d τ u):=by subst hi;simp
    have hpl:=plS_get (nB:=B.length) hg
    have hlt : i < (plS B.length (e0 ++ .g d τ u :: es)).length:=(List.getElem?_eq_some_iff.1 hpl).1
    have ho : all[i]? = some ⟨some d,op,ty,pos,aft,none⟩:=by
      have:=congrArg (fun l : List Oper=>l[0]?) hops
      simpa using this.symm
    rw [List.drop_eq_getElem_cons hlt,(List.getElem?_eq_some_iff.1 hpl).2]
    have hn:=ih (e0:=e0 ++ [.g d τ u]) (fun p hp=>by
      rcases List.mem_cons.1 hp with rfl | hp
      · exact .inr ⟨u,by simp⟩
      · rcases hL p hp with h | ⟨v,h1⟩
        · exact .inl h
        · exact .inr ⟨v,List.mem_append_left _ h1⟩) (fun x hx=>by obtain ⟨t,z,h⟩:=hA x hx;exact ⟨t,z,by rw [List.getElem?_append_left (List.getElem?_eq_some_iff.1 h).1];exact h⟩) (by simp [hi]) (by rw [← List.drop_drop,← hops];rfl) hp.2 (by simpa using hu) (by simpa using hx)
    rw [List.append_assoc] at hn
    refine ⟨⟨by simp [ho,poS],fun a w G S=>?_⟩,hn⟩
    have hgo : (all.toArray.getD i default) = ⟨some d,op,ty,pos,aft,none⟩:=by simp [ho]
    rw [hgo]
    refine .of rfl (h.ok rfl S.ok (fun t τ' ht hm=>?_) (bxOk_at hx hg S) hp.1)
    rcases hL _ hm with h | ⟨v,h1⟩
    · exact S.mem (List.mem_append_right _ h)
    · obtain ⟨k,hk⟩:=List.mem_iff_getElem?.1 h1
      exact S.mem (List.mem_append_left _ (mem_dep3 (by rw [List.getElem?_append_left (List.getElem?_eq_some_iff.1 hk).1];exact hk) ht fun x hx=>hx))
  | @gcons i L L' als ops d op ty pos aft pre pre' τ u es rest j dj pol τg wr wp hj hm g h _ ih =>
    intro e0 hL hA hi hops hp hu hx
    have hg : (e0 ++ .g d (wr τ) (dj :: u) :: es)[i]? = some (.g d (wr τ) (dj :: u)):=by subst hi;simp
    have hpl:=plS_get (nB:=B.length) hg
    have hlt : i < (plS B.length (e0 ++ .g d (wr τ) (dj :: u) :: es)).length:=(List.getElem?_eq_some_iff.1 hpl).1
    have ho : all[i]? = some ⟨some d,op,ty,pos,aft,some (j,pol)⟩:=by
      have:=congrArg (fun l : List Oper=>l[0]?) hops
      simpa using this.symm
    rw [List.drop_eq_getElem_cons hlt,(List.getElem?_eq_some_iff.1 hpl).2]
    have hn:=ih (e0:=e0 ++ [.g d (wr τ) (dj :: u)]) (fun p hp=>by
      rcases List.mem_cons.1 hp with rfl | hp
      · exact .inr ⟨dj :: u,by simp⟩
      · rcases hL p hp with h | ⟨v,h1⟩
        · exact .inl h
        · exact .inr ⟨v,List.mem_append_left _ h1⟩) (fun x hx=>by obtain ⟨t,z,h⟩:=hA x hx;exact ⟨t,z,by rw [List.getElem?_append_left (List.getElem?_eq_some_iff.1 h).1];exact h⟩) (by simp [hi]) (by rw [← List.drop_drop,← hops];rfl) hp.2 (by simpa using hu) (by simpa using hx)
    rw [List.append_assoc] at hn
    refine ⟨⟨by simp [ho,poS],fun a w G S=>?_⟩,hn⟩
    have hgo : (all.toArray.getD i default) = ⟨some d,op,ty,pos,aft,some (j,pol)⟩:=by simp [ho]
    rw [hgo]
    have hE : Env L (dj :: u) a G:=fun t τ' ht hm=>by
      rcases hL _ hm with h | ⟨v,h1⟩
      · exact S.mem (List.mem_append_right _ h)
      · obtain ⟨k,hk⟩:=List.mem_iff_getElem?.1 h1
        exact S.mem (List.mem_append_left _ (mem_dep3 (by rw [List.getElem?_append_left (List.getElem?_eq_some_iff.1 hk).1];exact hk) ht fun x hx=>hx))
    exact .gd rfl hj g (hE dj τg (by simp) hm) fun h2 h4=>h.ok rfl S.ok (h2 _ _ _ (fun t τ ht=>hE t τ (List.mem_cons_of_mem _ ht))) (fun c x hc hb=>bxOk_at hx hg S c x (List.mem_cons_of_mem _ hc) hb) (h4 _ hp.1)
  | @al i L als ops d t ty pos aft pre z k es rest hz hs _ ih =>
    intro e0 hL hA hi hops hp hu hx
    have hg : (e0 ++ .al d t k (.ex z) :: es)[i]? = some (.al d t k (.ex z)):=by subst hi;simp
    have hpl:=plS_get (nB:=B.length) hg
    have hlt : i < (plS B.length (e0 ++ .al d t k (.ex z) :: es)).length:=(List.getElem?_eq_some_iff.1 hpl).1
    have ho : all[i]? = some ⟨some d,.alloc t,ty,pos,aft,none⟩:=by
      have:=congrArg (fun l : List Oper=>l[0]?) hops
      simpa using this.symm
    rw [List.drop_eq_getElem_cons hlt,(List.getElem?_eq_some_iff.1 hpl).2]
    have hn:=ih (e0:=e0 ++ [.al d t k (.ex z)]) (fun p hp=>by
      rcases hL p hp with h | ⟨v,h1⟩
      · exact .inl h
      · exact .inr ⟨v,List.mem_append_left _ h1⟩) (fun x hx=>by
      rcases List.mem_cons.1 hx with rfl | hx
      · exact ⟨t,.ex z,by subst hi;simp⟩
      · obtain ⟨t,z,h⟩:=hA x hx;exact ⟨t,z,by rw [List.getElem?_append_left (List.getElem?_eq_some_iff.1 h).1];exact h⟩) (by simp [hi]) (by rw [← List.drop_drop,← hops];rfl) hp (by simpa using hu) (by simpa using hx)
    rw [List.append_assoc] at hn
    have hgo : (all.toArray.getD i default) = ⟨some d,.alloc t,ty,pos,aft,none⟩:=by simp [ho]
    refine ⟨⟨by simp [ho,poS],fun b=>rfl,by rw [hgo],fun a w G S=>?_⟩,hn⟩
    rw [hgo]
    exact .alloc S.ok rfl hz hs
  | @st i j L als ops d t ty pos aft pre τ k y u es rest hm hT hy hs _ ih =>
    intro e0 hL hA hi hops hp hu hx
    have hg : (e0 ++ .st j τ u :: es)[i]? = some (.st j τ u):=by subst hi;simp
    have hpl:=plS_get (nB:=B.length) hg
    have hlt : i < (plS B.length (e0 ++ .st j τ u :: es)).length:=(List.getElem?_eq_some_iff.1 hpl).1
    have ho : all[i]? = some ⟨none,.store t (.tmp d) y,ty,pos,aft,none⟩:=by
      have:=congrArg (fun l : List Oper=>l[0]?) hops
      simpa using this.symm
    rw [List.drop_eq_getElem_cons hlt,(List.getElem?_eq_some_iff.1 hpl).2]
    have hn:=ih (e0:=e0 ++ [.st j τ u]) (fun p hp=>by
      rcases hL p hp with h | ⟨v,h1⟩
      · exact .inl h
      · exact .inr ⟨v,List.mem_append_left _ h1⟩) (fun x hx=>by obtain ⟨t,z,h⟩:=hA x hx;exact ⟨t,z,by rw [List.getElem?_append_left (List.getElem?_eq_some_iff.1 h).1];exact h⟩) (by simp [hi]) (by rw [← List.drop_drop,← hops];rfl) hp (by simpa using hu) (by simpa using hx)
    rw [List.append_assoc] at hn
    have hgo : (all.toArray.getD i default) = ⟨none,.store t (.tmp d) y,ty,pos,aft,none⟩:=by simp [ho]
    have hst : storeOf (plS B.length (e0 ++ .st j τ u :: es)) 0 (B.length + j) = some (i,τ):=by
      have:=storeOf_st (nB:=B.length) (all:=e0 ++ .st j τ u :: es) (o:=0) rfl hu hg
      rwa [Nat.zero_add] at this
    refine ⟨⟨hst,by rw [hgo],by rw [hgo],.inl ⟨t,.tmp d,y,k,by rw [hgo],hT,fun a w G S=>?_,?_⟩⟩,hn⟩
    · have hv := hy.h (a := a) (G := G) fun t τ' ht hm => by
        rcases hL _ hm with h | ⟨v,h1⟩
        · exact S.mem (List.mem_append_right _ h)
        · obtain ⟨k,hk⟩:=List.mem_iff_getElem?.1 h1
          exact S.mem (List.mem_append_left _ (mem_dep3 (by rw [List.getElem?_append_left (List.getElem?_eq_some_iff.1 hk).1];exact hk) ht fun x hx=>.tail _ hx))
      exact ⟨hv,hs.h hv⟩
    · rw [if_neg (by omega)]
      obtain ⟨t',z,h⟩:=hA _ hm
      refine ⟨_,t',z,by rw [Nat.add_sub_cancel_left];exact plS_get (by rw [List.getElem?_append_left (List.getElem?_eq_some_iff.1 h).1];exact h),rfl,rfl,by simp [poS]⟩
  | @sx i j b L als ops t ty tb pos aft pre τ τb k x y u v es rest hxo hb hT hy hs _ ih =>
    intro e0 hL hA hi hops hp hu hx
    have hg : (e0 ++ .sx j τ (u ++ v) :: es)[i]? = some (.sx j τ (u ++ v)):=by subst hi;simp
    have hpl:=plS_get (nB:=B.length) hg
    have hlt : i < (plS B.length (e0 ++ .sx j τ (u ++ v) :: es)).length:=(List.getElem?_eq_some_iff.1 hpl).1
    have ho : all[i]? = some ⟨none,.store t x y,ty,pos,aft,none⟩:=by
      have:=congrArg (fun l : List Oper=>l[0]?) hops
      simpa using this.symm
    rw [List.drop_eq_getElem_cons hlt,(List.getElem?_eq_some_iff.1 hpl).2]
    have hn:=ih (e0:=e0 ++ [.sx j τ (u ++ v)]) (fun p hp=>by
      rcases hL p hp with h | ⟨v,h1⟩
      · exact .inl h
      · exact .inr ⟨v,List.mem_append_left _ h1⟩) (fun x hx=>by obtain ⟨t,z,h⟩:=hA x hx;exact ⟨t,z,by rw [List.getElem?_append_left (List.getElem?_eq_some_iff.1 h).1];exact h⟩) (by simp [hi]) (by rw [← List.drop_drop,← hops];rfl) hp (by simpa using hu) (by simpa using hx)
    rw [List.append_assoc] at hn
    have hgo : (all.toArray.getD i default) = ⟨none,.store t x y,ty,pos,aft,none⟩:=by simp [ho]
    have hst : storeOf (plS B.length (e0 ++ .sx j τ (u ++ v) :: es)) 0 j = some (i,τ):=by
      have:=storeOf_st (nB:=B.length) (all:=e0 ++ .sx j τ (u ++ v) :: es) (o:=0) rfl hu hg
      rwa [Nat.zero_add] at this
    have hE : ∀ a w G,St W0 G0 N (depL3 (plS B.length (e0 ++ .sx j τ (u ++ v) :: es)) (poS B.length (e0 ++ .sx j τ (u ++ v) :: es) (.sx j τ (u ++ v))).dep ++ L0) (seeB all.toArray (plS B.length (e0 ++ .sx j τ (u ++ v) :: es)) i 0 B) a w G → Env L (u ++ v) a G:=fun a w G S t τ' ht hm=>by
      rcases hL _ hm with h | ⟨v,h1⟩
      · exact S.mem (List.mem_append_right _ h)
      · obtain ⟨k,hk⟩:=List.mem_iff_getElem?.1 h1
        exact S.mem (List.mem_append_left _ (mem_dep3 (by rw [List.getElem?_append_left (List.getElem?_eq_some_iff.1 hk).1];exact hk) ht fun x hx=>hx))
    refine ⟨⟨hst,by rw [hgo],by rw [hgo],.inl ⟨t,x,y,k,by rw [hgo],hT,fun a w G S=>?_,?_⟩⟩,hn⟩
    · have hv:=hy.h (hE a w G S).r
      exact ⟨hv,hs.h hv⟩
    · rw [if_pos (List.getElem?_eq_some_iff.1 hb).1]
      refine ⟨by rw [hb];rfl,fun a w G S=>?_⟩
      have hv : a.eval x = mkP b:=hxo.h (hE a w G S).l
      rw [hb,hv];rfl
theorem RunSI.tl (R : RunSI P B all i L als ops pre es rest) : rest = ops.drop es.length:=by
  induction R with
  | stop=>rfl
  | cons _ _ ih=>exact ih
  | gcons _ _ _ _ _ ih=>exact ih
  | al _ _ _ ih=>exact ih
  | st _ _ _ _ _ ih=>exact ih
  | sx _ _ _ _ _ _ ih=>exact ih
def fL (β : Nat → Nat) : Nat → List SE → List (Nat × MT) → List (Nat × MT)
  | _,[],L=>L
  | i,.g d τ _ :: es,L=>fL β (i + 1) es ((d,τ) :: L)
  | i,.al d _ _ _ :: es,L=>fL β (i + 1) es ((d,PB (β i)) :: L)
  | i,.st _ _ _ :: es,L=>fL β (i + 1) es L
  | i,.sx _ _ _ :: es,L=>fL β (i + 1) es L
def ft (β : Nat → Nat) (i : Nat) : SE → Option (Nat × MT)
  | .g d τ _=>some (d,τ)
  | .al d _ _ _=>some (d,PB (β i))
  | _=>none
theorem fL_mem {β : Nat → Nat} : ∀ {es : List SE} {i : Nat} {L : List (Nat × MT)} {p : Nat × MT},p ∈ fL β i es L → p ∈ L ∨ ∃ j e,es[j]? = some e ∧ ft β (i + j) e = some p
  | [],_,_,_,h=>.inl h
  | e :: es,i,L,p,h=>by
    have key : ∀ L',fL β i (e :: es) L = fL β (i + 1) es L' → (∀ p ∈ L',p ∈ L ∨ ft β i e = some p) → p ∈ L ∨ ∃ j e',(e :: es)[j]? = some e' ∧ ft β (i + j) e' = some p:=fun L' h1 h2=>by
      rw [h1] at h
      rcases fL_mem h with h | ⟨j,e',h3,h4⟩
      · rcases h2 p h with h | h
        · exact .inl h
        · exact .inr ⟨0,e,rfl,h⟩
      · exact .inr ⟨j + 1,e',by simpa using h3,by rw [show i + (j + 1) = i + 1 + j by omega];exact h4⟩
    cases e with
    | g d τ u=>exact key _ rfl fun p hp=>(List.mem_cons.1 hp).elim (fun e=>.inr (by rw [e];rfl)) .inl
    | al d t k τ=>exact key _ rfl fun p hp=>(List.mem_cons.1 hp).elim (fun e=>.inr (by rw [e];rfl)) .inl
    | st j τ u=>exact key _ rfl fun p hp=>.inl hp
    | sx j τ u=>exact key _ rfl fun p hp=>.inl hp
theorem LF3_all {β : Nat → Nat} {nB : Nat} : ∀ {m : Nat} {p : Nat × MT},(p ∈ L0 ∨ ∃ j e,j < m ∧ es[j]? = some e ∧ ft β j e = some p) → p ∈ LF3 (plS nB es) β L0 m
  | 0,p,h=>by
    rcases h with h | ⟨j,e,h,_⟩
    · exact h
    · omega
  | m + 1,p,h=>by
    have ih:=fun h=>LF3_all (β:=β) (nB:=nB) (m:=m) (p:=p) h
    unfold LF3
    cases hm : es[m]? with
    | none =>
      have : (plS nB es)[m]? = none:=by simp [plS,hm]
      rw [this]
      refine ih ?_
      rcases h with h | ⟨j,e,h1,h2,h3⟩
      · exact .inl h
      · refine .inr ⟨j,e,?_,h2,h3⟩
        rcases Nat.lt_or_ge j m with hlt | hge
        · exact hlt
        · have : j = m:=by omega
          subst this;rw [h2] at hm;cases hm
    | some e0 =>
      rw [plS_get hm]
      have hcase : p ∈ LF3 (plS nB es) β L0 m ∨ ft β m e0 = some p:=by
        rcases h with h | ⟨j,e,h1,h2,h3⟩
        · exact .inl (ih (.inl h))
        · by_cases hj : j = m
          · subst hj;rw [h2] at hm;cases hm;exact .inr h3
          · exact .inl (ih (.inr ⟨j,e,by omega,h2,h3⟩))
      rcases hcase with h | h
      · cases e0 <;> simp [poS,h]
      · cases e0 <;> simp [ft] at h <;> simp [poS,h]
class RunS (P : Program) (B : List BX) (all : List Oper) (i : Nat) (L : List (Nat × MT)) (als : List (Nat × Nat × Option Nat)) (ops : List Oper) (pre : outParam Prop) (es : outParam (List SE)) (rest : outParam (List Oper)) : Prop where
  r : RunSI P B all i L als ops pre es rest
class AlAt (als : List (Nat × Nat × Option Nat)) (d : Nat) (j : outParam Nat) (k : outParam (Option Nat)) : Prop where
  m : (d,j,k) ∈ als
instance AlAt.hd {d j : Nat} {k : Option Nat} : AlAt ((d,j,k) :: als) d j k:=⟨.head _⟩
instance (priority:=500) AlAt.tl {x : Nat × Nat × Option Nat} {d j : Nat} {k : Option Nat} [h : AlAt als d j k] : AlAt (x :: als) d j k:=⟨.tail _ h.m⟩
class Zr (P : Program) (t : TypeId) (k : outParam (Option Nat)) (z : outParam Value) : Prop where
  hz : (P.info? t).bind (·.zero) = some z
  s : Shaped k z
theorem Zr.of {t : TypeId} (e : ZE) [h : ZV e] (hz : (P.info? t).bind (·.zero) = some e.z) : Zr P t e.k e.z:=⟨hz,h.s⟩
section
variable {L' : List (Nat × MT)} {d : Nat} {op : Op} {ty t : TypeId} {pos : String} {aft : Array Edge} {pre' : Prop} {τ : MT} {u : List Nat} {j dj : Nat} {b pol : Bool} {τg : MT} {wr : MT → MT} {wp : Prop → Prop} {z : Value} {k : Option Nat} {y : Operand}
instance (priority:=100) RunS.stop : RunS P B all i L als ops True [] ops:=⟨.stop⟩
instance RunS.cons [h : Op1 P L B op pre τ u] [k : RunS P B all (i + 1) ((d,τ) :: L) als ops pre' es rest] : RunS P B all i L als (⟨some d,op,ty,pos,aft,none⟩ :: ops) (pre ∧ pre') (.g d τ u :: es) rest:=⟨.cons h k.r⟩
instance RunS.gcons [hj : DstAt all j dj] [hb : Lk L dj τg] [g : Gw τg pol L L' wr wp] [h : Op1 P L' B op pre τ u] [k : RunS P B all (i + 1) ((d, wr τ) :: L) als ops pre' es rest] :
    RunS P B all i L als (⟨some d,op,ty,pos,aft,some (j,pol)⟩ :: ops) (wp pre ∧ pre') (.g d (wr τ) (dj :: u) :: es) rest:=⟨.gcons hj.h hb.m g h k.r⟩
instance RunS.al [h : Zr P t k z] [r : RunS P B all (i + 1) L ((d,i,k) :: als) ops pre es rest] : RunS P B all i L als (⟨some d,.alloc t,ty,pos,aft,none⟩ :: ops) pre (.al d t k (.ex z) :: es) rest:=⟨.al h.hz h.s r.r⟩
instance RunS.st [ha : AlAt als d j k] [hT : TyS P t k] [hy : Opd L y τ u] [hs : ShK τ k] [r : RunS P B all (i + 1) L als ops pre es rest] : RunS P B all i L als (⟨none,.store t (.tmp d) y,ty,pos,aft,none⟩ :: ops) pre (.st j τ u :: es) rest:=⟨.st ha.m hT.h hy hs r.r⟩
instance (priority:=500) RunS.sx {x : Operand} {b : Nat} {tb : TypeId} {τb : MT} {v : List Nat} [hx : Opd L x (PB b) u] [hb : Bx B b j tb k τb] [hT : TyS P t k] [hy : Opd L y τ v] [hs : ShK τ k] [r : RunS P B all (i + 1) L als ops pre es rest] : RunS P B all i L als (⟨none,.store t x y,ty,pos,aft,none⟩ :: ops) pre (.sx j τ (u ++ v) :: es) rest:=⟨.sx hx hb.m hT.h hy hs r.r⟩
end
theorem St.ds {id : Nat} (S : St W0 G0 N L B a w G) [R : RunS P B all 0 L [] all pre es rest] (hp : pre)
    (K : ∀ β a w G,uniqS B.length es = true → St W0 G0 N (fL β 0 es L) (BF3 (plS B.length es) β B es.length) a w G → wpList P all.toArray Q rest a w) (hm : P.follows .mixedOrders = true)
    (hd : (drawOk3 all.toArray (plS B.length es) (L.map (·.1)) N && (uniqS B.length es && bxOk all.toArray B.length es)) = true) : (Code.region id all.toArray true).wp P Q a w:=by
  rw [Bool.and_eq_true,Bool.and_eq_true] at hd
  have hO:=R.r.obls (e0:=[]) (W0:=W0) (G0:=G0) (N:=N) (L0:=L) (fun p h=>.inl h) (fun x h=>by simp at h) rfl rfl hp hd.2.1 hd.2.2
  refine S.drawnS (plS B.length es) hm hd.1 hO fun β a w G S=>?_
  have hlen : (plS B.length es).length = es.length:=by simp [plS]
  rw [hlen] at S ⊢
  simp only [List.toList_toArray]
  rw [← R.r.tl]
  refine K β a w G hd.2.1 (S.weak fun i p hi=>S.mem (LF3_all ?_))
  rcases fL_mem (List.mem_of_getElem? hi) with h | ⟨j,e,h1,h2⟩
  · exact .inl h
  · rw [Nat.zero_add] at h2
    exact .inr ⟨j,e,(List.getElem?_eq_some_iff.1 h1).1,h1,h2⟩
class FinL (β : Nat → Nat) (i : Nat) (es : List SE) (L : List (Nat × MT)) (L' : outParam (List (Nat × MT))) : Prop where
  h : L' = fL β i es L
instance FinL.nil {β : Nat → Nat} : FinL β i [] L L:=⟨rfl⟩
instance FinL.g {β : Nat → Nat} {d : Nat} {τ : MT} {u : List Nat} {L' : List (Nat × MT)} [h : FinL β (i + 1) es ((d,τ) :: L) L'] : FinL β i (.g d τ u :: es) L L':=⟨h.h⟩
instance FinL.al {β : Nat → Nat} {d : Nat} {t : TypeId} {k : Option Nat} {τ : MT} {L' : List (Nat × MT)} [h : FinL β (i + 1) es ((d,PB (β i)) :: L) L'] : FinL β i (.al d t k τ :: es) L L':=⟨h.h⟩
instance FinL.st {β : Nat → Nat} {j : Nat} {τ : MT} {u : List Nat} {L' : List (Nat × MT)} [h : FinL β (i + 1) es L L'] : FinL β i (.st j τ u :: es) L L':=⟨h.h⟩
instance FinL.sx {β : Nat → Nat} {j : Nat} {τ : MT} {u : List Nat} {L' : List (Nat × MT)} [h : FinL β (i + 1) es L L'] : FinL β i (.sx j τ u :: es) L L':=⟨h.h⟩
class FT (es : List SE) (j : Nat) (τ : outParam MT) : Prop where
  h : ∃ u,SE.st j τ u ∈ es
instance FT.hd {j : Nat} {τ : MT} {u : List Nat} : FT (.st j τ u :: es) j τ:=⟨u,.head _⟩
instance (priority:=500) FT.tl {j : Nat} {τ : MT} {e : SE} [h : FT es j τ] : FT (e :: es) j τ:=⟨by obtain ⟨u,h⟩:=h.h;exact ⟨u,.tail _ h⟩⟩
class FX1 (es : List SE) (j : Nat) (τ : outParam MT) : Prop where
  h : ∃ u,SE.sx j τ u ∈ es
instance FX1.hd {j : Nat} {τ : MT} {u : List Nat} : FX1 (.sx j τ u :: es) j τ:=⟨u,.head _⟩
instance (priority:=500) FX1.tl {j : Nat} {τ : MT} {e : SE} [h : FX1 es j τ] : FX1 (e :: es) j τ:=⟨by obtain ⟨u,h⟩:=h.h;exact ⟨u,.tail _ h⟩⟩
def nowr (nB : Nat) (es : List SE) (un : List Nat) : Bool:=un.all fun v=>!(tgs nB es).contains v
class FinZ (nB : Nat) (es0 : List SE) (v : Nat) (B : List BX) (B' : outParam (List BX)) (un : outParam (List Nat)) : Prop where
  h : uniqS nB es0 = true → nowr nB es0 un = true → B' = BZ3 (plS nB es0) v B
class FinB (B0 : List BX) (β : Nat → Nat) (es0 : List SE) (i : Nat) (es : List SE) (B : List BX) (B' : outParam (List BX)) (un : outParam (List Nat)) : Prop where
  h : uniqS B0.length es0 = true → nowr B0.length es0 un = true → es = es0.drop i → B = BF3 (plS B0.length es0) β B0 i → B' = BF3 (plS B0.length es0) β B0 (i + es.length)
section
variable {B0 B' : List BX} {β : Nat → Nat} {es0 : List SE} {d nB v : Nat} {τ τz : MT} {u un : List Nat} {t : TypeId} {k : Option Nat} {j b : Nat}
instance FinZ.nil : FinZ nB es0 v [] [] []:=⟨fun _ _=>rfl⟩
instance FinZ.wr [f : FX1 es0 v τ] [h : FinZ nB es0 (v + 1) B B' un] : FinZ nB es0 v (⟨b,t,k,τz⟩ :: B) (⟨b,t,k,τ⟩ :: B') un:=⟨fun hu hn=>by
  obtain ⟨u,hm⟩:=f.h
  obtain ⟨m,hm⟩:=List.mem_iff_getElem?.1 hm
  unfold BZ3 finT
  rw [plS,storeOf_st rfl hu hm,← plS,← h.h hu hn]⟩
instance (priority:=500) FinZ.o {x : BX} [h : FinZ nB es0 (v + 1) B B' un] : FinZ nB es0 v (x :: B) (x :: B') (v :: un):=⟨fun hu hn=>by
  simp only [nowr,List.all_cons,Bool.and_eq_true,Bool.not_eq_true'] at hn
  unfold BZ3 finT
  rw [plS,storeOf_no hn.1,← plS,← h.h hu hn.2]⟩
theorem drop_at {e : SE} (h : e :: es = es0.drop i) : es0[i]? = some e ∧ es = es0.drop (i + 1):=by
  refine ⟨?_,by rw [← List.drop_drop,← h];rfl⟩
  have:=congrArg (fun l : List SE=>l[0]?) h
  simpa using this.symm
instance FinB.nil : FinB B0 β es0 i [] B B []:=⟨fun _ _ _ h=>h⟩
theorem FinB.pass {e : SE} (h : FinB B0 β es0 (i + 1) es B B' un) (hb : ∀ PL : List PO3,PL[i]? = some (poS B0.length es0 e) → BF3 PL β B0 (i + 1) = BF3 PL β B0 i) : FinB B0 β es0 i (e :: es) B B' un:=⟨fun hu hn he hB=>by
  obtain ⟨h1,h2⟩:=drop_at he
  rw [h.h hu hn h2 (by rw [hB,hb _ (plS_get h1)])]
  rw [List.length_cons,Nat.add_assoc,Nat.add_comm 1]⟩
instance FinB.g [h : FinB B0 β es0 (i + 1) es B B' un] : FinB B0 β es0 i (.g d τ u :: es) B B' un:=FinB.pass h fun PL hp=>by
  conv=>lhs;unfold BF3
  rw [hp];rfl
instance FinB.st [h : FinB B0 β es0 (i + 1) es B B' un] : FinB B0 β es0 i (.st j τ u :: es) B B' un:=FinB.pass h fun PL hp=>by
  conv=>lhs;unfold BF3
  rw [hp];rfl
instance FinB.sx [h : FinB B0 β es0 (i + 1) es B B' un] : FinB B0 β es0 i (.sx j τ u :: es) B B' un:=FinB.pass h fun PL hp=>by
  conv=>lhs;unfold BF3
  rw [hp];rfl
instance FinB.al [f : FT es0 i τ] [h : FinB B0 β es0 (i + 1) es (⟨β i,t,k,τ⟩ :: B) B' un] : FinB B0 β es0 i (.al d t k τz :: es) B B' un:=⟨fun hu hn he hB=>by
  obtain ⟨h1,h2⟩:=drop_at he
  obtain ⟨u,hm⟩:=f.h
  obtain ⟨m,hm⟩:=List.mem_iff_getElem?.1 hm
  have hs : finT (plS B0.length es0) (B0.length + i) τz = τ:=by
    unfold finT
    rw [plS,storeOf_st rfl hu hm]
  rw [h.h hu hn h2 (by rw [hB]; conv => rhs; unfold BF3
                       rw [plS_get h1];simp only [poS];rw [hs])]
  rw [List.length_cons,Nat.add_assoc,Nat.add_comm 1]⟩
theorem St.fins {L' : List (Nat × MT)} {Bz : List BX} {un2 : List Nat} {q : Prop} (hu : uniqS B0.length es = true) (S : St W0 G0 N (fL β 0 es L) (BF3 (plS B0.length es) β B0 es.length) a w G) [hl : FinL β 0 es L L'] [hz : FinZ B0.length es 0 B0 Bz un] [hb : FinB B0 β es 0 es Bz B' un2] (hn : (nowr B0.length es un && nowr B0.length es un2) = true) (K : St W0 G0 N L' B' a w G → q) : q:=by
  rw [Bool.and_eq_true] at hn
  have h1:=hl.h
  have h2:=hb.h hu hn.2 rfl (hz.h hu hn.1)
  rw [Nat.zero_add] at h2
  rw [← h1,← h2] at S
  exact K S
end
end
end Go.Proofs.YtpbkcbnghhodiaaGreat
set_option linter.unusedVariables false
set_option linter.unusedSimpArgs false
namespace Go.Proofs.YtpbkcbnghhodiaaGreat.W
open Go.RowKit (Below)
section
variable {P : Program} {B B' : List BX} {L L' out : List (Nat × MT)} {d : Nat} {ty t : TypeId} {pos : String} {aft : Array Edge} {τ τ' τ'' ρ ρ2 ρ3 σ : MT} {u v : List Nat} {ops rest all : List Oper} {x y : Operand} {k kt : Option Nat} {pre pre2 pre3 : Prop} {es : List RE} {ss : List SE}
variable {W0 : World} {G0 : Gh} {N : Nat} {a : Act} {w : World} {G : Gh} {Q : Exit → Act → World → Prop} {fn : Func} {p : Prop} {K R : Act → World → Prop} {id : Nat} {c c' : Code} {l : List Oper} {arr : Array Oper}
theorem run [R : Run P B all L ops pre es out rest] (hp : pre) (K : ∀ a w G,St W0 G0 N out B a w G → wpList P all.toArray Q rest a w) (hn : es.isEmpty = false:=by rfl) (hf : frs N (L.map (·.1)) es = true:=by rfl) : St W0 G0 N L B a w G → wpList P all.toArray Q ops a w:=fun S=>S.run hp K hn hf
theorem asg [h : Opd L x τ u] [r : Rm L d L'] (K : ∀ a w G,St W0 G0 N ((d,τ) :: L') B a w G → wpList P arr Q rest a w) (hf : fresh d L' = true:=by rfl) (hN : (decide (d < N)) = true:=by rfl) : St W0 G0 N L B a w G → wpList P arr Q (⟨some d,.assign x,ty,pos,aft,none⟩ :: rest) a w:=fun S=>S.asg K hf hN
theorem mv [h : Opd L x τ u] [r : Rm L d L'] (K : ∀ a w G,St W0 G0 N ((d,τ) :: L') B a w G → wpList P arr Q rest a w) (hf : fresh d L' = true:=by rfl) (hN : (decide (d < N)) = true:=by rfl) : St W0 G0 N L B a w G → wpList P arr Q (⟨some d,.move x,ty,pos,aft,none⟩ :: rest) a w:=fun S=>S.mvk K hf hN
theorem bx [h : Opd L x τ u] [hk : TyS P t k] [hs : ShK τ k] (K : ∀ b a w G,St W0 G0 N ((d,PB b) :: L) (⟨b,t,k,τ⟩ :: B) a w G → wpList P arr Q rest a w) (hf : fresh d L = true:=by rfl) (hN : (decide (d < N)) = true:=by rfl) : St W0 G0 N L B a w G → wpList P arr Q (⟨some d,.box t x,ty,pos,aft,none⟩ :: rest) a w:=fun S=>S.bx1 K hf hN
theorem al [hz : Zer P t k τ] (K : ∀ b a w G,St W0 G0 N ((d,PB b) :: L) (⟨b,t,k,τ⟩ :: B) a w G → wpList P arr Q rest a w) (hf : fresh d L = true:=by rfl) (hN : (decide (d < N)) = true:=by rfl) : St W0 G0 N L B a w G → wpList P arr Q (⟨some d,.alloc t,ty,pos,aft,none⟩ :: rest) a w:=fun S=>S.al K hf hN
theorem st {b : Nat} [hx : Opd L x (PB b) u] {i0 : Nat} [hb : Bx B b i0 ty k τ'] [hT : TyS P t k] [hy : Opd L y τ v] [hs : ShK τ k] [hB : BSet B b ⟨b,ty,k,τ⟩ B'] (K : ∀ w,St W0 G0 N L B' a w G → wpList P arr Q rest a w) {ty' : TypeId} : St W0 G0 N L B a w G → wpList P arr Q (⟨none,.store t x y,ty',pos,aft,none⟩ :: rest) a w:=fun S=>S.st K
theorem stp {b i n : Nat} [hx : Opd L x (.ex (.pointer (some ⟨b, i, none⟩))) u] {i0 : Nat} [hb : Bx B b i0 ty (some n) τ'] [hT : TyS P t kt] [hy : Opd L y τ v] [hs : ShK τ kt] [hu : Upd τ' i kt τ τ''] [hB : BSet B b ⟨b, ty, some n, τ''⟩ B'] (K : ∀ w, St W0 G0 N L B' a w G → wpList P arr Q rest a w) (hn : i + kt.getD 1 ≤ n := by decide) {ty' : TypeId} :
    St W0 G0 N L B a w G → wpList P arr Q (⟨none,.store t x y,ty',pos,aft,none⟩ :: rest) a w:=fun S=>S.stp K hn
theorem ds [R : RunS P B all 0 L [] all pre ss rest] (hp : pre) (K : ∀ β a w G, uniqS B.length ss = true → St W0 G0 N (fL β 0 ss L) (BF3 (plS B.length ss) β B ss.length) a w G → wpList P all.toArray Q rest a w) (hm : P.follows .mixedOrders = true) (hd : (drawOk3 all.toArray (plS B.length ss) (L.map (·.1)) N && (uniqS B.length ss && bxOk all.toArray B.length ss)) = true) :
    St W0 G0 N L B a w G → (Code.region id all.toArray true).wp P Q a w:=fun S=>S.ds hp K hm hd
theorem fin {β : Nat → Nat} {B0 Bz : List BX} {un un2 : List Nat} {q : Prop} [hl : FinL β 0 ss L L'] [hz : FinZ B0.length ss 0 B0 Bz un] [hb : FinB B0 β ss 0 ss Bz B' un2] (K : St W0 G0 N L' B' a w G → q) (hu : uniqS B0.length ss = true) (hn : (nowr B0.length ss un && nowr B0.length ss un2) = true:=by rfl) : St W0 G0 N (fL β 0 ss L) (BF3 (plS B0.length ss) β B0 ss.length) a w G → q:=fun S=>S.fins hu hn K
theorem cd {q : Prop} [i : Decidable q] [h : Lk L t (BT (decide q))] (h1 : q → St W0 G0 N L B a w G → c.wp P Q a w) (h2 : ¬ q → St W0 G0 N L B a w G → c'.wp P Q a w) : St W0 G0 N L B a w G → (Code.cond (.tmp t) c c').wp P Q a w:=fun S=>S.cd (fun e=>h1 e S) (fun e=>h2 e S)
theorem cb {b : Bool} [h : Lk L t (BT b)] (h1 : b = true → St W0 G0 N L B a w G → c.wp P Q a w) (h2 : b = false → St W0 G0 N L B a w G → c'.wp P Q a w) : St W0 G0 N L B a w G → (Code.cond (.tmp t) c c').wp P Q a w:=fun S=>S.cb (fun e=>h1 e S) (fun e=>h2 e S)
theorem rt1 {r : ResultVar} (hr : fn.results = #[r]) [h : Rs1 P L B r τ'] [c : Cv τ' τ pre] (hp : pre) : St W0 G0 N L B a w G → bodyPost P fn (Ret W0 G0 τ) .ret a w:=fun S=>S.rt1 hr hp
theorem rt2 {r r2 : ResultVar} (hr : fn.results = #[r,r2]) [h : Rs1 P L B r τ'] [c : Cv τ' ρ pre] [h2 : Rs1 P L B r2 τ''] [c2 : Cv τ'' ρ2 pre2] (hp : pre) (hp2 : pre2) : St W0 G0 N L B a w G → bodyPost P fn (Ret W0 G0 (.tup2 ρ ρ2)) .ret a w:=fun S=>S.rt2 hr hp hp2
theorem rt3 {r r2 r3 : ResultVar} (hr : fn.results = #[r,r2,r3]) [h : Rs1 P L B r τ'] [c : Cv τ' ρ pre] [h2 : Rs1 P L B r2 τ''] [c2 : Cv τ'' ρ2 pre2] [h3 : Rs1 P L B r3 σ] [c3 : Cv σ ρ3 pre3] (hp : pre) (hp2 : pre2) (hp3 : pre3) : St W0 G0 N L B a w G → bodyPost P fn (Ret W0 G0 (.tup3 ρ ρ2 ρ3)) .ret a w:=fun S=>S.rt3 hr hp hp2 hp3
theorem nn (hK : ∀ a w,R a w → K a w) (h : p → R a w) : p → wpList P arr (Exit.then K Q) [] a w:=fun S=>wn hK (h S)
theorem reg (h : ∀ K : Act → World → Prop,(∀ a w,c.wp P Q a w → K a w) → p → wpList P l.toArray (Exit.then K Q) l a w) : p → (Code.seq (.region id l.toArray false) c).wp P Q a w:=fun S=>wp_reg fun K hK=>h K hK S
theorem reg1 (h : p → wpList P l.toArray Q l a w) : p → (Code.region id l.toArray false).wp P Q a w:=fun S=>wp_region_lit (h S)
theorem sq (h : ∀ K : Act → World → Prop,(∀ a w,c'.wp P Q a w → K a w) → p → c.wp P (Exit.then K Q) a w) : p → (Code.seq c c').wp P Q a w:=fun S=>wp_seq_k fun K hK=>h K hK S
theorem sk (h : p → Q .normal a w) : p → Code.skip.wp P Q a w:=fun S=>wp_skip (h S)
theorem kn (hK : ∀ a w,R a w → K a w) (h : p → R a w) : p → Exit.then K Q .normal a w:=fun S=>hK _ _ (h S)
theorem rt (h : p → Q .ret a w) : p → Code.ret.wp P Q a w:=fun S=>wp_ret (h S)
theorem tr (h : p → Q .ret a w) : p → Exit.then K Q .ret a w:=h
theorem br (h : p → Q .ret a w) : p → Exit.inBlock id Q .ret a w:=h
theorem bn (h : p → Q .normal a w) : p → Exit.inBlock id Q .normal a w:=h
theorem bl (h : p → c.wp P (Exit.inBlock id Q) a w) : p → (Code.block id c).wp P Q a w:=fun S=>wp_block (h S)
theorem nl (h : p → Q .normal a w) : p → wpList P arr Q [] a w:=fun S=>wpList_nil (h S)
end
end Go.Proofs.YtpbkcbnghhodiaaGreat.W
set_option linter.unusedVariables false
set_option linter.unusedSimpArgs false
namespace Go.Proofs.YtpbkcbnghhodiaaGreat
open Go.RowKit (Below)
class AppL (l1 l2 : List (Nat × MT)) (l : outParam (List (Nat × MT))) : Prop where
  h : l = l1 ++ l2
instance AppL.nil {l : List (Nat × MT)} : AppL [] l l:=⟨rfl⟩
instance AppL.cons {x : Nat × MT} {l1 l2 l : List (Nat × MT)} [h : AppL l1 l2 l] : AppL (x :: l1) l2 (x :: l):=⟨by rw [h.h];rfl⟩
class In (l : List Nat) (x : Nat) : Prop where
  h : True
instance In.hd {l : List Nat} {x : Nat} : In (x :: l) x:=⟨trivial⟩
instance (priority:=500) In.tl {l : List Nat} {x y : Nat} [In l x] : In (y :: l) x:=⟨trivial⟩
class Rms (L : List (Nat × MT)) (ws : List Nat) (L' : outParam (List (Nat × MT))) : Prop where
  h : True
instance Rms.nil {ws : List Nat} : Rms [] ws []:=⟨trivial⟩
instance Rms.hd {L L' : List (Nat × MT)} {ws : List Nat} {t : Nat} {τ : MT} [In ws t] [Rms L ws L'] : Rms ((t,τ) :: L) ws L':=⟨trivial⟩
instance (priority:=500) Rms.tl {L L' : List (Nat × MT)} {ws : List Nat} {x : Nat × MT} [Rms L ws L'] : Rms (x :: L) ws (x :: L'):=⟨trivial⟩
class BSetL (L : List (Nat × MT)) (B : List BX) (l : List (Nat × MT)) (B' : outParam (List BX)) : Prop where
  h : True
instance BSetL.nil {L : List (Nat × MT)} {B : List BX} : BSetL L B [] B:=⟨trivial⟩
instance BSetL.cons {L : List (Nat × MT)} {B B1 B' : List BX} {t b i : Nat} {ty : TypeId} {k : Option Nat} {τ0 σ : MT} {l : List (Nat × MT)} [Lk L t (PB b)] [Bx B b i ty k τ0] [BSet B b ⟨b,ty,k,σ⟩ B1] [BSetL L B1 l B'] : BSetL L B ((t,σ) :: l) B':=⟨trivial⟩
class Wk (L L' : List (Nat × MT)) (pre : outParam Prop) : Prop where
  h : pre → ∀ {a : Act} {G : Gh},(∀ u,Env L u a G) → ∀ p ∈ L',p.2.t (tm a p.1) G
instance Wk.nil {L : List (Nat × MT)} : Wk L [] True:=⟨fun _ _ _ _ p hp=>by simp at hp⟩
instance Wk.cons {L L' : List (Nat × MT)} {t : Nat} {τ τ' : MT} {q r : Prop} [h : Lk L t τ] [c : Cv τ τ' q] [k : Wk L L' r] : Wk L ((t,τ') :: L') (q ∧ r):=⟨fun hp a G hE p hm=>by
  rcases List.mem_cons.1 hm with e | e
  · subst e;exact c.h hp.1 (hE [t] t τ (by simp) h.m)
  · exact k.h hp.2 hE p e⟩
class WkB (B B' : List BX) (js : outParam (List Nat)) (pre : outParam Prop) : Prop where
  h : pre → ∀ {W0 w : World} {G : Gh},(∀ u,Bku B u W0 w G) → ∀ (i : Nat) (x : BX),B'[i]? = some x → x.ok W0 w G ∧ ∃ j y,js[i]? = some j ∧ B[j]? = some y ∧ y.b = x.b
instance WkB.nil {B : List BX} : WkB B [] [] True:=⟨fun _ _ _ _ _ i x h=>by simp at h⟩
instance WkB.cons {B B' : List BX} {b i : Nat} {ty : TypeId} {k : Option Nat} {τ τ' : MT} {js : List Nat} {q r : Prop} [h : Bx B b i ty k τ] [c : Cv τ τ' q] [l : WkB B B' js r] : WkB B (⟨b,ty,k,τ'⟩ :: B') (i :: js) (q ∧ r):=⟨fun hp W0 w G hB n x hx=>by
  cases n with
  | zero =>
    cases hx
    obtain ⟨h1,h2,v,h3,h4,h5⟩:=hB [1000000 + i] i _ (by simp) h.m
    exact ⟨⟨h1,h2,v,h3,h4,c.h hp.1 h5⟩,i,_,rfl,h.m,rfl⟩
  | succ n =>
    obtain ⟨h1,j,y,h2,h3,h4⟩:=l.h hp.2 hB n x hx
    exact ⟨h1,j,y,h2,h3,h4⟩⟩
theorem nodupB_ne : ∀ {js : List Nat} {i j a b : Nat},nodupB js = true → js[i]? = some a → js[j]? = some b → i ≠ j → a ≠ b
  | _ :: _,0,0,_,_,_,_,_,h=>absurd rfl h
  | x :: js,0,j + 1,a,b,hn,ha,hb,_=>fun e=>by
    simp only [nodupB,Bool.and_eq_true,Bool.not_eq_true'] at hn
    have ha : x = a:=by simpa using ha
    have : js.contains b = true:=List.contains_iff_mem.2 (List.mem_of_getElem? (by simpa using hb))
    rw [← e,← ha,hn.1] at this;cases this
  | x :: js,i + 1,0,a,b,hn,ha,hb,_=>fun e=>by
    simp only [nodupB,Bool.and_eq_true,Bool.not_eq_true'] at hn
    have hb : x = b:=by simpa using hb
    have : js.contains a = true:=List.contains_iff_mem.2 (List.mem_of_getElem? (by simpa using ha))
    rw [e,← hb,hn.1] at this;cases this
  | x :: js,i + 1,j + 1,a,b,hn,ha,hb,h=>by
    simp only [nodupB,Bool.and_eq_true] at hn
    exact nodupB_ne hn.2 (by simpa using ha) (by simpa using hb) (by omega)
  | [],_,_,_,_,_,h,_,_=>by simp at h
section
variable {P : Program} {B B' : List BX} {L L' : List (Nat × MT)} {js : List Nat} {p1 p2 : Prop} {W0 : World} {G0 : Gh} {N : Nat} {a : Act} {w : World} {G : Gh} {Q : Exit → Act → World → Prop}
theorem St.wk (S : St W0 G0 N L B a w G) [h : Wk L L' p1] [hb : WkB B B' js p2] (hp : p1) (hp2 : p2) (hn : nodupB js = true) : St W0 G0 N L' B' a w G where
  nxt:=S.nxt
  size:=S.size
  dfr:=S.dfr
  ty:=fun i p hi=>h.h hp (fun u=>S.env u) p (List.mem_of_getElem? hi)
  bx:=fun i x hi=>(hb.h hp2 (fun u=>S.bok u) i x hi).1
  nd:=fun i j x y hx hy hij=>by
    obtain ⟨_,m,u,h1,h2,h3⟩:=hb.h hp2 (fun u=>S.bok u) i x hx
    obtain ⟨_,m',u',h1',h2',h3'⟩:=hb.h hp2 (fun u=>S.bok u) j y hy
    rw [← h3,← h3']
    exact S.nd m m' u u' h2 h2' (nodupB_ne hn h1 h1' hij)
namespace W
variable {id i : Nat} {c : Code} {p : Prop} {K : Act → World → Prop}
def Inv {α : Type} (W0 : World) (G0 : Gh) (N : Nat) (φ : α → Prop) (L : α → List (Nat × MT)) (B : α → List BX) (x : α) (a : Act) (w : World) : Prop:=φ x ∧ ∃ G,St W0 G0 N (L x) (B x) a w G
theorem wk {L' : List (Nat × MT)} {B' : List BX} [h : Wk L L' p1] [hb : WkB B B' js p2] {r : Prop} (hp : p1) (hp2 : p2) (K : St W0 G0 N L' B' a w G → r) (hn : nodupB js = true:=by rfl) : St W0 G0 N L B a w G → r:=fun S=>K (S.wk hp hp2 hn)
theorem lp {α : Type} (m : α → Nat) (φ : α → Prop) (ws : List Nat) (nw bw : α → List (Nat × MT)) (x0 : α) {L1 : List (Nat × MT)} {L' : α → List (Nat × MT)} {B' : α → List BX} [Rms L ws L1] [∀ x, AppL (nw x) L1 (L' x)] [∀ x, BSetL L B (bw x) (B' x)]
    [h : Wk L (L' x0) p1] [hb : WkB B (B' x0) js p2] (h0 : φ x0) (hp : p1) (hp2 : p2)
    (round : ∀ x,φ x → ∀ a w G,St W0 G0 N (L' x) (B' x) a w G → c.wp P (Exit.then (fun a w=>∃ y,m y < m x ∧ Inv W0 G0 N φ L' B' y a w) Q) a w) (hn : nodupB js = true:=by rfl) : St W0 G0 N L B a w G → (Code.loop c).wp P Q a w:=fun S =>
  wp_loopJ (fun μ a w=>∃ x,μ = m x ∧ Inv W0 G0 N φ L' B' x a w) (m x0) ⟨x0,rfl,h0,G,S.wk hp hp2 hn⟩ fun μ a w ⟨x,e,hx,G,S⟩=>by
    subst e
    refine Code.wp_mono ?_ (round x hx a w G S)
    intro e a w h
    cases e <;> first | exact h | skip
    obtain ⟨y,h1,h2⟩:=h
    exact ⟨m y,h1,y,rfl,h2⟩
theorem ag {α : Type} {m : α → Nat} {φ : α → Prop} {L' : α → List (Nat × MT)} {B' : α → List BX} {x : α} (y : α) [h : Wk L (L' y) p1] [hb : WkB B (B' y) js p2] (hm : m y < m x) (hy : φ y) (hp : p1) (hp2 : p2) (hn : nodupB js = true := by rfl) :
    St W0 G0 N L B a w G → Exit.then (fun a w=>∃ y,m y < m x ∧ Inv W0 G0 N φ L' B' y a w) Q .normal a w:=fun S=>⟨y,hm,hy,G,S.wk hp hp2 hn⟩
theorem ex (h : p → Q (.exit id) a w) : p → (Code.exit id).wp P Q a w:=fun S=>wp_exit (h S)
theorem xt (h : p → Q (.exit i) a w) : p → Exit.then K Q (.exit i) a w:=h
theorem xb (h : p → Q .normal a w) : p → Exit.inBlock id Q (.exit id) a w:=by
  intro hp
  simp only [Exit.inBlock,if_true]
  exact h hp
theorem xo (h : p → Q (.exit i) a w) (hne : (i == id) = false:=by rfl) : p → Exit.inBlock id Q (.exit i) a w:=by
  intro hp
  simp only [Exit.inBlock]
  rw [if_neg (by simpa using hne)]
  exact h hp
end W
end
end Go.Proofs.YtpbkcbnghhodiaaGreat
namespace Go.Proofs.YtpbkcbnghhodiaaGreat
set_option maxHeartbeats 1000000
set_option maxRecDepth 100000
open Go.RowKit (Below)
private theorem c_11 : callable Tryz.prog 11 = true:=by kernel_rfl
private theorem c_34 : callable Tryz.prog 34 = true:=by kernel_rfl
private theorem c_41 : callable Tryz.prog 41 = true:=by kernel_rfl
private theorem c_43 : callable Tryz.prog 43 = true:=by kernel_rfl
private theorem if_30 : ifaceT Tryz.prog 30:=by unfold ifaceT;kernel_rfl
private theorem mixedOrders : Tryz.prog.follows .mixedOrders = true:=by kernel_rfl
private theorem tS_24 : tyS Tryz.prog 24 (some 3) = true:=by kernel_rfl
theorem fValidX_ok {n : Nat} {r : FR} {v1 : Value} {W0 : World} {G0 : Gh} (hok : Gok W0 G0) (h1 : (FX n r).t v1 G0) (hn : n ≤ BIG) : Calls Tryz.prog 63 #[v1] W0 (Ret W0 G0 (BT r.ok)):=by
 exact fValid_ok hok (FX.qr h1) h1.2.1 h1.2.2.1 hn
theorem gValidX_ok {n : Nat} {r : FR} {v1 : Value} {W0 : World} {G0 : Gh} (hok : Gok W0 G0) (h1 : (FX n r).t v1 G0) (hn : n ≤ BIG) : Calls Tryz.prog 39 #[v1] W0 (Ret W0 G0 (BT r.ok)):=by
 exact gValid_ok hok (FX.qr h1) h1.2.1 h1.2.2.1 hn
theorem bNum_ok {z : Int} {v1 : Value} {W0 : World} {G0 : Gh} (hok : Gok W0 G0) (h1 : (MT.ex (errV 70 (z))).t v1 G0)  : Calls Tryz.prog 11 #[v1] W0 (Ret W0 G0 (IT z)):=by
 refine St.enter (N:=15) (L:=[(0,MT.ex (errV 70 (z)))]) (args:=[v1]) Tryz.func11 rfl rfl rfl hok (enter1 h1) fun a S=>?_
 refine wp_reg fun K hK=>?_
 refine S.s (τ:=NT 0) (OpR.asn S.ok rfl (rfl : _ = nv .i64 0)) rfl fun a w G S=>?_
 refine wn hK ?_;clear hK K
 refine wp_seq_k fun K hK=>?_
 refine wp_reg fun K hK=>?_
 refine S.m rfl (S.g 1 rfl) rfl fun a w G S=>?_
 refine S.s (τ:=BT (decide ((z) = 0))) (OpR.isB errV_eql (OpR.errEqNil S.ok rfl if_30 (S.e 0 rfl) (by first | exact .inl rfl | exact .inr ⟨_,_,rfl⟩ | exact errV_or _) rfl)) rfl fun a w G S=>?_
 refine wn hK ?_;clear hK K
 replace S:=S.d1
 refine S.cond 0 rfl (fun hc1=>?_) (fun hc1=>?_)
 ·
  have hp2:=of_decide_eq_true hc1
  refine wp_reg fun K hK=>?_
  replace S:=S.d1
  refine S.s (τ:=NT 0) (OpR.asn S.ok rfl (rfl : _ = nv .i64 0)) rfl fun a w G S=>?_
  refine wn hK ?_;clear hK K
  exact wp_ret (then_ret (S.retTmp rfl ((S.e 0 rfl).trans (iv_eq (by first | rfl | omega | (simp only [Nat.zero_add,Nat.add_zero];done) | (simp;done) | (push_cast;omega))))))
 ·
  have hp3:=of_decide_eq_false hc1
  refine wp_skip ?_
  refine hK _ _ ?_;clear hK K
  refine wp_reg fun K hK=>?_
  refine S.m rfl (S.g 2 rfl) rfl fun a w G S=>?_
  refine S.s (τ:=MT.tup2 (IT z) (BT true)) (OpR.tass S.ok rfl (S.e 0 rfl) (by omega) Tryz.underlying70 ⟨_,_,rfl,rfl,rfl⟩) rfl fun a w G S=>?_
  refine S.m rfl (S.g 0 rfl) rfl fun a w G S=>?_
  refine S.s (OpR.ext2a S.ok rfl (S.g 0 rfl)) rfl fun a w G S=>?_
  refine S.s (OpR.ext2b S.ok rfl (S.g 1 rfl)) rfl fun a w G S=>?_
  refine S.q rfl (S.g 1 rfl) rfl fun a w G S=>?_
  refine S.q rfl (S.g 1 rfl) rfl fun a w G S=>?_
  refine wn hK ?_;clear hK K
  replace S:=S.d6.d5.d4.d3.d2
  refine wp_seq_k fun K hK=>?_
  refine wp_reg fun K hK=>?_
  refine S.m rfl (S.g 0 rfl) rfl fun a w G S=>?_
  refine S.s (τ:=BT false) (OpR.bnot S.ok rfl (S.e 0 rfl) rfl) rfl fun a w G S=>?_
  refine wn hK ?_;clear hK K
  replace S:=S.d2.d1
  refine wp_cond_false (S.e 0 rfl) ?_
  refine wp_skip ?_
  refine hK _ _ ?_;clear hK K
  refine wp_reg fun K hK=>?_
  refine S.m rfl (S.g 1 rfl) rfl fun a w G S=>?_
  replace S:=S.d4
  refine S.q rfl (S.g 0 rfl) rfl fun a w G S=>?_
  refine wn hK ?_;clear hK K
  replace S:=S.d3.d1
  exact wp_ret (S.retTmp rfl (S.g 0 rfl))
theorem bIs_ok {z c : Int} {v1 v2 : Value} {W0 : World} {G0 : Gh} (hok : Gok W0 G0) (h1 : (MT.ex (errV 70 (z))).t v1 G0) (h2 : (IT c).t v2 G0)  : Calls Tryz.prog 21 #[v1,v2] W0 (Ret W0 G0 (BT (decide (z = c)))):=by
 refine St.enter (N:=9) (L:=[(1,IT c),(0,MT.ex (errV 70 (z)))]) (args:=[v1,v2]) Tryz.func21 rfl rfl rfl hok (enter2 h1 h2) fun a S=>?_
 refine wp_reg fun K hK=>?_
 refine S.s (τ:=BT false) (OpR.asn S.ok rfl rfl) rfl fun a w G S=>?_
 refine wn hK ?_;clear hK K
 refine wp_reg fun K hK=>?_
 refine S.m rfl (S.g 2 rfl) rfl fun a w G S=>?_
 refine S.s (τ:=IT (?z)) (OpR.call1 rfl c_11 (bNum_ok S.ok ((S.e 0 rfl).trans (by first | rfl | omega | (simp only [Nat.zero_add,Nat.add_zero];done) | (simp;done) | (push_cast;omega))))) rfl fun a w G S=>?_
 refine S.m rfl (S.g 3 rfl) rfl fun a w G S=>?_
 refine S.s (OpR.zeql S.ok rfl (S.e 1 rfl) (S.e 0 rfl) MT.self) rfl fun a w G S=>?_
 replace S:=S.d4
 refine S.q rfl (S.g 0 rfl) rfl fun a w G S=>?_
 refine wn hK ?_;clear hK K
 replace S:=S.d6.d5.d4.d3.d2.d1
 exact wp_ret (S.retTmp rfl ((S.e 0 rfl).trans (bv_eq (by first | rfl | omega | (simp only [Nat.zero_add,Nat.add_zero];done) | (simp;done) | (push_cast;omega)))))
theorem xmixed_ok {n m k : Nat} {x y d : Rat} {v1 v2 v3 : Value} {W0 : World} {G0 : Gh} (hok : Gok W0 G0) (h1 : (QV n x).t v1 G0) (h2 : (QV m y).t v2 G0) (h3 : (QV k d).t v3 G0) (hn : n + n + (m + m + k) ≤ BIG) : Calls Tryz.prog 113 #[v1,v2,v3] W0 (Ret W0 G0 (IT (mixedF x y d))):=by
 refine St.enter (N:=38) (L:=[(2,QV k d),(1,QV m y),(0,QV n x)]) (args:=[v1,v2,v3]) Tryz.func113 rfl rfl rfl hok (enter3 h1 h2 h3) fun a S=>?_
 refine wp_reg fun K hK=>?_
 refine S.boxop (x:=.tmp 0) (τ:=QV n x) (S.g 2 rfl) (sh (τ:=QV n x) (S.g 2 rfl)) rfl rfl rfl rfl rfl fun b3 a w G S=>?_
 refine S.boxop (x:=.tmp 1) (τ:=QV m y) (S.g 2 rfl) (sh (τ:=QV m y) (S.g 2 rfl)) rfl rfl rfl rfl rfl fun b4 a w G S=>?_
 refine S.boxop (x:=.tmp 2) (τ:=QV k d) (S.g 2 rfl) (sh (τ:=QV k d) (S.g 2 rfl)) rfl rfl rfl rfl rfl fun b5 a w G S=>?_
 refine S.s (τ:=NT 0) (OpR.asn S.ok rfl (rfl : _ = nv .i64 0)) rfl fun a w G S=>?_
 refine wn hK ?_;clear hK K
 replace S:=S.d6.d5.d4
 refine wp_seq_k fun K hK=>?_
 refine S.drawn [⟨9,.g (QV n x),[]⟩,⟨10,.g (IT x.num.sign),[0]⟩,⟨11,.g (QV m y),[]⟩,⟨12,.g (IT y.num.sign),[2]⟩,⟨13,.g (QV k d),[]⟩,⟨14,.g (IT d.num.sign),[4]⟩,⟨15,.g (IT (y.num.sign * d.num.sign)),[3,5]⟩,⟨7,.g (IT x.num.sign),[1]⟩,⟨8,.g (IT (y.num.sign * d.num.sign)),[6]⟩] mixedOrders (by kernel_rfl)
  ⟨fun a w G S=>.of rfl (OpR.ldBox S.ok rfl (S.e 3 rfl) (S.box 2 rfl) tS_24),
   fun a w G S=>.of rfl (OpR.call1 rfl c_34 (fSign_ok S.ok (S.g 0 rfl) (by omega))),
   fun a w G S=>.of rfl (OpR.ldBox S.ok rfl (S.e 2 rfl) (S.box 1 rfl) tS_24),
   fun a w G S=>.of rfl (OpR.call1 rfl c_34 (fSign_ok S.ok (S.g 0 rfl) (by omega))),
   fun a w G S=>.of rfl (OpR.ldBox S.ok rfl (S.e 1 rfl) (S.box 0 rfl) tS_24),
   fun a w G S=>.of rfl (OpR.call1 rfl c_34 (fSign_ok S.ok (S.g 0 rfl) (by omega))),
   fun a w G S=>.of rfl (OpR.imul S.ok rfl (S.e 0 rfl) (S.e 1 rfl) (iw_i64 rfl (sg_mul_bd _ _))),
   fun a w G S=>.of rfl (OpR.asn S.ok rfl (S.g 0 rfl)),
   fun a w G S=>.of rfl (OpR.asn S.ok rfl (S.g 0 rfl)),trivial⟩ fun β a w G S=>?_
 replace S : St W0 G0 38 [(8,IT (y.num.sign * d.num.sign)),(7,IT x.num.sign),(6,NT 0),(5,PB b5),(4,PB b4),(3,PB b3)] [⟨b5,24,some 3,QV k d⟩,⟨b4,24,some 3,QV m y⟩,⟨b3,24,some 3,QV n x⟩] a _ _:=S.keep [0,1,9,10,11,12]
 refine wn hK ?_;clear hK K
 refine wp_seq_k fun K hK=>?_
 refine wp_reg fun K hK=>?_
 refine S.m rfl (S.g 1 rfl) rfl fun a w G S=>?_
 refine S.s (OpR.zeql S.ok rfl (S.e 0 rfl) (rfl : _ = nv .i64 0) MT.self) rfl fun a w G S=>?_
 refine S.m rfl (S.g 0 rfl) rfl fun a w G S=>?_
 rcases Bool.eq_false_or_eq_true (decide (x.num.sign = 0)) with hc1 | hc1
 ·
  have hp2:=of_decide_eq_true hc1
  replace S:=S.boolIs 0 rfl hc1
  refine S.skipG 0 rfl rfl rfl rfl rfl rfl fun a w G S=>?_
  refine S.skipG 1 rfl rfl rfl rfl rfl rfl fun a w G S=>?_
  refine S.skipG 2 rfl rfl rfl rfl rfl rfl fun a w G S=>?_
  refine S.s (τ:=BT true) (OpR.pick S.ok rfl (S.e 3 rfl) rfl) rfl fun a w G S=>?_
  refine wn hK ?_;clear hK K
  replace S:=S.d7.d6.d5.d4.d3.d2.d1
  refine wp_cond_true (S.e 0 rfl) ?_
  refine wp_reg fun K hK=>?_
  refine S.m rfl (S.g 1 rfl) rfl fun a w G S=>?_
  replace S:=S.d4
  refine S.q rfl (S.g 0 rfl) rfl fun a w G S=>?_
  refine wn hK ?_;clear hK K
  replace S:=S.d1
  exact wp_ret (then_ret (S.retTmp rfl ((S.e 0 rfl).trans (iv_eq (by unfold mixedF;first | rw [if_pos (by omega)] | rw [if_neg (by omega),if_pos (by omega)] | rw [if_neg (by omega),if_neg (by omega)])))))
 ·
  have hp3:=of_decide_eq_false hc1
  replace S:=S.boolIs 0 rfl hc1
  refine S.stepG 0 (OpR.mv S.ok rfl (S.g 5 rfl)) rfl rfl rfl rfl rfl rfl fun a w G S=>?_
  refine S.stepG 1 (OpR.mv S.ok rfl (S.g 5 rfl)) rfl rfl rfl rfl rfl rfl fun a w G S=>?_
  refine S.stepG 2 (OpR.zeql S.ok rfl (S.e 1 rfl) (S.e 0 rfl) MT.self) rfl rfl rfl rfl rfl rfl fun a w G S=>?_
  refine S.s (τ:=BT (decide (x.num.sign = (y.num.sign * d.num.sign)))) (OpR.pick S.ok rfl (S.e 3 rfl) (S.g 0 rfl)) rfl fun a w G S=>?_
  refine wn hK ?_;clear hK K
  replace S:=S.d7.d6.d5.d4.d3.d2.d1
  refine S.cond 0 rfl (fun hc4=>?_) (fun hc4=>?_)
  ·
   have hp5:=of_decide_eq_true hc4
   refine wp_reg fun K hK=>?_
   refine S.m rfl (S.g 1 rfl) rfl fun a w G S=>?_
   replace S:=S.d4
   refine S.q rfl (S.g 0 rfl) rfl fun a w G S=>?_
   refine wn hK ?_;clear hK K
   replace S:=S.d1
   exact wp_ret (then_ret (S.retTmp rfl ((S.e 0 rfl).trans (iv_eq (by unfold mixedF;first | rw [if_pos (by omega)] | rw [if_neg (by omega),if_pos (by omega)] | rw [if_neg (by omega),if_neg (by omega)])))))
  ·
   have hp6:=of_decide_eq_false hc4
   refine wp_skip ?_
   refine hK _ _ ?_;clear hK K
   refine wp_seq_k fun K hK=>?_
   refine wp_reg fun K hK=>?_
   refine S.m rfl (S.g 1 rfl) rfl fun a w G S=>?_
   refine S.s (OpR.zeql S.ok rfl (S.e 0 rfl) (rfl : _ = nv .i64 0) MT.self) rfl fun a w G S=>?_
   refine wn hK ?_;clear hK K
   replace S:=S.d1
   refine S.cond 0 rfl (fun hc7=>?_) (fun hc7=>?_)
   ·
    have hp8:=of_decide_eq_true hc7
    refine wp_reg fun K hK=>?_
    refine S.m rfl (S.g 3 rfl) rfl fun a w G S=>?_
    replace S:=S.d5
    refine S.q rfl (S.g 0 rfl) rfl fun a w G S=>?_
    refine wn hK ?_;clear hK K
    replace S:=S.d1
    exact wp_ret (then_ret (S.retTmp rfl ((S.e 0 rfl).trans (iv_eq (by unfold mixedF;first | rw [if_pos (by omega)] | rw [if_neg (by omega),if_pos (by omega)] | rw [if_neg (by omega),if_neg (by omega)])))))
   ·
    have hp9:=of_decide_eq_false hc7
    refine wp_skip ?_
    refine hK _ _ ?_;clear hK K
    refine wp_seq_k fun K hK=>?_
    replace S:=S.d4
    refine S.drawn [⟨27,.g (IT x.num.sign),[]⟩,⟨28,.g (QV n x),[]⟩,⟨29,.g (QV n x),[]⟩,⟨30,.g (QC (n + n) (x * x)),[1,2]⟩,⟨31,.g (QV m y),[]⟩,⟨32,.g (QV m y),[]⟩,⟨33,.g (QC (m + m) (y * y)),[4,5]⟩,⟨34,.g (QV k d),[]⟩,⟨35,.g (QC ((m + m) + k) ((y * y) * d)),[6,7]⟩,⟨36,.g (IT (cmpQ (x * x) ((y * y) * d))),[3,8]⟩,⟨37,.g (IT (x.num.sign * cmpQ (x * x) (y * y * d))),[0,9]⟩,⟨6,.g (IT (x.num.sign * cmpQ (x * x) (y * y * d))),[10]⟩] mixedOrders (by kernel_rfl)
     ⟨fun a w G S=>.of rfl (OpR.mv S.ok rfl (S.g 3 rfl)),
      fun a w G S=>.of rfl (OpR.ldBox S.ok rfl (S.e 6 rfl) (S.box 2 rfl) tS_24),
      fun a w G S=>.of rfl (OpR.ldBox S.ok rfl (S.e 6 rfl) (S.box 2 rfl) tS_24),
      fun a w G S=>.of rfl (OpR.call2 rfl c_43 (fMul_ok S.ok (S.g 0 rfl) (S.g 1 rfl) (by omega))),
      fun a w G S=>.of rfl (OpR.ldBox S.ok rfl (S.e 5 rfl) (S.box 1 rfl) tS_24),
      fun a w G S=>.of rfl (OpR.ldBox S.ok rfl (S.e 5 rfl) (S.box 1 rfl) tS_24),
      fun a w G S=>.of rfl (OpR.call2 rfl c_43 (fMul_ok S.ok (S.g 0 rfl) (S.g 1 rfl) (by omega))),
      fun a w G S=>.of rfl (OpR.ldBox S.ok rfl (S.e 4 rfl) (S.box 0 rfl) tS_24),
      fun a w G S=>.of rfl (OpR.call2 rfl c_43 (fMul_ok S.ok (QC.toQV (S.g 0 rfl)) (S.g 1 rfl) (by omega))),
      fun a w G S=>.of rfl (OpR.call2 rfl c_41 (fCmp_ok S.ok (QC.toQV (S.g 0 rfl)) (QC.toQV (S.g 1 rfl)) (by omega))),
      fun a w G S=>.of rfl (OpR.imul S.ok rfl (S.e 0 rfl) (S.e 1 rfl) (iw_i64 rfl (sg_cmp_bd _ _ _))),
      fun a w G S=>.of rfl (OpR.asn S.ok rfl (S.g 0 rfl)),trivial⟩ fun β a w G S=>?_
    replace S : St W0 G0 38 [(6,IT (x.num.sign * cmpQ (x * x) (y * y * d))),(25,BT (decide ((y.num.sign * d.num.sign) = 0))),(22,BT (decide (x.num.sign = (y.num.sign * d.num.sign)))),(8,IT (y.num.sign * d.num.sign)),(7,IT x.num.sign),(5,PB b5),(4,PB b4),(3,PB b3)] [⟨b5,24,some 3,QV k d⟩,⟨b4,24,some 3,QV m y⟩,⟨b3,24,some 3,QV n x⟩] a _ _:=S.keep [0,12,13,14,15,16,17,18]
    refine wn hK ?_;clear hK K
    exact wp_ret (S.retTmp rfl ((S.e 0 rfl).trans (iv_eq (by unfold mixedF;first | rw [if_pos (by omega)] | rw [if_neg (by omega),if_pos (by omega)] | rw [if_neg (by omega),if_neg (by omega)]))))
end Go.Proofs.YtpbkcbnghhodiaaGreat
namespace Go.Proofs.YtpbkcbnghhodiaaGreat
set_option maxHeartbeats 1000000
set_option maxRecDepth 100000
open Go.RowKit (Below)
private theorem el_24 : elS Tryz.prog 24 3 56 (.agg #[.bool false,.slice none 0 0,.slice none 0 0]):=by unfold elS;kernel_rfl
private theorem fo_78_0 : fldOff Tryz.prog 78 0 = some 0:=by kernel_rfl
private theorem fo_78_1 : fldOff Tryz.prog 78 1 = some 3:=by kernel_rfl
private theorem fo_78_2 : fldOff Tryz.prog 78 2 = some 6:=by kernel_rfl
private theorem fo_78_3 : fldOff Tryz.prog 78 3 = some 9:=by kernel_rfl
theorem xlist_ok {n : Nat} {rg ra rb rc : FR} {v1 : Value} {W0 : World} {G0 : Gh} (hok : Gok W0 G0) (h1 : (PTS [(some 3,FX n rg),(some 3,FX n ra),(some 3,FX n rb),(some 3,FX n rc)]).t v1 G0) (hn : 1000 * n + 1000 ≤ BIG) (hn1 : 1 ≤ n) : Calls Tryz.prog 85 #[v1] W0 (Ret W0 G0 (LS (some 3) (([rg,ra,rb,rc]).map (FX n)))):=by
 refine St.enter (N:=12) (L:=[(0,PTS [(some 3,FX n rg),(some 3,FX n ra),(some 3,FX n rb),(some 3,FX n rc)])]) (args:=[v1]) Tryz.func85 rfl rfl rfl hok (enter1 h1) fun a S=>?_
 refine wp_reg fun K hK=>?_
 refine S.boxop (x:=.tmp 0) (τ:=PTS [(some 3,FX n rg),(some 3,FX n ra),(some 3,FX n rb),(some 3,FX n rc)]) (S.g 0 rfl) (sh (τ:=PTS [(some 3,FX n rg),(some 3,FX n ra),(some 3,FX n rb),(some 3,FX n rc)]) (S.g 0 rfl)) rfl rfl rfl rfl rfl fun b1 a w G S=>?_
 refine S.s (τ:=MT.ex (Value.slice none 0 0)) (OpR.asn S.ok rfl rfl) rfl fun a w G S=>?_
 refine wn hK ?_;clear hK K
 replace S:=S.d2
 refine wp_reg fun K hK=>?_
 refine S.s (τ:=PB b1) (OpR.fldA S.ok rfl (S.e 1 rfl) fo_78_0 rfl) rfl fun a w G S=>?_
 refine S.s (OpR.ldPart S.ok rfl (S.e 0 rfl) (S.box 0 rfl) tS_24 fun _ h hs=>part_load (PTS.part 0 rfl rfl h hs) rfl) rfl fun a w G S=>?_
 refine S.s (τ:=MT.ex (Value.pointer (some ⟨b1,3,none⟩))) (OpR.fldA S.ok rfl (S.e 3 rfl) fo_78_1 rfl) rfl fun a w G S=>?_
 refine S.s (OpR.ldPart S.ok rfl (S.e 0 rfl) (S.box 0 rfl) tS_24 fun _ h hs=>part_load (PTS.part 1 rfl rfl h hs) rfl) rfl fun a w G S=>?_
 refine S.s (τ:=MT.ex (Value.pointer (some ⟨b1,6,none⟩))) (OpR.fldA S.ok rfl (S.e 5 rfl) fo_78_2 rfl) rfl fun a w G S=>?_
 refine S.s (OpR.ldPart S.ok rfl (S.e 0 rfl) (S.box 0 rfl) tS_24 fun _ h hs=>part_load (PTS.part 2 rfl rfl h hs) rfl) rfl fun a w G S=>?_
 refine S.s (τ:=MT.ex (Value.pointer (some ⟨b1,9,none⟩))) (OpR.fldA S.ok rfl (S.e 7 rfl) fo_78_3 rfl) rfl fun a w G S=>?_
 refine S.s (OpR.ldPart S.ok rfl (S.e 0 rfl) (S.box 0 rfl) tS_24 fun _ h hs=>part_load (PTS.part 3 rfl rfl h hs) rfl) rfl fun a w G S=>?_
 refine S.s (τ:=LS (some 3) (([rg,ra,rb,rc]).map (FX n))) (OpR.buildS (k:=some 3) (τs:=[rg,ra,rb,rc].map (FX n)) (us:=[a.eval (.tmp 4),a.eval (.tmp 6),a.eval (.tmp 8),a.eval (.tmp 10)]) S.ok rfl Tryz.underlying63 el_24 rfl (by decide) (by decide) (by simp [Act.eval]) rfl (Els.cons (sh (τ:=FX n rg) (S.g 6 rfl)) (S.g 6 rfl) (Els.cons (sh (τ:=FX n ra) (S.g 4 rfl)) (S.g 4 rfl) (Els.cons (sh (τ:=FX n rb) (S.g 2 rfl)) (S.g 2 rfl) (Els.cons (sh (τ:=FX n rc) (S.g 0 rfl)) (S.g 0 rfl) Els.nil))))) rfl fun a w G S=>?_
 replace S:=S.d9
 refine S.q rfl (S.g 0 rfl) rfl fun a w G S=>?_
 refine wn hK ?_;clear hK K
 replace S:=S.d10.d9.d8.d7.d6.d5.d4.d3.d2.d1
 exact wp_ret (S.retTmp rfl (S.g 0 rfl))
end Go.Proofs.YtpbkcbnghhodiaaGreat
namespace Go.Proofs.YtpbkcbnghhodiaaGreat
set_option maxHeartbeats 1000000
set_option maxRecDepth 100000
open Go.RowKit (Below)
private theorem el_3 : elS Tryz.prog 3 1 8 (.int .i64 0):=by unfold elS;kernel_rfl
private theorem tS_3 : tyS Tryz.prog 3 (none) = true:=by kernel_rfl
theorem xorder_ok {n : Nat} {xs : List Rat} {v1 : Value} {W0 : World} {G0 : Gh} (hok : Gok W0 G0) (h1 : (LS (some 3) ((xs).map (QV n))).t v1 G0) (hl : xs.length = 4) (hn : n + n ≤ BIG) : Calls Tryz.prog 86 #[v1] W0 (Ret W0 G0 (LS (none) ((orderF xs).map NT))):=by
 refine St.enter (N:=54) (L:=[(0,LS (some 3) ((xs).map (QV n)))]) (args:=[v1]) Tryz.func86 rfl rfl rfl hok (enter1 h1) fun a S=>?_
 refine wp_reg fun K hK=>?_
 refine S.s (τ:=MT.ex (Value.slice none 0 0)) (OpR.asn S.ok rfl rfl) rfl fun a w G S=>?_
 refine wn hK ?_;clear hK K
 refine wp_reg fun K hK=>?_
 refine S.buildO (k:=none) (τs:=[0,1,2,3].map NT) (us:=[Value.int .i64 (0),Value.int .i64 (1),Value.int .i64 (2),Value.int .i64 (3)]) rfl rfl rfl Tryz.underlying129 el_3 rfl (by decide) (by decide) (by simp [Act.eval]) rfl (Els.cons (sh (τ:=NT 0) (G:=fun _=>none) (rfl : _ = nv .i64 0)) (rfl : _ = nv .i64 0) (Els.cons (sh (τ:=NT 1) (G:=fun _=>none) (rfl : _ = nv .i64 1)) (rfl : _ = nv .i64 1) (Els.cons (sh (τ:=NT 2) (G:=fun _=>none) (rfl : _ = nv .i64 2)) (rfl : _ = nv .i64 2) (Els.cons (sh (τ:=NT 3) (G:=fun _=>none) (rfl : _ = nv .i64 3)) (rfl : _ = nv .i64 3) Els.nil)))) rfl rfl fun b6 a w G S=>?_
 refine S.q rfl (S.g 0 rfl) rfl fun a w G S=>?_
 refine wn hK ?_;clear hK K
 replace S:=S.d1
 refine wp_seq_k fun K hK=>?_
 refine wp_reg fun K hK=>?_
 refine S.m rfl (S.g 0 rfl) rfl fun a w G S=>?_
 refine S.s (OpR.lenA S.ok rfl Tryz.underlying129 (S.e 0 rfl) MT.self) rfl fun a w G S=>?_
 refine S.s (τ:=NT 0) (OpR.mv S.ok rfl (rfl : _ = nv .i64 0)) rfl fun a w G S=>?_
 refine wn hK ?_;clear hK K
 replace S:=S.d2
 refine wp_block ?_
 replace S:=S.castBox (τ':=ROWS (none) ((([0,1,2,3])).map NT)) 0 rfl fun _ h _=>(ROWS.eqM h (by first | rfl | omega | (simp;done)))
 replace S:=S.n0
 refine wp_loopJ (fun μ a w=>∃ (i : Nat) (o : List Nat) (G : Gh),μ = 4 - i ∧ (i ≤ 4) ∧ (o.length = 4) ∧ (∀ x ∈ o,x < 4) ∧ (ordF xs i o (4 - i) = orderF xs) ∧  St W0 G0 54 [(9,NT i),(8,NT 4),(3,MT.ex (Value.slice (some ⟨b6,0,none⟩) (4) (4))),(2,MT.ex (Value.slice none 0 0)),(0,LS (some 3) ((xs).map (QV n)))] [⟨b6,3,some (4 * (none : Option Nat).getD 1),ROWS (none) ((o).map NT)⟩] a w G) (4 - 0) ⟨0,[0,1,2,3],_,rfl,(by omega),rfl,(by decide),rfl,(S.keep [0,1,2,3,4]).keepB [0] (by decide)⟩ ?_
 clear S
 intro μ a w ⟨i,o,G,hm,hi,ho,hb,hr,S⟩
 refine wp_reg fun K hK=>?_
 refine S.s (OpR.nlss S.ok rfl (S.e 0 rfl) (S.e 1 rfl) MT.self) rfl fun a w G S=>?_
 refine wn hK ?_;clear hK K
 refine wp_seq_k fun K hK=>?_
 refine S.cond 0 rfl (fun hc1=>?_) (fun hc1=>?_)
 ·
  have hp2:=of_decide_eq_true hc1
  refine wp_skip ?_
  refine hK _ _ ?_;clear hK K
  refine wp_seq_k fun K hK=>?_
  refine wp_block ?_
  refine wp_reg fun K hK=>?_
  refine S.m rfl (S.g 1 rfl) rfl fun a w G S=>?_
  refine S.q rfl (S.g 0 rfl) rfl fun a w G S=>?_
  refine wn hK ?_;clear hK K
  replace S:=S.d1
  refine wp_reg fun K hK=>?_
  refine S.m rfl (S.g 0 rfl) rfl fun a w G S=>?_
  refine S.q rfl (S.g 0 rfl) rfl fun a w G S=>?_
  refine wn hK ?_;clear hK K
  replace S:=S.d2.d1
  refine wp_block ?_
  refine wp_loopJ (fun μ a w=>∃ (k : Nat) (q : List Nat) (G : Gh),μ = k ∧ (k ≤ i) ∧ (q.length = 4) ∧ (∀ x ∈ q,x < 4) ∧ (insF xs k q = insF xs i o) ∧  St W0 G0 54 [(5,NT k),(10,BT (decide (i < 4))),(9,NT i),(8,NT 4),(3,MT.ex (Value.slice (some ⟨b6,0,none⟩) (4) (4))),(2,MT.ex (Value.slice none 0 0)),(0,LS (some 3) ((xs).map (QV n)))] [⟨b6,3,some (4 * (none : Option Nat).getD 1),ROWS (none) ((q).map NT)⟩] a w G) (i) ⟨i,o,_,rfl,(by omega),ho,hb,rfl,(S.keep [0,1,2,3,4,5,6]).keepB [0] (by decide)⟩ ?_
  clear S
  intro μ a w ⟨k,q,G,hm,hk,hq,hbq,hrq,S⟩
  have hkl : q.getD k default < 4:=getD_lt hbq (by decide)
  have hkl1 : q.getD (k - 1) default < 4:=getD_lt hbq (by decide)
  refine wp_seq_k fun K hK=>?_
  refine wp_seq_k fun K hK=>?_
  rcases Bool.eq_false_or_eq_true (decide (0 < k)) with hc3 | hc3
  ·
   have hp4:=of_decide_eq_true hc3
   refine S.drawn [⟨13,.g (NT k),[]⟩,⟨14,.g (BT true),[0]⟩,⟨15,.g (BT true),[1]⟩,⟨16,.g (LS (some 3) ((xs).map (QV n))),[2]⟩,⟨17,.g (MT.ex (Value.slice (some ⟨b6,0,none⟩) (4) (4))),[2]⟩,⟨18,.g (NT k),[2]⟩,⟨19,.g (MT.ex (Value.pointer (some ⟨b6,(k) * (none : Option Nat).getD 1,none⟩))),[4,5,2]⟩,⟨20,.g (NT (q.getD k default)),[6,2]⟩,⟨21,.g (PE (some 3) (QV n (xs.getD (q.getD k default) default))),[3,7,2]⟩,⟨22,.g (QV n (xs.getD (q.getD k default) default)),[8,2]⟩,⟨23,.g (LS (some 3) ((xs).map (QV n))),[2]⟩,⟨24,.g (MT.ex (Value.slice (some ⟨b6,0,none⟩) (4) (4))),[2]⟩,⟨25,.g (NT k),[2]⟩,⟨26,.g (NT (k - 1)),[12,2]⟩,⟨27,.g (MT.ex (Value.pointer (some ⟨b6,(k - 1) * (none : Option Nat).getD 1,none⟩))),[11,13,2]⟩,⟨28,.g (NT (q.getD (k - 1) default)),[14,2]⟩,⟨29,.g (PE (some 3) (QV n (xs.getD (q.getD (k - 1) default) default))),[10,15,2]⟩,⟨30,.g (QV n (xs.getD (q.getD (k - 1) default) default)),[16,2]⟩,⟨31,.g (IT (cmpQ (xs.getD (q.getD k default) default) (xs.getD (q.getD (k - 1) default) default))),[9,17,2]⟩,⟨32,.g (BT (decide ((cmpQ (xs.getD (q.getD k default) default) (xs.getD (q.getD (k - 1) default) default)) < 0))),[18,2]⟩,⟨33,.g (BT (decide ((cmpQ (xs.getD (q.getD k default) default) (xs.getD (q.getD (k - 1) default) default)) < 0))),[2,19]⟩] mixedOrders (by kernel_rfl)
    ⟨fun a w G S=>.of rfl (OpR.mv S.ok rfl (S.g 0 rfl)),
     fun a w G S=>.of rfl (OpR.isB hc3 (OpR.ngtr S.ok rfl (S.e 0 rfl) (rfl : _ = nv .i64 0) MT.self)),
     fun a w G S=>.of rfl (OpR.mv S.ok rfl (S.g 0 rfl)),
     fun a w G S=>.yes S 0 rfl rfl rfl (OpR.mv S.ok rfl (S.g 7 rfl)),
     fun a w G S=>.yes S 0 rfl rfl rfl (OpR.mv S.ok rfl (S.g 5 rfl)),
     fun a w G S=>.yes S 0 rfl rfl rfl (OpR.mv S.ok rfl (S.g 1 rfl)),
     fun a w G S=>.yes S 2 rfl rfl rfl (OpR.ixA (i:=k) S.ok rfl Tryz.underlying129 tS_3 (S.e 0 rfl) (S.e 1 rfl) rfl (by first | omega | (simp;omega)) (congrArg (fun j=>Value.pointer (some ⟨b6,j,none⟩)) (Nat.zero_add _))),
     fun a w G S=>.yes S 1 rfl rfl rfl (OpR.ldSM (k:=none) (T:=NT) (xs:=q) (i:=k) S.ok rfl (S.e 0 rfl) (S.box 0 rfl) tS_3 (by first | omega | (simp;omega))),
     fun a w G S=>.yes S 2 rfl rfl rfl (OpR.ixM (T:=(QV n)) (xs:=xs) (i:=q.getD k default) S.ok rfl Tryz.underlying63 tS_24 (S.g 0 rfl) (S.e 1 rfl) rfl (by first | omega | (simp;omega))),
     fun a w G S=>.yes S 1 rfl rfl rfl (OpR.ldE S.ok rfl tS_24 (S.g 0 rfl)),
     fun a w G S=>.yes S 0 rfl rfl rfl (OpR.mv S.ok rfl (S.g 7 rfl)),
     fun a w G S=>.yes S 0 rfl rfl rfl (OpR.mv S.ok rfl (S.g 5 rfl)),
     fun a w G S=>.yes S 0 rfl rfl rfl (OpR.mv S.ok rfl (S.g 1 rfl)),
     fun a w G S=>.yes S 1 rfl rfl rfl (OpR.nsub S.ok rfl (S.e 0 rfl) (rfl : _ = nv .i64 1) (by omega) (wr_i64 (by omega)) MT.self),
     fun a w G S=>.yes S 2 rfl rfl rfl (OpR.ixA (i:=k - 1) S.ok rfl Tryz.underlying129 tS_3 (S.e 0 rfl) (S.e 1 rfl) rfl (by first | omega | (simp;omega)) (congrArg (fun j=>Value.pointer (some ⟨b6,j,none⟩)) (Nat.zero_add _))),
     fun a w G S=>.yes S 1 rfl rfl rfl (OpR.ldSM (k:=none) (T:=NT) (xs:=q) (i:=k - 1) S.ok rfl (S.e 0 rfl) (S.box 0 rfl) tS_3 (by first | omega | (simp;omega))),
     fun a w G S=>.yes S 2 rfl rfl rfl (OpR.ixM (T:=(QV n)) (xs:=xs) (i:=q.getD (k - 1) default) S.ok rfl Tryz.underlying63 tS_24 (S.g 0 rfl) (S.e 1 rfl) rfl (by first | omega | (simp;omega))),
     fun a w G S=>.yes S 1 rfl rfl rfl (OpR.ldE S.ok rfl tS_24 (S.g 0 rfl)),
     fun a w G S=>.yes S 2 rfl rfl rfl (OpR.call2 rfl c_41 (fCmp_ok S.ok (S.g 0 rfl) (S.g 1 rfl) (by omega))),
     fun a w G S=>.yes S 1 rfl rfl rfl (OpR.ilss S.ok rfl (S.e 0 rfl) (rfl : _ = nv .i64 0) MT.self),
     fun a w G S=>.of rfl (OpR.pick S.ok rfl (S.e 0 rfl) (S.g 1 rfl)),trivial⟩ fun β a w G S=>?_
   replace S : St W0 G0 54 [(33,BT (decide ((cmpQ (xs.getD (q.getD k default) default) (xs.getD (q.getD (k - 1) default) default)) < 0))),(5,NT k),(10,BT (decide (i < 4))),(9,NT i),(8,NT 4),(3,MT.ex (Value.slice (some ⟨b6,0,none⟩) (4) (4))),(2,MT.ex (Value.slice none 0 0)),(0,LS (some 3) ((xs).map (QV n)))] [⟨b6,3,some (4 * (none : Option Nat).getD 1),ROWS (none) ((q).map NT)⟩] a _ _:=S.keep [0,21,22,23,24,25,26,27]
   refine wn hK ?_;clear hK K
   refine S.cond 0 rfl (fun hc5=>?_) (fun hc5=>?_)
   ·
    have hp6:=of_decide_eq_true hc5
    refine wp_skip ?_
    refine hK _ _ ?_;clear hK K
    refine wp_seq_k fun K hK=>?_
    refine wp_block ?_
    refine S.drawnS [⟨36,.g (MT.ex (Value.slice (some ⟨b6,0,none⟩) (4) (4))),[]⟩,⟨37,.g (NT k),[]⟩,⟨38,.g (MT.ex (Value.slice (some ⟨b6,0,none⟩) (4) (4))),[]⟩,⟨39,.g (NT k),[]⟩,⟨40,.g (NT (k - 1)),[3]⟩,⟨41,.g (MT.ex (Value.slice (some ⟨b6,0,none⟩) (4) (4))),[]⟩,⟨42,.g (NT k),[]⟩,⟨43,.g (NT (k - 1)),[6]⟩,⟨44,.g (MT.ex (Value.pointer (some ⟨b6,(k - 1) * (none : Option Nat).getD 1,none⟩))),[5,7]⟩,⟨45,.g (NT (q.getD (k - 1) default)),[8]⟩,⟨46,.g (MT.ex (Value.slice (some ⟨b6,0,none⟩) (4) (4))),[]⟩,⟨47,.g (NT k),[]⟩,⟨48,.g (MT.ex (Value.pointer (some ⟨b6,(k) * (none : Option Nat).getD 1,none⟩))),[10,11]⟩,⟨49,.g (NT (q.getD k default)),[12]⟩,⟨50,.g (MT.ex (Value.pointer (some ⟨b6,(k) * (none : Option Nat).getD 1,none⟩))),[0,1]⟩,⟨9998,.st 0 (ROWS (none) ((q.set (k) (q.getD (k - 1) default)).map NT)),[14,9]⟩,⟨51,.g (MT.ex (Value.pointer (some ⟨b6,(k - 1) * (none : Option Nat).getD 1,none⟩))),[2,4]⟩] mixedOrders (by kernel_rfl)
     ⟨⟨rfl,fun a w G S=>.of rfl (OpR.mv S.ok rfl (S.g 5 rfl))⟩,
      ⟨rfl,fun a w G S=>.of rfl (OpR.mv S.ok rfl (S.g 1 rfl))⟩,
      ⟨rfl,fun a w G S=>.of rfl (OpR.mv S.ok rfl (S.g 5 rfl))⟩,
      ⟨rfl,fun a w G S=>.of rfl (OpR.mv S.ok rfl (S.g 1 rfl))⟩,
      ⟨rfl,fun a w G S=>.of rfl (OpR.nsub S.ok rfl (S.e 0 rfl) (rfl : _ = nv .i64 1) (by omega) (wr_i64 (by omega)) MT.self)⟩,
      ⟨rfl,fun a w G S=>.of rfl (OpR.mv S.ok rfl (S.g 5 rfl))⟩,
      ⟨rfl,fun a w G S=>.of rfl (OpR.mv S.ok rfl (S.g 1 rfl))⟩,
      ⟨rfl,fun a w G S=>.of rfl (OpR.nsub S.ok rfl (S.e 0 rfl) (rfl : _ = nv .i64 1) (by omega) (wr_i64 (by omega)) MT.self)⟩,
      ⟨rfl,fun a w G S=>.of rfl (OpR.ixA (i:=k - 1) S.ok rfl Tryz.underlying129 tS_3 (S.e 0 rfl) (S.e 1 rfl) rfl (by first | omega | (simp;omega)) (congrArg (fun j=>Value.pointer (some ⟨b6,j,none⟩)) (Nat.zero_add _)))⟩,
      ⟨rfl,fun a w G S=>have S:=S.boxes (B':=[⟨b6,3,some (4 * (none : Option Nat).getD 1),ROWS (none) ((q).map NT)⟩]) (by kernel_rfl);OpG.of rfl (OpR.ldSM (k:=none) (T:=NT) (xs:=q) (i:=k - 1) S.ok rfl (S.e 0 rfl) (S.box 0 rfl) tS_3 (by first | omega | (simp;omega)))⟩,
      ⟨rfl,fun a w G S=>.of rfl (OpR.mv S.ok rfl (S.g 5 rfl))⟩,
      ⟨rfl,fun a w G S=>.of rfl (OpR.mv S.ok rfl (S.g 1 rfl))⟩,
      ⟨rfl,fun a w G S=>.of rfl (OpR.ixA (i:=k) S.ok rfl Tryz.underlying129 tS_3 (S.e 0 rfl) (S.e 1 rfl) rfl (by first | omega | (simp;omega)) (congrArg (fun j=>Value.pointer (some ⟨b6,j,none⟩)) (Nat.zero_add _)))⟩,
      ⟨rfl,fun a w G S=>have S:=S.boxes (B':=[⟨b6,3,some (4 * (none : Option Nat).getD 1),ROWS (none) ((q).map NT)⟩]) (by kernel_rfl);OpG.of rfl (OpR.ldSM (k:=none) (T:=NT) (xs:=q) (i:=k) S.ok rfl (S.e 0 rfl) (S.box 0 rfl) tS_3 (by first | omega | (simp;omega)))⟩,
      ⟨rfl,fun a w G S=>.of rfl (OpR.ixA (i:=k) S.ok rfl Tryz.underlying129 tS_3 (S.e 0 rfl) (S.e 1 rfl) rfl (by first | omega | (simp;omega)) (congrArg (fun j=>Value.pointer (some ⟨b6,j,none⟩)) (Nat.zero_add _)))⟩,
      ⟨rfl,rfl,rfl,.inr ⟨by simp only [List.length_cons,List.length_nil];omega,_,rfl,fun a w G v0 S hv hs h0=>elem_storeS (k:=none) (T:=NT) (z:=q.getD (k - 1) default) (i:=k) rfl rfl (S.e 0 rfl) tS_3 (S.g 1 rfl) (sh (τ:=NT (q.getD (k - 1) default)) (S.g 1 rfl)) (by first | omega | (simp;omega)) hv hs h0⟩⟩,
      ⟨rfl,fun a w G S=>.of rfl (OpR.ixA (i:=k - 1) S.ok rfl Tryz.underlying129 tS_3 (S.e 0 rfl) (S.e 1 rfl) rfl (by first | omega | (simp;omega)) (congrArg (fun j=>Value.pointer (some ⟨b6,j,none⟩)) (Nat.zero_add _)))⟩,trivial⟩ fun β a w G S=>?_
    replace S : St W0 G0 54 [(51,MT.ex (Value.pointer (some ⟨b6,(k - 1) * (none : Option Nat).getD 1,none⟩))),(49,NT (q.getD k default)),(33,BT (decide ((cmpQ (xs.getD (q.getD k default) default) (xs.getD (q.getD (k - 1) default) default)) < 0))),(5,NT k),(10,BT (decide (i < 4))),(9,NT i),(8,NT 4),(3,MT.ex (Value.slice (some ⟨b6,0,none⟩) (4) (4))),(2,MT.ex (Value.slice none 0 0)),(0,LS (some 3) ((xs).map (QV n)))] [⟨b6,3,some (4 * (none : Option Nat).getD 1),ROWS (none) ((q.set (k) (q.getD (k - 1) default)).map NT)⟩] a _ _:=S.keep [0,2,16,17,18,19,20,21,22,23]
    refine S.setSM (k:=none) (T:=NT) (z:=q.getD k default) (i:=k - 1) 0 rfl rfl rfl rfl (S.e 0 rfl) tS_3 (S.g 1 rfl) (sh (τ:=NT (q.getD k default)) (S.g 1 rfl)) (by first | omega | (simp;omega)) fun w S=>?_
    replace S:=S.n0
    refine wpList_nil ?_
    replace S:=S.d1.d0
    refine hK _ _ ?_;clear hK K
    refine wp_region_lit ?_
    refine S.m rfl (S.g 1 rfl) rfl fun a w G S=>?_
    refine S.s (OpR.nsub S.ok rfl (S.e 0 rfl) (rfl : _ = nv .i64 1) (by omega) (wr_i64 (by omega)) MT.self) rfl fun a w G S=>?_
    replace S:=S.d3
    refine S.q rfl (S.g 0 rfl) rfl fun a w G S=>?_
    refine wpList_nil ?_
    replace S:=S.d2.d1
    replace S:=S.castBox (τ':=ROWS (none) ((((q.set (k) (q.getD (k - 1) default)).set (k - 1) (q.getD k default))).map NT)) 0 rfl fun _ h _=>(ROWS.eqM h (by first | rfl | omega | (simp;done)))
    replace S:=S.n0
    exact ⟨(k - 1),(by omega),k - 1,(q.set (k) (q.getD (k - 1) default)).set (k - 1) (q.getD k default),_,rfl,(by omega),(by simpa using hq),(swap_lt hbq),(ins_step (by omega) ‹_› hrq),(S.keep [0,2,3,4,5,6,7]).keepB [0] (by decide)⟩
   ·
    have hp7:=of_decide_eq_false hc5
    refine wp_exit (then_exit (then_exit (exit_same ?_)))
    clear hK K
    refine hK _ _ ?_;clear hK K
    refine wp_region_lit ?_
    have hnx:=ord_next (by omega) hr (by first | exact ins_end0 (by omega) hrq | exact ins_end1 (by omega) ‹_› hrq)
    refine S.s (OpR.nadd S.ok rfl (S.e 3 rfl) (rfl : _ = nv .i64 1) (wr_i64 (by omega)) MT.self) rfl fun a w G S=>?_
    replace S:=S.d4
    refine S.m rfl (S.g 0 rfl) rfl fun a w G S=>?_
    refine wpList_nil ?_
    replace S:=S.d1
    exact ⟨4 - (i + 1),(by omega),i + 1,q,_,rfl,(by omega),hq,hbq,hnx,(S.keep [0,4,5,6,7]).keepB [0] (by decide)⟩
  ·
   have hp8:=of_decide_eq_false hc3
   refine S.drawn [⟨13,.g (NT k),[]⟩,⟨14,.g (BT false),[0]⟩,⟨15,.g (BT false),[1]⟩,⟨16,.g (MT.ex undef),[2]⟩,⟨17,.g (MT.ex undef),[2]⟩,⟨18,.g (MT.ex undef),[2]⟩,⟨19,.g (MT.ex undef),[4,5,2]⟩,⟨20,.g (MT.ex undef),[6,2]⟩,⟨21,.g (MT.ex undef),[3,7,2]⟩,⟨22,.g (MT.ex undef),[8,2]⟩,⟨23,.g (MT.ex undef),[2]⟩,⟨24,.g (MT.ex undef),[2]⟩,⟨25,.g (MT.ex undef),[2]⟩,⟨26,.g (MT.ex undef),[12,2]⟩,⟨27,.g (MT.ex undef),[11,13,2]⟩,⟨28,.g (MT.ex undef),[14,2]⟩,⟨29,.g (MT.ex undef),[10,15,2]⟩,⟨30,.g (MT.ex undef),[16,2]⟩,⟨31,.g (MT.ex undef),[9,17,2]⟩,⟨32,.g (MT.ex undef),[18,2]⟩,⟨33,.g (BT false),[2,19]⟩] mixedOrders (by kernel_rfl)
    ⟨fun a w G S=>.of rfl (OpR.mv S.ok rfl (S.g 0 rfl)),
     fun a w G S=>.of rfl (OpR.isB hc3 (OpR.ngtr S.ok rfl (S.e 0 rfl) (rfl : _ = nv .i64 0) MT.self)),
     fun a w G S=>.of rfl (OpR.mv S.ok rfl (S.g 0 rfl)),
     fun a w G S=>.no S 0 rfl rfl rfl rfl,
     fun a w G S=>.no S 0 rfl rfl rfl rfl,
     fun a w G S=>.no S 0 rfl rfl rfl rfl,
     fun a w G S=>.no S 2 rfl rfl rfl rfl,
     fun a w G S=>.no S 1 rfl rfl rfl rfl,
     fun a w G S=>.no S 2 rfl rfl rfl rfl,
     fun a w G S=>.no S 1 rfl rfl rfl rfl,
     fun a w G S=>.no S 0 rfl rfl rfl rfl,
     fun a w G S=>.no S 0 rfl rfl rfl rfl,
     fun a w G S=>.no S 0 rfl rfl rfl rfl,
     fun a w G S=>.no S 1 rfl rfl rfl rfl,
     fun a w G S=>.no S 2 rfl rfl rfl rfl,
     fun a w G S=>.no S 1 rfl rfl rfl rfl,
     fun a w G S=>.no S 2 rfl rfl rfl rfl,
     fun a w G S=>.no S 1 rfl rfl rfl rfl,
     fun a w G S=>.no S 2 rfl rfl rfl rfl,
     fun a w G S=>.no S 1 rfl rfl rfl rfl,
     fun a w G S=>.of rfl (OpR.pick S.ok rfl (S.e 0 rfl) rfl),trivial⟩ fun β a w G S=>?_
   replace S : St W0 G0 54 [(33,BT false),(5,NT k),(10,BT (decide (i < 4))),(9,NT i),(8,NT 4),(3,MT.ex (Value.slice (some ⟨b6,0,none⟩) (4) (4))),(2,MT.ex (Value.slice none 0 0)),(0,LS (some 3) ((xs).map (QV n)))] [⟨b6,3,some (4 * (none : Option Nat).getD 1),ROWS (none) ((q).map NT)⟩] a _ _:=S.keep [0,21,22,23,24,25,26,27]
   refine wn hK ?_;clear hK K
   refine wp_cond_false (S.e 0 rfl) ?_
   refine wp_exit (then_exit (then_exit (exit_same ?_)))
   clear hK K
   refine hK _ _ ?_;clear hK K
   refine wp_region_lit ?_
   have hnx:=ord_next (by omega) hr (by first | exact ins_end0 (by omega) hrq | exact ins_end1 (by omega) ‹_› hrq)
   refine S.s (OpR.nadd S.ok rfl (S.e 3 rfl) (rfl : _ = nv .i64 1) (wr_i64 (by omega)) MT.self) rfl fun a w G S=>?_
   replace S:=S.d4
   refine S.m rfl (S.g 0 rfl) rfl fun a w G S=>?_
   refine wpList_nil ?_
   replace S:=S.d1
   exact ⟨4 - (i + 1),(by omega),i + 1,q,_,rfl,(by omega),hq,hbq,hnx,(S.keep [0,4,5,6,7]).keepB [0] (by decide)⟩
 ·
  have hp9:=of_decide_eq_false hc1
  refine wp_exit (then_exit (then_exit (exit_same ?_)))
  clear hK K
  refine hK _ _ ?_;clear hK K
  refine wp_reg fun K hK=>?_
  obtain ⟨vz10,Gz10,hz10,hs10,hg10,hle10,S⟩:=S.freeze 0 rfl
  have hsl10:=ROWS.slM hz10 hg10 ho.symm (Nat.le_refl _) (by decide) (rfl : _ = Value.slice (some ⟨b6,0,none⟩) (4) (4))
  replace S:=S.also (t:=3) (τ:=LS (none) ((o).map NT)) ((S.e 3 rfl).symm ▸ hsl10)
  replace S : St W0 G0 54 [(3,LS (none) ((o).map NT)),(10,BT (decide (i < 4))),(9,NT i),(8,NT 4),(2,MT.ex (Value.slice none 0 0)),(0,LS (some 3) ((xs).map (QV n)))] [] a _ _:=S.keep [0,1,2,3,5,6]
  refine S.m rfl (S.g 0 rfl) rfl fun a w G S=>?_
  replace S:=S.d5
  refine S.q rfl (S.g 0 rfl) rfl fun a w G S=>?_
  refine wn hK ?_;clear hK K
  replace S:=S.d1
  exact wp_ret (S.retTmp rfl (LS.eqM (S.g 0 rfl) (by rw [show i = 4 by omega] at hr;exact hr)))
end Go.Proofs.YtpbkcbnghhodiaaGreat
namespace Go.Proofs.YtpbkcbnghhodiaaGreat
set_option maxHeartbeats 1000000
set_option maxRecDepth 100000
open Go.RowKit (Below)
private theorem c_113 : callable Tryz.prog 113 = true:=by kernel_rfl
private theorem c_44 : callable Tryz.prog 44 = true:=by kernel_rfl
private theorem c_46 : callable Tryz.prog 46 = true:=by kernel_rfl
private theorem c_47 : callable Tryz.prog 47 = true:=by kernel_rfl
private theorem c_63 : callable Tryz.prog 63 = true:=by kernel_rfl
private theorem c_85 : callable Tryz.prog 85 = true:=by kernel_rfl
private theorem c_86 : callable Tryz.prog 86 = true:=by kernel_rfl
private theorem c_87 : callable Tryz.prog 87 = true:=by kernel_rfl
private theorem ni_70 : (match Tryz.prog.underlying 70 with | some (.interface _)=>false | some _=>true | none=>false) = true:=by kernel_rfl
private theorem tS_78 : tyS Tryz.prog 78 (some 12) = true:=by kernel_rfl
private theorem z_24 : (Tryz.prog.info? 24).bind (·.zero) = some (.agg #[.bool false,.slice none 0 0,.slice none 0 0]):=by kernel_rfl
private theorem zs_24 : Shaped (some 3) (.agg #[.bool false,.slice none 0 0,.slice none 0 0]):=⟨_,rfl,rfl,by simp [Value.oneCell']⟩
theorem xcloses_ok {n1 n2 n3 n4 : Nat} {p q r s : Rat} {v1 v2 v3 v4 : Value} {W0 : World} {G0 : Gh} (hok : Gok W0 G0) (h1 : (QV n1 p).t v1 G0) (h2 : (QV n2 q).t v2 G0) (h3 : (QV n3 r).t v3 G0) (h4 : (QV n4 s).t v4 G0) (hn : 30 * n1 + 30 * n2 + 30 * n3 + 30 * n4 + 1000 ≤ BIG) : Calls Tryz.prog 87 #[v1,v2,v3,v4] W0 (Ret W0 G0 (BT (closesF p q r s))):=by
 refine St.enter (N:=53) (L:=[(3,QV n4 s),(2,QV n3 r),(1,QV n2 q),(0,QV n1 p)]) (args:=[v1,v2,v3,v4]) Tryz.func87 rfl rfl rfl hok (enter4 h1 h2 h3 h4) fun a S=>?_
 refine wp_reg fun K hK=>?_
 refine S.boxop (x:=.tmp 0) (τ:=QV n1 p) (S.g 3 rfl) (sh (τ:=QV n1 p) (S.g 3 rfl)) rfl rfl rfl rfl rfl fun b4 a w G S=>?_
 refine S.boxop (x:=.tmp 1) (τ:=QV n2 q) (S.g 3 rfl) (sh (τ:=QV n2 q) (S.g 3 rfl)) rfl rfl rfl rfl rfl fun b5 a w G S=>?_
 refine S.boxop (x:=.tmp 2) (τ:=QV n3 r) (S.g 3 rfl) (sh (τ:=QV n3 r) (S.g 3 rfl)) rfl rfl rfl rfl rfl fun b6 a w G S=>?_
 refine S.boxop (x:=.tmp 3) (τ:=QV n4 s) (S.g 3 rfl) (sh (τ:=QV n4 s) (S.g 3 rfl)) rfl rfl rfl rfl rfl fun b7 a w G S=>?_
 refine S.s (τ:=BT false) (OpR.asn S.ok rfl rfl) rfl fun a w G S=>?_
 refine wn hK ?_;clear hK K
 replace S:=S.d8.d7.d6.d5
 refine wp_seq_k fun K hK=>?_
 refine S.drawn [⟨13,.g (QV n2 q),[]⟩,⟨14,.g (QV n3 r),[]⟩,⟨15,.g (QC (n2 + n3 + 1) (q + r)),[0,1]⟩,⟨16,.g (QV n1 p),[]⟩,⟨17,.g (QV n4 s),[]⟩,⟨18,.g (QC (n1 + n4 + 1) (p + s)),[3,4]⟩,⟨19,.g (QC ((n2 + n3 + 1) + (n1 + n4 + 1) + 1) ((q + r) - (p + s))),[2,5]⟩,⟨9,.al mkP 24 (some 3) (MT.ex (.agg #[.bool false,.slice none 0 0,.slice none 0 0])),[]⟩] mixedOrders (by kernel_rfl)
  ⟨fun a w G S=>.of rfl (OpR.ldBox S.ok rfl (S.e 3 rfl) (S.box 2 rfl) tS_24),
   fun a w G S=>.of rfl (OpR.ldBox S.ok rfl (S.e 2 rfl) (S.box 1 rfl) tS_24),
   fun a w G S=>.of rfl (OpR.call2 rfl c_47 (fAdd_ok S.ok (S.g 0 rfl) (S.g 1 rfl) (by omega))),
   fun a w G S=>.of rfl (OpR.ldBox S.ok rfl (S.e 4 rfl) (S.box 3 rfl) tS_24),
   fun a w G S=>.of rfl (OpR.ldBox S.ok rfl (S.e 1 rfl) (S.box 0 rfl) tS_24),
   fun a w G S=>.of rfl (OpR.call2 rfl c_47 (fAdd_ok S.ok (S.g 0 rfl) (S.g 1 rfl) (by omega))),
   fun a w G S=>.of rfl (OpR.call2 rfl c_46 (fSub_ok S.ok (QC.toQV (S.g 0 rfl)) (QC.toQV (S.g 1 rfl)) (by omega))),
   ⟨fun _=>rfl,rfl,fun a w G S=>OpB.alloc S.ok rfl z_24 zs_24⟩,trivial⟩ fun β a w G S=>?_
 replace S : St W0 G0 53 [(9,PB (β 7)),(19,QC ((n2 + n3 + 1) + (n1 + n4 + 1) + 1) ((q + r) - (p + s))),(8,BT false),(7,PB b7),(6,PB b6),(5,PB b5),(4,PB b4)] [⟨(β 7),24,some 3,MT.ex ((.agg #[.bool false,.slice none 0 0,.slice none 0 0] : Value))⟩,⟨b7,24,some 3,QV n4 s⟩,⟨b6,24,some 3,QV n3 r⟩,⟨b5,24,some 3,QV n2 q⟩,⟨b4,24,some 3,QV n1 p⟩] a _ _:=S.keep [0,1,8,9,10,11,12]
 generalize β 7 = b9 at S
 refine S.store (τ:=QC ((n2 + n3 + 1) + (n1 + n4 + 1) + 1) ((q + r) - (p + s))) 0 rfl rfl rfl rfl (S.e 0 rfl) tS_24 (S.g 1 rfl) (sh (τ:=QC ((n2 + n3 + 1) + (n1 + n4 + 1) + 1) ((q + r) - (p + s))) (S.g 1 rfl)) fun w S=>?_
 replace S:=S.n0
 refine wn hK ?_;clear hK K
 replace S:=S.d1
 refine wp_reg fun K hK=>?_
 refine S.s (τ:=QC 64 2) (OpR.conv' (OpR.call1 rfl c_44 (fOf_ok S.ok ((rfl : _ = nv .i64 2).trans (iv_eq (by first | rfl | omega | (simp only [Nat.zero_add,Nat.add_zero];done) | (simp;done) | (push_cast;omega)))) (by omega))) fun _ _ h=>(QC.eq h (by rfl))) rfl fun a w G S=>?_
 refine S.alloc rfl rfl rfl z_24 zs_24 rfl rfl fun b10 a w G S=>?_
 refine S.store (τ:=QC 64 2) 0 rfl rfl rfl rfl (S.e 0 rfl) tS_24 (S.g 1 rfl) (sh (τ:=QC 64 2) (S.g 1 rfl)) fun w S=>?_
 replace S:=S.n0
 refine wn hK ?_;clear hK K
 replace S:=S.d1
 refine wp_seq_k fun K hK=>?_
 refine wp_seq_k fun K hK=>?_
 refine S.drawn [⟨21,.g (QC ((n2 + n3 + 1) + (n1 + n4 + 1) + 1) ((q + r) - (p + s))),[]⟩,⟨22,.g (QC 64 2),[]⟩,⟨23,.g (QV n2 q),[]⟩,⟨24,.g (QV n3 r),[]⟩,⟨25,.g (QC (n2 + n3) (q * r)),[2,3]⟩,⟨26,.g (IT (mixedF ((q + r) - (p + s)) 2 (q * r))),[0,1,4]⟩,⟨27,.g (BT (decide ((mixedF ((q + r) - (p + s)) 2 (q * r)) ≥ 0))),[5]⟩] mixedOrders (by kernel_rfl)
  ⟨fun a w G S=>.of rfl (OpR.ldBox S.ok rfl (S.e 1 rfl) (S.box 1 rfl) tS_24),
   fun a w G S=>.of rfl (OpR.ldBox S.ok rfl (S.e 0 rfl) (S.box 0 rfl) tS_24),
   fun a w G S=>.of rfl (OpR.ldBox S.ok rfl (S.e 5 rfl) (S.box 4 rfl) tS_24),
   fun a w G S=>.of rfl (OpR.ldBox S.ok rfl (S.e 4 rfl) (S.box 3 rfl) tS_24),
   fun a w G S=>.of rfl (OpR.call2 rfl c_43 (fMul_ok S.ok (S.g 0 rfl) (S.g 1 rfl) (by omega))),
   fun a w G S=>.of rfl (OpR.call3 rfl c_113 (xmixed_ok S.ok (QC.toQV (S.g 0 rfl)) (QC.toQV (S.g 1 rfl)) (QC.toQV (S.g 2 rfl)) (by omega))),
   fun a w G S=>.of rfl (OpR.igeq S.ok rfl (S.e 0 rfl) (rfl : _ = nv .i64 0) MT.self),trivial⟩ fun β a w G S=>?_
 replace S : St W0 G0 53 [(27,BT (decide ((mixedF ((q + r) - (p + s)) 2 (q * r)) ≥ 0))),(10,PB b10),(9,PB b9),(8,BT false),(7,PB b7),(6,PB b6),(5,PB b5),(4,PB b4)] [⟨b10,24,some 3,QC 64 2⟩,⟨b9,24,some 3,QC ((n2 + n3 + 1) + (n1 + n4 + 1) + 1) ((q + r) - (p + s))⟩,⟨b7,24,some 3,QV n4 s⟩,⟨b6,24,some 3,QV n3 r⟩,⟨b5,24,some 3,QV n2 q⟩,⟨b4,24,some 3,QV n1 p⟩] a _ _:=S.keep [0,7,8,9,10,11,12,13]
 refine wn hK ?_;clear hK K
 refine S.cond 0 rfl (fun hc1=>?_) (fun hc1=>?_)
 ·
  have hp2:=of_decide_eq_true hc1
  refine wp_reg fun K hK=>?_
  replace S:=S.d3
  refine S.s (τ:=BT true) (OpR.asn S.ok rfl rfl) rfl fun a w G S=>?_
  refine wn hK ?_;clear hK K
  exact wp_ret (then_ret (S.retTmp rfl ((S.e 0 rfl).trans (bv_eq (if_pos ‹_›).symm))))
 ·
  have hp3:=of_decide_eq_false hc1
  refine wp_skip ?_
  refine hK _ _ ?_;clear hK K
  refine wp_reg fun K hK=>?_
  refine S.s (τ:=QC 64 4) (OpR.conv' (OpR.call1 rfl c_44 (fOf_ok S.ok ((rfl : _ = nv .i64 4).trans (iv_eq (by first | rfl | omega | (simp only [Nat.zero_add,Nat.add_zero];done) | (simp;done) | (push_cast;omega)))) (by omega))) fun _ _ h=>(QC.eq h (by rfl))) rfl fun a w G S=>?_
  refine S.alloc rfl rfl rfl z_24 zs_24 rfl rfl fun b11 a w G S=>?_
  refine S.store (τ:=QC 64 4) 0 rfl rfl rfl rfl (S.e 0 rfl) tS_24 (S.g 1 rfl) (sh (τ:=QC 64 4) (S.g 1 rfl)) fun w S=>?_
  replace S:=S.n0
  refine wn hK ?_;clear hK K
  replace S:=S.d1
  refine wp_seq_k fun K hK=>?_
  refine S.drawn [⟨29,.g (QC ((n2 + n3 + 1) + (n1 + n4 + 1) + 1) ((q + r) - (p + s))),[]⟩,⟨30,.g (QC ((n2 + n3 + 1) + (n1 + n4 + 1) + 1) ((q + r) - (p + s))),[]⟩,⟨31,.g (QC (((n2 + n3 + 1) + (n1 + n4 + 1) + 1) + ((n2 + n3 + 1) + (n1 + n4 + 1) + 1)) (((q + r) - (p + s)) * ((q + r) - (p + s)))),[0,1]⟩,⟨32,.g (QC 64 4),[]⟩,⟨33,.g (QV n2 q),[]⟩,⟨34,.g (QV n3 r),[]⟩,⟨35,.g (QC (n2 + n3) (q * r)),[4,5]⟩,⟨36,.g (QC (64 + (n2 + n3)) (4 * (q * r))),[3,6]⟩,⟨37,.g (QC ((((n2 + n3 + 1) + (n1 + n4 + 1) + 1) + ((n2 + n3 + 1) + (n1 + n4 + 1) + 1)) + (64 + (n2 + n3)) + 1) ((((q + r) - (p + s)) * ((q + r) - (p + s))) + (4 * (q * r)))),[2,7]⟩,⟨38,.g (QC 64 4),[]⟩,⟨39,.g (QV n1 p),[]⟩,⟨40,.g (QV n4 s),[]⟩,⟨41,.g (QC (n1 + n4) (p * s)),[10,11]⟩,⟨42,.g (QC (64 + (n1 + n4)) (4 * (p * s))),[9,12]⟩,⟨43,.g (QC (((((n2 + n3 + 1) + (n1 + n4 + 1) + 1) + ((n2 + n3 + 1) + (n1 + n4 + 1) + 1)) + (64 + (n2 + n3)) + 1) + (64 + (n1 + n4)) + 1) (((((q + r) - (p + s)) * ((q + r) - (p + s))) + (4 * (q * r))) - (4 * (p * s)))),[8,13]⟩,⟨12,.al mkP 24 (some 3) (MT.ex (.agg #[.bool false,.slice none 0 0,.slice none 0 0])),[]⟩] mixedOrders (by kernel_rfl)
   ⟨fun a w G S=>.of rfl (OpR.ldBox S.ok rfl (S.e 3 rfl) (S.box 2 rfl) tS_24),
    fun a w G S=>.of rfl (OpR.ldBox S.ok rfl (S.e 3 rfl) (S.box 2 rfl) tS_24),
    fun a w G S=>.of rfl (OpR.call2 rfl c_43 (fMul_ok S.ok (QC.toQV (S.g 0 rfl)) (QC.toQV (S.g 1 rfl)) (by omega))),
    fun a w G S=>.of rfl (OpR.ldBox S.ok rfl (S.e 0 rfl) (S.box 0 rfl) tS_24),
    fun a w G S=>.of rfl (OpR.ldBox S.ok rfl (S.e 7 rfl) (S.box 5 rfl) tS_24),
    fun a w G S=>.of rfl (OpR.ldBox S.ok rfl (S.e 6 rfl) (S.box 4 rfl) tS_24),
    fun a w G S=>.of rfl (OpR.call2 rfl c_43 (fMul_ok S.ok (S.g 0 rfl) (S.g 1 rfl) (by omega))),
    fun a w G S=>.of rfl (OpR.call2 rfl c_43 (fMul_ok S.ok (QC.toQV (S.g 0 rfl)) (QC.toQV (S.g 1 rfl)) (by omega))),
    fun a w G S=>.of rfl (OpR.call2 rfl c_47 (fAdd_ok S.ok (QC.toQV (S.g 0 rfl)) (QC.toQV (S.g 1 rfl)) (by omega))),
    fun a w G S=>.of rfl (OpR.ldBox S.ok rfl (S.e 0 rfl) (S.box 0 rfl) tS_24),
    fun a w G S=>.of rfl (OpR.ldBox S.ok rfl (S.e 8 rfl) (S.box 6 rfl) tS_24),
    fun a w G S=>.of rfl (OpR.ldBox S.ok rfl (S.e 5 rfl) (S.box 3 rfl) tS_24),
    fun a w G S=>.of rfl (OpR.call2 rfl c_43 (fMul_ok S.ok (S.g 0 rfl) (S.g 1 rfl) (by omega))),
    fun a w G S=>.of rfl (OpR.call2 rfl c_43 (fMul_ok S.ok (QC.toQV (S.g 0 rfl)) (QC.toQV (S.g 1 rfl)) (by omega))),
    fun a w G S=>.of rfl (OpR.call2 rfl c_46 (fSub_ok S.ok (QC.toQV (S.g 0 rfl)) (QC.toQV (S.g 1 rfl)) (by omega))),
    ⟨fun _=>rfl,rfl,fun a w G S=>OpB.alloc S.ok rfl z_24 zs_24⟩,trivial⟩ fun β a w G S=>?_
  replace S : St W0 G0 53 [(12,PB (β 15)),(43,QC (((((n2 + n3 + 1) + (n1 + n4 + 1) + 1) + ((n2 + n3 + 1) + (n1 + n4 + 1) + 1)) + (64 + (n2 + n3)) + 1) + (64 + (n1 + n4)) + 1) (((((q + r) - (p + s)) * ((q + r) - (p + s))) + (4 * (q * r))) - (4 * (p * s)))),(11,PB b11),(27,BT (decide ((mixedF ((q + r) - (p + s)) 2 (q * r)) ≥ 0))),(10,PB b10),(9,PB b9),(8,BT false),(7,PB b7),(6,PB b6),(5,PB b5),(4,PB b4)] [⟨(β 15),24,some 3,MT.ex ((.agg #[.bool false,.slice none 0 0,.slice none 0 0] : Value))⟩,⟨b11,24,some 3,QC 64 4⟩,⟨b10,24,some 3,QC 64 2⟩,⟨b9,24,some 3,QC ((n2 + n3 + 1) + (n1 + n4 + 1) + 1) ((q + r) - (p + s))⟩,⟨b7,24,some 3,QV n4 s⟩,⟨b6,24,some 3,QV n3 r⟩,⟨b5,24,some 3,QV n2 q⟩,⟨b4,24,some 3,QV n1 p⟩] a _ _:=S.keep [0,1,16,17,18,19,20,21,22,23,24]
  generalize β 15 = b12 at S
  refine S.store (τ:=QC (((((n2 + n3 + 1) + (n1 + n4 + 1) + 1) + ((n2 + n3 + 1) + (n1 + n4 + 1) + 1)) + (64 + (n2 + n3)) + 1) + (64 + (n1 + n4)) + 1) (((((q + r) - (p + s)) * ((q + r) - (p + s))) + (4 * (q * r))) - (4 * (p * s)))) 0 rfl rfl rfl rfl (S.e 0 rfl) tS_24 (S.g 1 rfl) (sh (τ:=QC (((((n2 + n3 + 1) + (n1 + n4 + 1) + 1) + ((n2 + n3 + 1) + (n1 + n4 + 1) + 1)) + (64 + (n2 + n3)) + 1) + (64 + (n1 + n4)) + 1) (((((q + r) - (p + s)) * ((q + r) - (p + s))) + (4 * (q * r))) - (4 * (p * s)))) (S.g 1 rfl)) fun w S=>?_
  replace S:=S.n0
  refine wn hK ?_;clear hK K
  replace S:=S.d1
  refine wp_seq_k fun K hK=>?_
  replace S:=S.d5
  refine S.drawn [⟨44,.g (QC (((((n2 + n3 + 1) + (n1 + n4 + 1) + 1) + ((n2 + n3 + 1) + (n1 + n4 + 1) + 1)) + (64 + (n2 + n3)) + 1) + (64 + (n1 + n4)) + 1) (((((q + r) - (p + s)) * ((q + r) - (p + s))) + (4 * (q * r))) - (4 * (p * s)))),[]⟩,⟨45,.g (QC 64 4),[]⟩,⟨46,.g (QC ((n2 + n3 + 1) + (n1 + n4 + 1) + 1) ((q + r) - (p + s))),[]⟩,⟨47,.g (QC (64 + ((n2 + n3 + 1) + (n1 + n4 + 1) + 1)) (4 * ((q + r) - (p + s)))),[1,2]⟩,⟨48,.g (QV n2 q),[]⟩,⟨49,.g (QV n3 r),[]⟩,⟨50,.g (QC (n2 + n3) (q * r)),[4,5]⟩,⟨51,.g (IT (mixedF (((((q + r) - (p + s)) * ((q + r) - (p + s))) + (4 * (q * r))) - (4 * (p * s))) (4 * ((q + r) - (p + s))) (q * r))),[0,3,6]⟩,⟨52,.g (BT (decide ((mixedF (((((q + r) - (p + s)) * ((q + r) - (p + s))) + (4 * (q * r))) - (4 * (p * s))) (4 * ((q + r) - (p + s))) (q * r)) ≤ 0))),[7]⟩,⟨8,.g (BT (decide ((mixedF (((((q + r) - (p + s)) * ((q + r) - (p + s))) + (4 * (q * r))) - (4 * (p * s))) (4 * ((q + r) - (p + s))) (q * r)) ≤ 0))),[8]⟩] mixedOrders (by kernel_rfl)
   ⟨fun a w G S=>.of rfl (OpR.ldBox S.ok rfl (S.e 0 rfl) (S.box 0 rfl) tS_24),
    fun a w G S=>.of rfl (OpR.ldBox S.ok rfl (S.e 1 rfl) (S.box 1 rfl) tS_24),
    fun a w G S=>.of rfl (OpR.ldBox S.ok rfl (S.e 4 rfl) (S.box 3 rfl) tS_24),
    fun a w G S=>.of rfl (OpR.call2 rfl c_43 (fMul_ok S.ok (QC.toQV (S.g 0 rfl)) (QC.toQV (S.g 1 rfl)) (by omega))),
    fun a w G S=>.of rfl (OpR.ldBox S.ok rfl (S.e 7 rfl) (S.box 6 rfl) tS_24),
    fun a w G S=>.of rfl (OpR.ldBox S.ok rfl (S.e 6 rfl) (S.box 5 rfl) tS_24),
    fun a w G S=>.of rfl (OpR.call2 rfl c_43 (fMul_ok S.ok (S.g 0 rfl) (S.g 1 rfl) (by omega))),
    fun a w G S=>.of rfl (OpR.call3 rfl c_113 (xmixed_ok S.ok (QC.toQV (S.g 0 rfl)) (QC.toQV (S.g 1 rfl)) (QC.toQV (S.g 2 rfl)) (by omega))),
    fun a w G S=>.of rfl (OpR.ileq S.ok rfl (S.e 0 rfl) (rfl : _ = nv .i64 0) MT.self),
    fun a w G S=>.of rfl (OpR.asn S.ok rfl (S.g 0 rfl)),trivial⟩ fun β a w G S=>?_
  replace S : St W0 G0 53 [(8,BT (decide ((mixedF (((((q + r) - (p + s)) * ((q + r) - (p + s))) + (4 * (q * r))) - (4 * (p * s))) (4 * ((q + r) - (p + s))) (q * r)) ≤ 0))),(12,PB b12),(11,PB b11),(27,BT (decide ((mixedF ((q + r) - (p + s)) 2 (q * r)) ≥ 0))),(10,PB b10),(9,PB b9),(7,PB b7),(6,PB b6),(5,PB b5),(4,PB b4)] [⟨b12,24,some 3,QC (((((n2 + n3 + 1) + (n1 + n4 + 1) + 1) + ((n2 + n3 + 1) + (n1 + n4 + 1) + 1)) + (64 + (n2 + n3)) + 1) + (64 + (n1 + n4)) + 1) (((((q + r) - (p + s)) * ((q + r) - (p + s))) + (4 * (q * r))) - (4 * (p * s)))⟩,⟨b11,24,some 3,QC 64 4⟩,⟨b10,24,some 3,QC 64 2⟩,⟨b9,24,some 3,QC ((n2 + n3 + 1) + (n1 + n4 + 1) + 1) ((q + r) - (p + s))⟩,⟨b7,24,some 3,QV n4 s⟩,⟨b6,24,some 3,QV n3 r⟩,⟨b5,24,some 3,QV n2 q⟩,⟨b4,24,some 3,QV n1 p⟩] a _ _:=S.keep [0,10,11,12,13,14,15,16,17,18]
  refine wn hK ?_;clear hK K
  exact wp_ret (S.retTmp rfl ((S.e 0 rfl).trans (bv_eq (if_neg ‹_›).symm)))
theorem xCheck_ok {n : Nat} {rg ra rb rc : FR} {v1 : Value} {W0 : World} {G0 : Gh} (hok : Gok W0 G0) (h1 : (PTS [(some 3,FX n rg),(some 3,FX n ra),(some 3,FX n rb),(some 3,FX n rc)]).t v1 G0) (hn : 1000 * n + 1000 ≤ BIG) (hn1 : 1 ≤ n) : Calls Tryz.prog 52 #[v1] W0 (Ret W0 G0 (MT.ex (errV 70 (chkF [rg,ra,rb,rc])))):=by
 refine St.enter (N:=53) (L:=[(0,PTS [(some 3,FX n rg),(some 3,FX n ra),(some 3,FX n rb),(some 3,FX n rc)])]) (args:=[v1]) Tryz.func52 rfl rfl rfl hok (enter1 h1) fun a S=>?_
 refine wp_reg fun K hK=>?_
 refine S.boxop (x:=.tmp 0) (τ:=PTS [(some 3,FX n rg),(some 3,FX n ra),(some 3,FX n rb),(some 3,FX n rc)]) (S.g 0 rfl) (sh (τ:=PTS [(some 3,FX n rg),(some 3,FX n ra),(some 3,FX n rb),(some 3,FX n rc)]) (S.g 0 rfl)) rfl rfl rfl rfl rfl fun b1 a w G S=>?_
 refine S.s (τ:=MT.ex (Value.nilIface)) (OpR.asn S.ok rfl rfl) rfl fun a w G S=>?_
 refine wn hK ?_;clear hK K
 replace S:=S.d2
 refine wp_reg fun K hK=>?_
 refine S.s (OpR.ldBox S.ok rfl (S.e 1 rfl) (S.box 0 rfl) tS_78) rfl fun a w G S=>?_
 refine S.s (τ:=LS (some 3) (([rg,ra,rb,rc]).map (FX n))) (OpR.call1 rfl c_85 (xlist_ok S.ok (S.g 0 rfl) (by omega) (by omega))) rfl fun a w G S=>?_
 refine S.q rfl (S.g 0 rfl) rfl fun a w G S=>?_
 refine wn hK ?_;clear hK K
 replace S:=S.d4.d2.d1
 refine wp_seq_k fun K hK=>?_
 refine wp_reg fun K hK=>?_
 refine S.m rfl (S.g 0 rfl) rfl fun a w G S=>?_
 refine S.s (τ:=NT 4) (OpR.lenM S.ok rfl Tryz.underlying63 (S.g 0 rfl) rfl) rfl fun a w G S=>?_
 refine S.s (τ:=NT 0) (OpR.mv S.ok rfl (rfl : _ = nv .i64 0)) rfl fun a w G S=>?_
 refine wn hK ?_;clear hK K
 refine wp_block ?_
 refine wp_loopJ (fun μ a w=>∃ (j : Nat) (G : Gh),μ = 4 - j ∧ (j ≤ 4) ∧ (([rg,ra,rb,rc].take j).all posR = true) ∧  St W0 G0 53 [(11,NT j),(10,NT 4),(9,LS (some 3) (([rg,ra,rb,rc]).map (FX n))),(3,LS (some 3) (([rg,ra,rb,rc]).map (FX n))),(2,MT.ex (Value.nilIface))] [⟨b1,78,some 12,PTS [(some 3,FX n rg),(some 3,FX n ra),(some 3,FX n rb),(some 3,FX n rc)]⟩] a w G) (4 - 0) ⟨0,_,rfl,(by omega),rfl,(S.keep [0,1,2,3,4]).keepB [0] (by decide)⟩ ?_
 clear S
 intro μ a w ⟨j,G,hm,hj,hg,S⟩
 refine wp_reg fun K hK=>?_
 refine S.s (OpR.nlss S.ok rfl (S.e 0 rfl) (S.e 1 rfl) MT.self) rfl fun a w G S=>?_
 refine wn hK ?_;clear hK K
 refine wp_seq_k fun K hK=>?_
 refine S.cond 0 rfl (fun hc1=>?_) (fun hc1=>?_)
 ·
  have hp2:=of_decide_eq_true hc1
  refine wp_skip ?_
  refine hK _ _ ?_;clear hK K
  refine wp_seq_k fun K hK=>?_
  refine wp_block ?_
  refine wp_reg fun K hK=>?_
  refine S.s (τ:=PE (some 3) (FX n (([rg,ra,rb,rc]).getD j default))) (OpR.ixM (T:=(FX n)) (xs:=[rg,ra,rb,rc]) (i:=j) S.ok rfl Tryz.underlying63 tS_24 (S.g 3 rfl) (S.e 1 rfl) rfl (by first | omega | (simp;omega))) rfl fun a w G S=>?_
  refine S.s (OpR.ldE S.ok rfl tS_24 (S.g 0 rfl)) rfl fun a w G S=>?_
  refine S.alloc rfl rfl rfl z_24 zs_24 rfl rfl fun b5 a w G S=>?_
  refine S.store (τ:=FX n (([rg,ra,rb,rc]).getD j default)) 0 rfl rfl rfl rfl (S.e 0 rfl) tS_24 (S.g 1 rfl) (sh (τ:=FX n (([rg,ra,rb,rc]).getD j default)) (S.g 1 rfl)) fun w S=>?_
  replace S:=S.n0
  refine wn hK ?_;clear hK K
  replace S:=S.d2.d1
  refine wp_reg fun K hK=>?_
  refine S.s (OpR.ldBox S.ok rfl (S.e 0 rfl) (S.box 0 rfl) tS_24) rfl fun a w G S=>?_
  refine S.s (τ:=BT ((([rg,ra,rb,rc]).getD j default).ok)) (OpR.call1 rfl c_63 (fValidX_ok S.ok (S.g 0 rfl) (by omega))) rfl fun a w G S=>?_
  refine S.s (OpR.bnot S.ok rfl (S.e 0 rfl) MT.self) rfl fun a w G S=>?_
  refine S.m rfl (S.g 0 rfl) rfl fun a w G S=>?_
  rcases Bool.eq_false_or_eq_true (!((([rg,ra,rb,rc]).getD j default).ok)) with hc3 | hc3
  ·
   replace S:=S.boolIs 0 rfl hc3
   refine S.skipG 0 rfl rfl rfl rfl rfl rfl fun a w G S=>?_
   refine S.skipG 1 rfl rfl rfl rfl rfl rfl fun a w G S=>?_
   refine S.skipG 2 rfl rfl rfl rfl rfl rfl fun a w G S=>?_
   refine S.s (τ:=BT true) (OpR.pick S.ok rfl (S.e 3 rfl) rfl) rfl fun a w G S=>?_
   refine wn hK ?_;clear hK K
   replace S:=S.d8.d7.d6.d5.d4.d3.d2.d1
   refine wp_cond_true (S.e 0 rfl) ?_
   refine wp_reg fun K hK=>?_
   refine S.s (OpR.mkI S.ok rfl ni_70 (rfl : _ = nv .i64 3) MT.self) rfl fun a w G S=>?_
   replace S:=S.d8
   refine S.q rfl (S.g 0 rfl) rfl fun a w G S=>?_
   refine wn hK ?_;clear hK K
   replace S:=S.d1
   exact wp_ret (block_ret (then_ret (then_ret (block_ret (then_ret (S.retTmp rfl ((S.e 0 rfl).trans (by first | exact errV_ne (chk3 (all_not (show j < 4 by omega) (by first | exact posR_not1 (not_true_of ‹_›) | exact posR_not2 ‹_›))) (by decide) | exact errV_z (chk0 (all_end (show ¬ j < 4 by omega) hg) hcl) | exact errV_ne (chk16 (all_end (show ¬ j < 4 by omega) hg) hcl) (by decide)))))))))
  ·
   replace S:=S.boolIs 0 rfl hc3
   refine S.stepG 0 (OpR.ldBox S.ok rfl (S.e 5 rfl) (S.box 0 rfl) tS_24) rfl rfl rfl rfl rfl rfl fun a w G S=>?_
   refine S.stepG (τ:=IT (((([rg,ra,rb,rc]).getD j default).val).num.sign)) 1 (OpR.call1 rfl c_34 (fSign_ok S.ok (FX.toQV (S.g 0 rfl)) (by omega))) rfl rfl rfl rfl rfl rfl fun a w G S=>?_
   refine S.stepG 2 (OpR.ileq S.ok rfl (S.e 0 rfl) (rfl : _ = nv .i64 0) MT.self) rfl rfl rfl rfl rfl rfl fun a w G S=>?_
   refine S.s (τ:=BT (decide ((((([rg,ra,rb,rc]).getD j default).val).num.sign) ≤ 0))) (OpR.pick S.ok rfl (S.e 3 rfl) (S.g 0 rfl)) rfl fun a w G S=>?_
   refine wn hK ?_;clear hK K
   replace S:=S.d8.d7.d6.d5.d4.d3.d2.d1
   refine S.cond 0 rfl (fun hc6=>?_) (fun hc6=>?_)
   ·
    have hp7:=of_decide_eq_true hc6
    refine wp_reg fun K hK=>?_
    refine S.s (OpR.mkI S.ok rfl ni_70 (rfl : _ = nv .i64 3) MT.self) rfl fun a w G S=>?_
    replace S:=S.d8
    refine S.q rfl (S.g 0 rfl) rfl fun a w G S=>?_
    refine wn hK ?_;clear hK K
    replace S:=S.d1
    exact wp_ret (block_ret (then_ret (then_ret (block_ret (then_ret (S.retTmp rfl ((S.e 0 rfl).trans (by first | exact errV_ne (chk3 (all_not (show j < 4 by omega) (by first | exact posR_not1 (not_true_of ‹_›) | exact posR_not2 ‹_›))) (by decide) | exact errV_z (chk0 (all_end (show ¬ j < 4 by omega) hg) hcl) | exact errV_ne (chk16 (all_end (show ¬ j < 4 by omega) hg) hcl) (by decide)))))))))
   ·
    have hp8:=of_decide_eq_false hc6
    refine wp_skip ?_
    refine hK _ _ ?_;clear hK K
    refine wp_region_lit ?_
    refine S.s (OpR.nadd S.ok rfl (S.e 3 rfl) (rfl : _ = nv .i64 1) (wr_i64 (by omega)) MT.self) rfl fun a w G S=>?_
    replace S:=S.d4
    refine S.m rfl (S.g 0 rfl) rfl fun a w G S=>?_
    refine wpList_nil ?_
    replace S:=S.d1
    exact ⟨4 - (j + 1),(by omega),j + 1,_,rfl,(by omega),(all_snoc (show j < 4 by omega) hg (posR_of (not_false_of ‹_›) ‹_›)),(S.keep [0,4,5,6,7]).keepB [1] (by decide)⟩
 ·
  have hp9:=of_decide_eq_false hc1
  refine wp_exit (then_exit (then_exit (exit_same ?_)))
  clear hK K
  refine hK _ _ ?_;clear hK K
  refine wp_reg fun K hK=>?_
  refine S.m rfl (S.g 4 rfl) rfl fun a w G S=>?_
  refine S.s (τ:=LS (none) ((orderF (([rg,ra,rb,rc]).map FR.val)).map NT)) (OpR.call1 rfl c_86 (xorder_ok S.ok (LS.convM (T:=(FX n)) (U:=(QV n)) (f:=FR.val) (S.g 0 rfl) (by first | rfl | (simp;done)) fun z_ _ _ _ h=>(QV.eq (FX.toQV h) (by first | rfl | omega | (simp only [Nat.zero_add,Nat.add_zero];done) | (simp;done) | (push_cast;omega)))) rfl (by omega))) rfl fun a w G S=>?_
  refine S.q rfl (S.g 0 rfl) rfl fun a w G S=>?_
  refine wn hK ?_;clear hK K
  replace S:=S.d2.d1
  refine wp_seq_k fun K hK=>?_
  refine wp_seq_k fun K hK=>?_
  have ho0:=orderF_lt ([rg,ra,rb,rc].map FR.val) 0
  have ho1:=orderF_lt ([rg,ra,rb,rc].map FR.val) 1
  have ho2:=orderF_lt ([rg,ra,rb,rc].map FR.val) 2
  have ho3:=orderF_lt ([rg,ra,rb,rc].map FR.val) 3
  have hol:=orderF_len ([rg,ra,rb,rc].map FR.val)
  refine S.drawn [⟨27,.g (LS (some 3) (([rg,ra,rb,rc]).map (FX n))),[]⟩,⟨28,.g (LS (none) ((orderF (([rg,ra,rb,rc]).map FR.val)).map NT)),[]⟩,⟨29,.g (PE (none) (NT ((orderF (([rg,ra,rb,rc]).map FR.val)).getD 3 default))),[1]⟩,⟨30,.g (NT ((orderF (([rg,ra,rb,rc]).map FR.val)).getD 3 default)),[2]⟩,⟨31,.g (PE (some 3) (FX n (([rg,ra,rb,rc]).getD ((orderF (([rg,ra,rb,rc]).map FR.val)).getD 3 default) default))),[0,3]⟩,⟨32,.g (FX n (([rg,ra,rb,rc]).getD ((orderF (([rg,ra,rb,rc]).map FR.val)).getD 3 default) default)),[4]⟩,⟨33,.g (LS (some 3) (([rg,ra,rb,rc]).map (FX n))),[]⟩,⟨34,.g (LS (none) ((orderF (([rg,ra,rb,rc]).map FR.val)).map NT)),[]⟩,⟨35,.g (PE (none) (NT ((orderF (([rg,ra,rb,rc]).map FR.val)).getD 0 default))),[7]⟩,⟨36,.g (NT ((orderF (([rg,ra,rb,rc]).map FR.val)).getD 0 default)),[8]⟩,⟨37,.g (PE (some 3) (FX n (([rg,ra,rb,rc]).getD ((orderF (([rg,ra,rb,rc]).map FR.val)).getD 0 default) default))),[6,9]⟩,⟨38,.g (FX n (([rg,ra,rb,rc]).getD ((orderF (([rg,ra,rb,rc]).map FR.val)).getD 0 default) default)),[10]⟩,⟨39,.g (LS (some 3) (([rg,ra,rb,rc]).map (FX n))),[]⟩,⟨40,.g (LS (none) ((orderF (([rg,ra,rb,rc]).map FR.val)).map NT)),[]⟩,⟨41,.g (PE (none) (NT ((orderF (([rg,ra,rb,rc]).map FR.val)).getD 1 default))),[13]⟩,⟨42,.g (NT ((orderF (([rg,ra,rb,rc]).map FR.val)).getD 1 default)),[14]⟩,⟨43,.g (PE (some 3) (FX n (([rg,ra,rb,rc]).getD ((orderF (([rg,ra,rb,rc]).map FR.val)).getD 1 default) default))),[12,15]⟩,⟨44,.g (FX n (([rg,ra,rb,rc]).getD ((orderF (([rg,ra,rb,rc]).map FR.val)).getD 1 default) default)),[16]⟩,⟨45,.g (LS (some 3) (([rg,ra,rb,rc]).map (FX n))),[]⟩,⟨46,.g (LS (none) ((orderF (([rg,ra,rb,rc]).map FR.val)).map NT)),[]⟩,⟨47,.g (PE (none) (NT ((orderF (([rg,ra,rb,rc]).map FR.val)).getD 2 default))),[19]⟩,⟨48,.g (NT ((orderF (([rg,ra,rb,rc]).map FR.val)).getD 2 default)),[20]⟩,⟨49,.g (PE (some 3) (FX n (([rg,ra,rb,rc]).getD ((orderF (([rg,ra,rb,rc]).map FR.val)).getD 2 default) default))),[18,21]⟩,⟨50,.g (FX n (([rg,ra,rb,rc]).getD ((orderF (([rg,ra,rb,rc]).map FR.val)).getD 2 default) default)),[22]⟩,⟨51,.g (BT (closesF (lk [rg,ra,rb,rc] 3) (lk [rg,ra,rb,rc] 0) (lk [rg,ra,rb,rc] 1) (lk [rg,ra,rb,rc] 2))),[5,11,17,23]⟩] mixedOrders (by kernel_rfl)
   ⟨fun a w G S=>.of rfl (OpR.mv S.ok rfl (S.g 5 rfl)),
    fun a w G S=>.of rfl (OpR.mv S.ok rfl (S.g 0 rfl)),
    fun a w G S=>.of rfl (OpR.ixM (T:=NT) (xs:=orderF (([rg,ra,rb,rc]).map FR.val)) (i:=3) S.ok rfl Tryz.underlying129 tS_3 (S.g 0 rfl) (rfl : _ = nv .i64 3) rfl (by rw [hol];decide)),
    fun a w G S=>.of rfl (OpR.ldE S.ok rfl tS_3 (S.g 0 rfl)),
    fun a w G S=>.of rfl (OpR.ixM (T:=(FX n)) (xs:=[rg,ra,rb,rc]) (i:=(orderF (([rg,ra,rb,rc]).map FR.val)).getD 3 default) S.ok rfl Tryz.underlying63 tS_24 (S.g 0 rfl) (S.e 1 rfl) rfl (show _ < 4 by omega)),
    fun a w G S=>.of rfl (OpR.ldE S.ok rfl tS_24 (S.g 0 rfl)),
    fun a w G S=>.of rfl (OpR.mv S.ok rfl (S.g 5 rfl)),
    fun a w G S=>.of rfl (OpR.mv S.ok rfl (S.g 0 rfl)),
    fun a w G S=>.of rfl (OpR.ixM (T:=NT) (xs:=orderF (([rg,ra,rb,rc]).map FR.val)) (i:=0) S.ok rfl Tryz.underlying129 tS_3 (S.g 0 rfl) (rfl : _ = nv .i64 0) rfl (by rw [hol];decide)),
    fun a w G S=>.of rfl (OpR.ldE S.ok rfl tS_3 (S.g 0 rfl)),
    fun a w G S=>.of rfl (OpR.ixM (T:=(FX n)) (xs:=[rg,ra,rb,rc]) (i:=(orderF (([rg,ra,rb,rc]).map FR.val)).getD 0 default) S.ok rfl Tryz.underlying63 tS_24 (S.g 0 rfl) (S.e 1 rfl) rfl (show _ < 4 by omega)),
    fun a w G S=>.of rfl (OpR.ldE S.ok rfl tS_24 (S.g 0 rfl)),
    fun a w G S=>.of rfl (OpR.mv S.ok rfl (S.g 5 rfl)),
    fun a w G S=>.of rfl (OpR.mv S.ok rfl (S.g 0 rfl)),
    fun a w G S=>.of rfl (OpR.ixM (T:=NT) (xs:=orderF (([rg,ra,rb,rc]).map FR.val)) (i:=1) S.ok rfl Tryz.underlying129 tS_3 (S.g 0 rfl) (rfl : _ = nv .i64 1) rfl (by rw [hol];decide)),
    fun a w G S=>.of rfl (OpR.ldE S.ok rfl tS_3 (S.g 0 rfl)),
    fun a w G S=>.of rfl (OpR.ixM (T:=(FX n)) (xs:=[rg,ra,rb,rc]) (i:=(orderF (([rg,ra,rb,rc]).map FR.val)).getD 1 default) S.ok rfl Tryz.underlying63 tS_24 (S.g 0 rfl) (S.e 1 rfl) rfl (show _ < 4 by omega)),
    fun a w G S=>.of rfl (OpR.ldE S.ok rfl tS_24 (S.g 0 rfl)),
    fun a w G S=>.of rfl (OpR.mv S.ok rfl (S.g 5 rfl)),
    fun a w G S=>.of rfl (OpR.mv S.ok rfl (S.g 0 rfl)),
    fun a w G S=>.of rfl (OpR.ixM (T:=NT) (xs:=orderF (([rg,ra,rb,rc]).map FR.val)) (i:=2) S.ok rfl Tryz.underlying129 tS_3 (S.g 0 rfl) (rfl : _ = nv .i64 2) rfl (by rw [hol];decide)),
    fun a w G S=>.of rfl (OpR.ldE S.ok rfl tS_3 (S.g 0 rfl)),
    fun a w G S=>.of rfl (OpR.ixM (T:=(FX n)) (xs:=[rg,ra,rb,rc]) (i:=(orderF (([rg,ra,rb,rc]).map FR.val)).getD 2 default) S.ok rfl Tryz.underlying63 tS_24 (S.g 0 rfl) (S.e 1 rfl) rfl (show _ < 4 by omega)),
    fun a w G S=>.of rfl (OpR.ldE S.ok rfl tS_24 (S.g 0 rfl)),
    fun a w G S=>.of rfl (OpR.conv' (OpR.call4 rfl c_87 (xcloses_ok S.ok (FX.toQV (S.g 0 rfl)) (FX.toQV (S.g 1 rfl)) (FX.toQV (S.g 2 rfl)) (FX.toQV (S.g 3 rfl)) (by omega))) fun _ _ h=>h),trivial⟩ fun β a w G S=>?_
  replace S : St W0 G0 53 [(51,BT (closesF (lk [rg,ra,rb,rc] 3) (lk [rg,ra,rb,rc] 0) (lk [rg,ra,rb,rc] 1) (lk [rg,ra,rb,rc] 2))),(12,BT (decide (j < 4))),(11,NT j),(10,NT 4),(9,LS (some 3) (([rg,ra,rb,rc]).map (FX n))),(3,LS (some 3) (([rg,ra,rb,rc]).map (FX n))),(2,MT.ex (Value.nilIface))] [⟨b1,78,some 12,PTS [(some 3,FX n rg),(some 3,FX n ra),(some 3,FX n rb),(some 3,FX n rc)]⟩] a _ _:=S.keep [0,26,27,28,29,30,31]
  refine wn hK ?_;clear hK K
  refine S.cond 0 rfl (fun hc10=>?_) (fun hc10=>?_)
  ·
   have hcl:=hc10
   refine wp_reg fun K hK=>?_
   replace S:=S.d6
   refine S.s (τ:=MT.ex (Value.nilIface)) (OpR.asn S.ok rfl rfl) rfl fun a w G S=>?_
   refine wn hK ?_;clear hK K
   exact wp_ret (then_ret (S.retTmp rfl ((S.e 0 rfl).trans (by first | exact errV_ne (chk3 (all_not (show j < 4 by omega) (by first | exact posR_not1 (not_true_of ‹_›) | exact posR_not2 ‹_›))) (by decide) | exact errV_z (chk0 (all_end (show ¬ j < 4 by omega) hg) hcl) | exact errV_ne (chk16 (all_end (show ¬ j < 4 by omega) hg) hcl) (by decide)))))
  ·
   have hcl:=hc10
   refine wp_skip ?_
   refine hK _ _ ?_;clear hK K
   refine wp_reg fun K hK=>?_
   refine S.s (OpR.mkI S.ok rfl ni_70 (rfl : _ = nv .i64 16) MT.self) rfl fun a w G S=>?_
   replace S:=S.d7
   refine S.q rfl (S.g 0 rfl) rfl fun a w G S=>?_
   refine wn hK ?_;clear hK K
   replace S:=S.d1
   exact wp_ret (S.retTmp rfl ((S.e 0 rfl).trans (by first | exact errV_ne (chk3 (all_not (show j < 4 by omega) (by first | exact posR_not1 (not_true_of ‹_›) | exact posR_not2 ‹_›))) (by decide) | exact errV_z (chk0 (all_end (show ¬ j < 4 by omega) hg) hcl) | exact errV_ne (chk16 (all_end (show ¬ j < 4 by omega) hg) hcl) (by decide))))
end Go.Proofs.YtpbkcbnghhodiaaGreat
namespace Go.Proofs.YtpbkcbnghhodiaaGreat
open Go.RowKit (Below)
abbrev RX (r : FR) : MT:=QR r.s r.p r.q
def shortR (r : FR) : Bool:=decide (r.p.length ≤ 2) && decide (r.q.length ≤ 2)
def shortF (l : List FR) : Bool:=l.all shortR && decide (l.length < 60)
theorem shortR_not {r : FR} (h : 2 < r.p.length ∨ 2 < r.q.length) : shortR r = false:=by unfold shortR;rcases h with h | h <;> simp <;> omega
theorem shortR_of {r : FR} (h : ¬ 2 < r.p.length) (h2 : ¬ 2 < r.q.length) : shortR r = true:=by unfold shortR;simp;omega
theorem val64 {l : List Nat} (hw : wfl l) (h : l.length ≤ 2) : Go.Proofs.YtpbkcbnghhodiaaGreat.val l < 2 ^ 64:=by
  have h1:=val_lt hw
  have h2 : 4294967296 ^ l.length ≤ 4294967296 ^ 2:=Nat.pow_le_pow_right (by decide) h
  have h3 : (4294967296 : Nat) ^ 2 = 2 ^ 64:=by decide
  omega
theorem RX.toFX {r : FR} {v : Value} {G : Gh} (h : (RX r).t v G) (hs : shortR r = true) : (FX 64 r).t v G:=by
  unfold shortR at hs;simp at hs
  obtain ⟨x,y,e,hp,hq⟩:=h
  exact ⟨by decide,val64 (SL.wf hp) hs.1,val64 (SL.wf hq) hs.2,x,y,e,hp,hq⟩
theorem RX.f0 {r : FR} {v : Value} {G : Gh} {k : Option Nat} (h : (RX r).t v G) (hs : Shaped k v) : ∃ u,v.cells[0]? = some u ∧ (MT.ex (.bool r.s)).t u G:=QR.f0 h hs
theorem RX.f1 {r : FR} {v : Value} {G : Gh} {k : Option Nat} (h : (RX r).t v G) (hs : Shaped k v) : ∃ u,v.cells[1]? = some u ∧ (SL r.p).t u G:=QR.f1 h hs
theorem RX.f2 {r : FR} {v : Value} {G : Gh} {k : Option Nat} (h : (RX r).t v G) (hs : Shaped k v) : ∃ u,v.cells[2]? = some u ∧ (SL r.q).t u G:=QR.f2 h hs
theorem LS.toFX {l : List FR} {v : Value} {G : Gh} (h : (LS (some 3) (l.map RX)).t v G) (hs : shortF l = true) : (LS (some 3) (l.map (FX 64))).t v G:=by
  unfold shortF at hs;simp at hs
  exact LS.convM (T:=RX) (U:=FX 64) (f:=fun r=>r) h (by simp) fun x hx v G hv=>RX.toFX hv (hs.1 x hx)
theorem map_of4 (a b c d : Rat) : [FR.of a,FR.of b,FR.of c,FR.of d].map FR.val = [a,b,c,d]:=by simp [FR.of_val]
theorem posR_of4 (a : Rat) : posR (FR.of a) = decide (0 < a):=by unfold posR;rw [FR.of_ok,FR.of_val,Bool.true_and]
theorem lk_of4 (a b c d : Rat) (j : Nat) : lk [FR.of a,FR.of b,FR.of c,FR.of d] j = [a,b,c,d].getD ((orderF [a,b,c,d]).getD j default) default:=by
  unfold lk;rw [map_of4]
  have h:=orderF_lt [a,b,c,d] j
  generalize (orderF [a,b,c,d]).getD j default = i at h
  match i,h with
  | 0,_=>exact FR.of_val a
  | 1,_=>exact FR.of_val b
  | 2,_=>exact FR.of_val c
  | 3,_=>exact FR.of_val d
theorem ex_chk : chkF [FR.of 16,FR.of 1,FR.of 9,FR.of 9] = 0:=by
  unfold chkF;simp only [lk_of4,List.all_cons,List.all_nil,posR_of4];decide +kernel
end Go.Proofs.YtpbkcbnghhodiaaGreat
set_option linter.unusedVariables false
set_option linter.unusedSimpArgs false
namespace Go.Proofs.YtpbkcbnghhodiaaGreat
open Go.RowKit (Below)
class NR (τ : MT) (τ' : outParam MT) : Prop where
  h : ∀ {v : Value} {G : Gh},τ.t v G → τ'.t v G
instance (priority:=500) NR.id {τ : MT} : NR τ τ:=⟨fun h=>h⟩
theorem FX.toRX {n : Nat} {r : FR} {v : Value} {G : Gh} (h : (FX n r).t v G) : (RX r).t v G:=h.2.2.2
instance NR.f {n : Nat} {r : FR} : NR (FX n r) (RX r):=⟨FX.toRX⟩
instance NR.q {n : Nat} {x : Rat} : NR (QC n x) (RX (FR.of x)):=⟨fun h=>FX.toRX (QC.toFX h (one_le_of_lt x.den_nz h.1.2))⟩
class NRL (fs : List (Option Nat × MT)) (gs : outParam (List (Option Nat × MT))) : Prop where
  h : ∀ {us : List Value} {G : Gh},PF fs us G → PF gs us G
instance NRL.nil : NRL [] []:=⟨fun h=>h⟩
instance NRL.cons {k : Option Nat} {τ τ' : MT} {fs gs : List (Option Nat × MT)} [h : NR τ τ'] [l : NRL fs gs] : NRL ((k,τ) :: fs) ((k,τ') :: gs):=⟨fun hp=>by
  obtain ⟨v,us',rfl,hs,ht,hp'⟩:=hp.cons
  exact .mk hs (h.h ht) (l.h hp')⟩
instance NR.pts {fs gs : List (Option Nat × MT)} [l : NRL fs gs] : NR (PTS fs) (PTS gs):=⟨fun hv=>by
  obtain ⟨us,e1,h1,h2⟩:=hv
  exact ⟨us,e1,l.h ⟨h1,h2⟩⟩⟩
instance NR.l {k : Option Nat} {n : Nat} {xs : List FR} : NR (LS k (xs.map (FX n))) (LS k (xs.map RX)):=⟨fun h=>LS.convM (T:=FX n) (U:=RX) (f:=fun r=>r) h (by simp) fun x hx v G hv=>FX.toRX hv⟩
class NS (τ : MT) (τ' : MT) (p : outParam Prop) : Prop where
  h : ∀ {v : Value} {G : Gh},p → τ.t v G → τ'.t v G
instance (priority:=500) NS.id {τ : MT} : NS τ τ True:=⟨fun _ h=>h⟩
instance NS.f {r : FR} : NS (RX r) (FX 64 r) (shortR r = true):=⟨fun hs h=>RX.toFX h hs⟩
class NSL (fs : List (Option Nat × MT)) (gs : List (Option Nat × MT)) (p : outParam Prop) : Prop where
  h : ∀ {us : List Value} {G : Gh},p → PF fs us G → PF gs us G
instance NSL.nil : NSL [] [] True:=⟨fun _ h=>h⟩
instance NSL.cons {k : Option Nat} {τ τ' : MT} {fs gs : List (Option Nat × MT)} {p q : Prop} [h : NS τ τ' p] [l : NSL fs gs q] : NSL ((k,τ) :: fs) ((k,τ') :: gs) (p ∧ q):=⟨fun e hp=>by
  obtain ⟨v,us',rfl,hs,ht,hp'⟩:=hp.cons
  exact .mk hs (h.h e.1 ht) (l.h e.2 hp')⟩
instance NS.pts {fs gs : List (Option Nat × MT)} {p : Prop} [l : NSL fs gs p] : NS (PTS fs) (PTS gs) p:=⟨fun e hv=>by
  obtain ⟨us,e1,h1,h2⟩:=hv
  exact ⟨us,e1,l.h e ⟨h1,h2⟩⟩⟩
instance NS.l {k : Option Nat} {xs : List FR} : NS (LS k (xs.map RX)) (LS k (xs.map (FX 64))) (xs.all shortR = true):=⟨fun e h=>by
  exact LS.convM (T:=RX) (U:=FX 64) (f:=fun r=>r) h (by simp) fun x hx v G hv=>RX.toFX hv (List.all_eq_true.1 e x hx)⟩
section
variable {P : Program} {L : List (Nat × MT)} {B : List BX} {x y : Operand} {u v : List Nat} {t t' : TypeId} {τ : MT} {m n : Int} {l : List Nat}
theorem prt_of {τ : MT} {V u : Value} {G : Gh} {i : Nat} (h1 : V.cells[i]? = some u) (h2 : τ.t u G) (hs : Shaped none u) : ∃ u,Shaped none u ∧ τ.t u G ∧ ∀ (j : Nat) (x : Value),u.cells[j]? = some x → V.cells[i + j]? = some x:=⟨u,hs,h2,fun j x hx=>by
  rw [hs.1] at hx
  match j,hx with
  | 0,hx=>cases hx;exact h1
  | j + 1,hx=>simp at hx⟩
theorem SL.shp {v : Value} {G : Gh} (h : (SL l).t v G) : Shaped none v:=by obtain ⟨A,c,rfl,_⟩:=h;exact ⟨rfl,rfl⟩
instance (priority:=800) Prt.rx0 {r : FR} : Prt (RX r) 0 none (.ex (.bool r.s)):=⟨fun h hs=>by obtain ⟨u,h1,h2⟩:=RX.f0 h hs;exact prt_of h1 h2 (by cases h2;exact ⟨rfl,rfl⟩)⟩
instance (priority:=800) Prt.rx1 {r : FR} : Prt (RX r) 1 none (SL r.p):=⟨fun h hs=>by obtain ⟨u,h1,h2⟩:=RX.f1 h hs;exact prt_of h1 h2 (SL.shp h2)⟩
instance (priority:=800) Prt.rx2 {r : FR} : Prt (RX r) 2 none (SL r.q):=⟨fun h hs=>by obtain ⟨u,h1,h2⟩:=RX.f2 h hs;exact prt_of h1 h2 (SL.shp h2)⟩
theorem prt_in {k : Option Nat} {gs fs : List (Option Nat × MT)} {i : Nat} {kt : Option Nat} {σ : MT} (h : Prt σ i kt τ) : PrtL ((k,σ) :: fs) i kt τ:=⟨fun hp=>by
  obtain ⟨u,us',rfl,hs,ht,_⟩:=hp.cons
  obtain ⟨x,h1,h2,h3⟩:=h.h ht hs
  refine ⟨x,h1,h2,fun m y hm=>?_⟩
  have h4:=h3 m y hm
  have hlt : i + m < u.cells.size:=(Array.getElem?_eq_some_iff.1 h4).1
  rw [flat_cns,List.getElem?_append_left (by simpa using hlt)]
  simpa using h4⟩
instance (priority:=700) PrtL.rx {k : Option Nat} {r : FR} {fs : List (Option Nat × MT)} {i : Nat} {kt : Option Nat} [h : Prt (RX r) i kt τ] : PrtL ((k,RX r) :: fs) i kt τ:=prt_in (gs:=[]) h
instance (priority:=700) PrtL.fx {k : Option Nat} {nn : Nat} {r : FR} {fs : List (Option Nat × MT)} {i : Nat} [h : Prt (RX r) i none τ] : PrtL ((k,FX nn r) :: fs) i none τ:=prt_in (gs:=[]) ⟨fun h' hs=>h.h (FX.toRX h') hs⟩
instance (priority:=800) Prt.fx {nn : Nat} {r : FR} {i : Nat} [h : Prt (RX r) i none τ] : Prt (FX nn r) i none τ:=⟨fun h' hs=>h.h (FX.toRX h') hs⟩
instance ZV.wh : ZV ⟨some 2,.agg #[.bool false,.slice none 0 0],WC 1 0⟩:=⟨⟨_,rfl,rfl,by simp [Value.oneCell']⟩,fun G=>WR.zero ⟨_,rfl,SL.nil⟩ rfl⟩
instance {r : FR} : AsT (RX r) RX r:=⟨fun h=>h⟩
instance Op1.lenW [s : SlE P t none] [h : Opd L x (SL l) u] : Op1 P L B (.call { callee:=.builtin .len,args:=#[x],argTypes:=#[t] }) True (IT l.length) u:=⟨fun ho hok e _ _=>by obtain ⟨e',h1,h2⟩:=s.h;exact .lenL hok ho h1 (h.h e) rfl⟩
instance Op1.ixW {j : Nat} [s : SlE P t none] [h : Opd L x (SL l) u] [h2 : Opd L y (NT j) v] : Op1 P L B (.indexAddr t x y) (j < l.length) (PE none (.ex (u32 (l.getD j 0)))) (u ++ v):=⟨fun ho hok e _ hp=>by
  obtain ⟨e',h3,h4⟩:=s.h
  exact .ixL hok ho h3 h4 (h.h e.l) (h2.h e.r) rfl (by simp [hp])⟩
theorem u32_eq {a b : Nat} : ((a : Int) == (b : Int)) = decide (a = b):=by rw [Bool.eq_iff_iff];simp;omega
instance Op1.weql {a b : Nat} [h : Opd L x (.ex (u32 a)) u] [k : Opd L y (.ex (u32 b)) v] : Op1 P L B (.binOp .eql t x y t') True (BT (decide (a = b))) (u ++ v):=⟨fun ho hok e _ _=>.ieql hok ho (h.h e.l) (k.h e.r) (by rw [u32_eq];rfl)⟩
instance Op1.wneq {a b : Nat} [h : Opd L x (.ex (u32 a)) u] [k : Opd L y (.ex (u32 b)) v] : Op1 P L B (.binOp .neq t x y t') True (BT (decide (a ≠ b))) (u ++ v):=⟨fun ho hok e _ _=>.ineq hok ho (h.h e.l) (k.h e.r) (by
  have : ((a : Int) != (b : Int)) = decide (a ≠ b):=by rw [bne_dec];exact decide_eq_decide.2 (by omega)
  rw [this];rfl)⟩
class CirT (P : Program) (t : TypeId) : Prop where
  h : ∃ f0 f1 f2 : Field,P.underlying t = some (.struct #[f0,f1,f2]) ∧ P.stoodInHeld t = false ∧ P.eqGuardType P.depth t = false ∧ ((f0.name != "_" && f1.name != "_" && f2.name != "_") = true ∧ (f0.offset = 0 ∧ f1.offset = 1 ∧ f2.offset = 2) ∧ tyS P f0.type none = true ∧ tyS P f1.type none = true ∧ tyS P f2.type none = true ∧ P.underlying f0.type = some .bool ∧ P.underlying f1.type = some .bool ∧ P.underlying f2.type = some (.int .i64))
instance Op1.cirn {a b : Bool × Bool × Int} [i : CirT P t] [h : Opd L x (CIR a) u] [k : Opd L y (CIR b) v] : Op1 P L B (.binOp .neq t x y t') True (BT (decide (a ≠ b))) (u ++ v):=⟨fun ho hok e _ _=>by
  obtain ⟨f0,f1,f2,h1,h2,h3,h4⟩:=i.h
  exact .cirNeq hok ho h1 h2 h3 h4 (h.h e.l) (k.h e.r) rfl⟩
end
namespace W
variable {P : Program} {B : List BX} {L : List (Nat × MT)} {W0 : World} {G0 : Gh} {N : Nat} {a : Act} {w : World} {G : Gh} {Q : Exit → Act → World → Prop} {t : Nat} {c c' : Code}
theorem cbt {b : Bool} [h : Lk L t (BT b)] (e : b = true) (h1 : St W0 G0 N L B a w G → c.wp P Q a w) : St W0 G0 N L B a w G → (Code.cond (.tmp t) c c').wp P Q a w:=cb (fun _=>h1) (fun f=>by rw [e] at f;cases f)
theorem cbf {b : Bool} [h : Lk L t (BT b)] (e : b = false) (h1 : St W0 G0 N L B a w G → c'.wp P Q a w) : St W0 G0 N L B a w G → (Code.cond (.tmp t) c c').wp P Q a w:=cb (fun f=>by rw [e] at f;cases f) (fun _=>h1)
end W
end Go.Proofs.YtpbkcbnghhodiaaGreat
namespace Go.Proofs.YtpbkcbnghhodiaaGreat
instance : TyS Tryz.prog 3 none:=⟨by kernel_rfl⟩
instance : TyS Tryz.prog 4 none:=⟨by kernel_rfl⟩
instance : TyS Tryz.prog 22 none:=⟨by kernel_rfl⟩
instance : TyS Tryz.prog 24 (some 3):=⟨by kernel_rfl⟩
instance : TyS Tryz.prog 26 (some 12):=⟨by kernel_rfl⟩
instance : TyS Tryz.prog 42 (some 3):=⟨by kernel_rfl⟩
instance : TyS Tryz.prog 45 (some 4):=⟨by kernel_rfl⟩
instance : TyS Tryz.prog 47 (some 5):=⟨by kernel_rfl⟩
instance : TyS Tryz.prog 59 (some 1):=⟨by kernel_rfl⟩
instance : TyS Tryz.prog 68 (some 3):=⟨by kernel_rfl⟩
instance : TyS Tryz.prog 78 (some 12):=⟨by kernel_rfl⟩
instance : TyS Tryz.prog 90 (some 6):=⟨by kernel_rfl⟩
instance : TyS Tryz.prog 93 (some 15):=⟨by kernel_rfl⟩
instance : TyS Tryz.prog 106 (some 12):=⟨by kernel_rfl⟩
instance : TyS Tryz.prog 108 (some 4):=⟨by kernel_rfl⟩
instance : TyS Tryz.prog 112 (some 2):=⟨by kernel_rfl⟩
instance : TyS Tryz.prog 141 none:=⟨by kernel_rfl⟩
instance : FO Tryz.prog 24 0 0:=⟨by kernel_rfl⟩
instance : FS Tryz.prog 24 0 none:=⟨trivial⟩
instance : FO Tryz.prog 24 1 1:=⟨by kernel_rfl⟩
instance : FS Tryz.prog 24 1 none:=⟨trivial⟩
instance : FO Tryz.prog 24 2 2:=⟨by kernel_rfl⟩
instance : FS Tryz.prog 24 2 none:=⟨trivial⟩
instance : FO Tryz.prog 26 0 0:=⟨by kernel_rfl⟩
instance : FS Tryz.prog 26 0 (some 3):=⟨trivial⟩
instance : FO Tryz.prog 26 1 3:=⟨by kernel_rfl⟩
instance : FS Tryz.prog 26 1 (some 3):=⟨trivial⟩
instance : FO Tryz.prog 26 2 6:=⟨by kernel_rfl⟩
instance : FS Tryz.prog 26 2 (some 3):=⟨trivial⟩
instance : FO Tryz.prog 26 3 9:=⟨by kernel_rfl⟩
instance : FS Tryz.prog 26 3 (some 3):=⟨trivial⟩
instance : FO Tryz.prog 42 0 0:=⟨by kernel_rfl⟩
instance : FS Tryz.prog 42 0 none:=⟨trivial⟩
instance : FO Tryz.prog 42 2 2:=⟨by kernel_rfl⟩
instance : FS Tryz.prog 42 2 none:=⟨trivial⟩
instance : FO Tryz.prog 45 0 0:=⟨by kernel_rfl⟩
instance : FS Tryz.prog 45 0 (some 3):=⟨trivial⟩
instance : FO Tryz.prog 45 1 3:=⟨by kernel_rfl⟩
instance : FS Tryz.prog 45 1 none:=⟨trivial⟩
instance : FO Tryz.prog 47 0 0:=⟨by kernel_rfl⟩
instance : FS Tryz.prog 47 0 (some 4):=⟨trivial⟩
instance : FO Tryz.prog 47 1 4:=⟨by kernel_rfl⟩
instance : FS Tryz.prog 47 1 none:=⟨trivial⟩
instance : FO Tryz.prog 68 0 0:=⟨by kernel_rfl⟩
instance : FS Tryz.prog 68 0 none:=⟨trivial⟩
instance : FO Tryz.prog 78 0 0:=⟨by kernel_rfl⟩
instance : FS Tryz.prog 78 0 (some 3):=⟨trivial⟩
instance : FO Tryz.prog 78 1 3:=⟨by kernel_rfl⟩
instance : FS Tryz.prog 78 1 (some 3):=⟨trivial⟩
instance : FO Tryz.prog 78 2 6:=⟨by kernel_rfl⟩
instance : FS Tryz.prog 78 2 (some 3):=⟨trivial⟩
instance : FO Tryz.prog 78 3 9:=⟨by kernel_rfl⟩
instance : FS Tryz.prog 78 3 (some 3):=⟨trivial⟩
instance : FO Tryz.prog 90 0 0:=⟨by kernel_rfl⟩
instance : FS Tryz.prog 90 0 (some 3):=⟨trivial⟩
instance : FO Tryz.prog 90 1 3:=⟨by kernel_rfl⟩
instance : FS Tryz.prog 90 1 (some 3):=⟨trivial⟩
instance : FO Tryz.prog 93 0 0:=⟨by kernel_rfl⟩
instance : FS Tryz.prog 93 0 (some 6):=⟨trivial⟩
instance : FO Tryz.prog 93 1 6:=⟨by kernel_rfl⟩
instance : FS Tryz.prog 93 1 (some 6):=⟨trivial⟩
instance : FO Tryz.prog 93 2 12:=⟨by kernel_rfl⟩
instance : FS Tryz.prog 93 2 (some 3):=⟨trivial⟩
instance : FO Tryz.prog 112 0 0:=⟨by kernel_rfl⟩
instance : FS Tryz.prog 112 0 none:=⟨trivial⟩
instance : FO Tryz.prog 112 1 1:=⟨by kernel_rfl⟩
instance : FS Tryz.prog 112 1 none:=⟨trivial⟩
instance : Und Tryz.prog 4 .bool:=⟨by kernel_rfl⟩
instance : Ifc Tryz.prog 30:=⟨by unfold ifaceT;kernel_rfl⟩
instance : NIf Tryz.prog 70:=⟨by kernel_rfl⟩
instance : ErI Tryz.prog 70:=.of (k:=.i64) (by kernel_rfl) (by kernel_rfl)
instance : Cb Tryz.prog 6:=⟨by kernel_rfl⟩
instance : Cb Tryz.prog 7:=⟨by kernel_rfl⟩
instance : Cb Tryz.prog 8:=⟨by kernel_rfl⟩
instance : Cb Tryz.prog 9:=⟨by kernel_rfl⟩
instance : Cb Tryz.prog 10:=⟨by kernel_rfl⟩
instance : Cb Tryz.prog 11:=⟨by kernel_rfl⟩
instance : Cb Tryz.prog 12:=⟨by kernel_rfl⟩
instance : Cb Tryz.prog 13:=⟨by kernel_rfl⟩
instance : Cb Tryz.prog 14:=⟨by kernel_rfl⟩
instance : Cb Tryz.prog 15:=⟨by kernel_rfl⟩
instance : Cb Tryz.prog 16:=⟨by kernel_rfl⟩
instance : Cb Tryz.prog 17:=⟨by kernel_rfl⟩
instance : Cb Tryz.prog 18:=⟨by kernel_rfl⟩
instance : Cb Tryz.prog 19:=⟨by kernel_rfl⟩
instance : Cb Tryz.prog 20:=⟨by kernel_rfl⟩
instance : Cb Tryz.prog 21:=⟨by kernel_rfl⟩
instance : Cb Tryz.prog 22:=⟨by kernel_rfl⟩
instance : Cb Tryz.prog 23:=⟨by kernel_rfl⟩
instance : Cb Tryz.prog 24:=⟨by kernel_rfl⟩
instance : Cb Tryz.prog 25:=⟨by kernel_rfl⟩
instance : Cb Tryz.prog 26:=⟨by kernel_rfl⟩
instance : Cb Tryz.prog 27:=⟨by kernel_rfl⟩
instance : Cb Tryz.prog 28:=⟨by kernel_rfl⟩
instance : Cb Tryz.prog 29:=⟨by kernel_rfl⟩
instance : Cb Tryz.prog 30:=⟨by kernel_rfl⟩
instance : Cb Tryz.prog 31:=⟨by kernel_rfl⟩
instance : Cb Tryz.prog 32:=⟨by kernel_rfl⟩
instance : Cb Tryz.prog 33:=⟨by kernel_rfl⟩
instance : Cb Tryz.prog 34:=⟨by kernel_rfl⟩
instance : Cb Tryz.prog 35:=⟨by kernel_rfl⟩
instance : Cb Tryz.prog 36:=⟨by kernel_rfl⟩
instance : Cb Tryz.prog 37:=⟨by kernel_rfl⟩
instance : Cb Tryz.prog 38:=⟨by kernel_rfl⟩
instance : Cb Tryz.prog 39:=⟨by kernel_rfl⟩
instance : Cb Tryz.prog 40:=⟨by kernel_rfl⟩
instance : Cb Tryz.prog 41:=⟨by kernel_rfl⟩
instance : Cb Tryz.prog 42:=⟨by kernel_rfl⟩
instance : Cb Tryz.prog 43:=⟨by kernel_rfl⟩
instance : Cb Tryz.prog 44:=⟨by kernel_rfl⟩
instance : Cb Tryz.prog 45:=⟨by kernel_rfl⟩
instance : Cb Tryz.prog 46:=⟨by kernel_rfl⟩
instance : Cb Tryz.prog 47:=⟨by kernel_rfl⟩
instance : Cb Tryz.prog 48:=⟨by kernel_rfl⟩
instance : Cb Tryz.prog 49:=⟨by kernel_rfl⟩
instance : Cb Tryz.prog 50:=⟨by kernel_rfl⟩
instance : Cb Tryz.prog 51:=⟨by kernel_rfl⟩
instance : Cb Tryz.prog 52:=⟨by kernel_rfl⟩
instance : Cb Tryz.prog 53:=⟨by kernel_rfl⟩
instance : Cb Tryz.prog 54:=⟨by kernel_rfl⟩
instance : Cb Tryz.prog 55:=⟨by kernel_rfl⟩
instance : Cb Tryz.prog 56:=⟨by kernel_rfl⟩
instance : Cb Tryz.prog 57:=⟨by kernel_rfl⟩
instance : Cb Tryz.prog 58:=⟨by kernel_rfl⟩
instance : Cb Tryz.prog 59:=⟨by kernel_rfl⟩
instance : Cb Tryz.prog 60:=⟨by kernel_rfl⟩
instance : Cb Tryz.prog 61:=⟨by kernel_rfl⟩
instance : Cb Tryz.prog 62:=⟨by kernel_rfl⟩
instance : Cb Tryz.prog 63:=⟨by kernel_rfl⟩
instance : Cb Tryz.prog 64:=⟨by kernel_rfl⟩
instance : Cb Tryz.prog 65:=⟨by kernel_rfl⟩
instance : Cb Tryz.prog 66:=⟨by kernel_rfl⟩
instance : Cb Tryz.prog 67:=⟨by kernel_rfl⟩
instance : Cb Tryz.prog 68:=⟨by kernel_rfl⟩
instance : Cb Tryz.prog 69:=⟨by kernel_rfl⟩
instance : Cb Tryz.prog 70:=⟨by kernel_rfl⟩
instance : Cb Tryz.prog 71:=⟨by kernel_rfl⟩
instance : Cb Tryz.prog 72:=⟨by kernel_rfl⟩
instance : Cb Tryz.prog 73:=⟨by kernel_rfl⟩
instance : Cb Tryz.prog 74:=⟨by kernel_rfl⟩
instance : Cb Tryz.prog 75:=⟨by kernel_rfl⟩
instance : Cb Tryz.prog 76:=⟨by kernel_rfl⟩
instance : Cb Tryz.prog 77:=⟨by kernel_rfl⟩
instance : Cb Tryz.prog 78:=⟨by kernel_rfl⟩
instance : Cb Tryz.prog 79:=⟨by kernel_rfl⟩
instance : Cb Tryz.prog 80:=⟨by kernel_rfl⟩
instance : Cb Tryz.prog 81:=⟨by kernel_rfl⟩
instance : Cb Tryz.prog 82:=⟨by kernel_rfl⟩
instance : Cb Tryz.prog 83:=⟨by kernel_rfl⟩
instance : Cb Tryz.prog 84:=⟨by kernel_rfl⟩
instance : Cb Tryz.prog 85:=⟨by kernel_rfl⟩
instance : Cb Tryz.prog 86:=⟨by kernel_rfl⟩
instance : Cb Tryz.prog 87:=⟨by kernel_rfl⟩
instance : Cb Tryz.prog 88:=⟨by kernel_rfl⟩
instance : Cb Tryz.prog 89:=⟨by kernel_rfl⟩
instance : Cb Tryz.prog 90:=⟨by kernel_rfl⟩
instance : Cb Tryz.prog 91:=⟨by kernel_rfl⟩
instance : Cb Tryz.prog 94:=⟨by kernel_rfl⟩
instance : Cb Tryz.prog 95:=⟨by kernel_rfl⟩
instance : Cb Tryz.prog 96:=⟨by kernel_rfl⟩
instance : Cb Tryz.prog 97:=⟨by kernel_rfl⟩
instance : Cb Tryz.prog 99:=⟨by kernel_rfl⟩
instance : Cb Tryz.prog 100:=⟨by kernel_rfl⟩
instance : Cb Tryz.prog 108:=⟨by kernel_rfl⟩
instance : Cb Tryz.prog 111:=⟨by kernel_rfl⟩
instance : Cb Tryz.prog 112:=⟨by kernel_rfl⟩
instance : Cb Tryz.prog 113:=⟨by kernel_rfl⟩
instance : Cb Tryz.prog 120:=⟨by kernel_rfl⟩
instance : Cb Tryz.prog 121:=⟨by kernel_rfl⟩
instance : Cb Tryz.prog 122:=⟨by kernel_rfl⟩
instance : Cb Tryz.prog 137:=⟨by kernel_rfl⟩
instance : Cb Tryz.prog 138:=⟨by kernel_rfl⟩
instance : Cb Tryz.prog 141:=⟨by kernel_rfl⟩
instance : Cb Tryz.prog 142:=⟨by kernel_rfl⟩
instance : SlE Tryz.prog 22 none:=⟨141,by kernel_rfl,by kernel_rfl⟩
instance : SlE Tryz.prog 33 (some 3):=⟨42,by kernel_rfl,by kernel_rfl⟩
instance : SlE Tryz.prog 57 none:=⟨64,by kernel_rfl,by kernel_rfl⟩
instance : SlE Tryz.prog 60 (some 3):=⟨68,by kernel_rfl,by kernel_rfl⟩
instance : SlE Tryz.prog 63 (some 3):=⟨24,by kernel_rfl,by kernel_rfl⟩
instance : SlE Tryz.prog 64 (some 3):=⟨24,by kernel_rfl,by kernel_rfl⟩
instance : SlE Tryz.prog 73 (some 5):=⟨47,by kernel_rfl,by kernel_rfl⟩
instance : SlE Tryz.prog 129 none:=⟨3,by kernel_rfl,by kernel_rfl⟩
instance : Zer Tryz.prog 24 (some 3) (FX 1 default):=.of ⟨some 3,.agg #[.bool false,.slice none 0 0,.slice none 0 0],FX 1 default⟩ (by kernel_rfl)
instance : Zr Tryz.prog 24 (some 3) (.agg #[.bool false,.slice none 0 0,.slice none 0 0]):=.of ⟨some 3,.agg #[.bool false,.slice none 0 0,.slice none 0 0],FX 1 default⟩ (by kernel_rfl)
instance : BZ Tryz.prog 24 (FX 1 default):=⟨_,by kernel_rfl,fun _=>(inferInstance : ZV ⟨some 3,.agg #[.bool false,.slice none 0 0,.slice none 0 0],FX 1 default⟩).t _⟩
instance : ZV ⟨some 12,.agg #[.bool false,.slice none 0 0,.slice none 0 0,.bool false,.slice none 0 0,.slice none 0 0,.bool false,.slice none 0 0,.slice none 0 0,.bool false,.slice none 0 0,.slice none 0 0],PTS [(some 3,(FX 1 default)),(some 3,(FX 1 default)),(some 3,(FX 1 default)),(some 3,(FX 1 default))]⟩:=.pts [⟨some 3,.agg #[.bool false,.slice none 0 0,.slice none 0 0],FX 1 default⟩,⟨some 3,.agg #[.bool false,.slice none 0 0,.slice none 0 0],FX 1 default⟩,⟨some 3,.agg #[.bool false,.slice none 0 0,.slice none 0 0],FX 1 default⟩,⟨some 3,.agg #[.bool false,.slice none 0 0,.slice none 0 0],FX 1 default⟩] inferInstance rfl rfl rfl
instance : Zer Tryz.prog 26 (some 12) (PTS [(some 3,(FX 1 default)),(some 3,(FX 1 default)),(some 3,(FX 1 default)),(some 3,(FX 1 default))]):=.of ⟨some 12,.agg #[.bool false,.slice none 0 0,.slice none 0 0,.bool false,.slice none 0 0,.slice none 0 0,.bool false,.slice none 0 0,.slice none 0 0,.bool false,.slice none 0 0,.slice none 0 0],PTS [(some 3,(FX 1 default)),(some 3,(FX 1 default)),(some 3,(FX 1 default)),(some 3,(FX 1 default))]⟩ (by kernel_rfl)
instance : Zr Tryz.prog 26 (some 12) (.agg #[.bool false,.slice none 0 0,.slice none 0 0,.bool false,.slice none 0 0,.slice none 0 0,.bool false,.slice none 0 0,.slice none 0 0,.bool false,.slice none 0 0,.slice none 0 0]):=.of ⟨some 12,.agg #[.bool false,.slice none 0 0,.slice none 0 0,.bool false,.slice none 0 0,.slice none 0 0,.bool false,.slice none 0 0,.slice none 0 0,.bool false,.slice none 0 0,.slice none 0 0],PTS [(some 3,(FX 1 default)),(some 3,(FX 1 default)),(some 3,(FX 1 default)),(some 3,(FX 1 default))]⟩ (by kernel_rfl)
instance : ZFl Tryz.prog 26 [⟨some 3,.agg #[.bool false,.slice none 0 0,.slice none 0 0],FX 1 default⟩,⟨some 3,.agg #[.bool false,.slice none 0 0,.slice none 0 0],FX 1 default⟩,⟨some 3,.agg #[.bool false,.slice none 0 0,.slice none 0 0],FX 1 default⟩,⟨some 3,.agg #[.bool false,.slice none 0 0,.slice none 0 0],FX 1 default⟩]:=⟨by kernel_rfl,by kernel_rfl,inferInstance⟩
instance : ZFl Tryz.prog 42 [⟨none,.bool false,BT false⟩,⟨none,.bool false,BT false⟩,⟨none,.int .i64 0,.ex (.int .i64 0)⟩]:=⟨by kernel_rfl,by kernel_rfl,inferInstance⟩
instance : ZFl Tryz.prog 45 [⟨some 3,.agg #[.bool false,.slice none 0 0,.slice none 0 0],FX 1 default⟩,⟨none,.bool false,BT false⟩]:=⟨by kernel_rfl,by kernel_rfl,inferInstance⟩
instance : ZV ⟨some 4,.agg #[.bool false,.slice none 0 0,.slice none 0 0,(.bool false)],PTS [(some 3,(FX 1 default)),(none,(BT false))]⟩:=.pts [⟨some 3,.agg #[.bool false,.slice none 0 0,.slice none 0 0],FX 1 default⟩,⟨none,.bool false,BT false⟩] inferInstance rfl rfl rfl
instance : ZV ⟨some 5,.agg #[.bool false,.slice none 0 0,.slice none 0 0,(.bool false),(.int .i64 0)],PTS [(some 4,(PTS [(some 3,(FX 1 default)),(none,(BT false))])),(none,(.ex (.int .i64 0)))]⟩:=.pts [⟨some 4,.agg #[.bool false,.slice none 0 0,.slice none 0 0,(.bool false)],PTS [(some 3,(FX 1 default)),(none,(BT false))]⟩,⟨none,.int .i64 0,.ex (.int .i64 0)⟩] inferInstance rfl rfl rfl
instance : Zer Tryz.prog 47 (some 5) (PTS [(some 4,(PTS [(some 3,(FX 1 default)),(none,(BT false))])),(none,(.ex (.int .i64 0)))]):=.of ⟨some 5,.agg #[.bool false,.slice none 0 0,.slice none 0 0,(.bool false),(.int .i64 0)],PTS [(some 4,(PTS [(some 3,(FX 1 default)),(none,(BT false))])),(none,(.ex (.int .i64 0)))]⟩ (by kernel_rfl)
instance : Zr Tryz.prog 47 (some 5) (.agg #[.bool false,.slice none 0 0,.slice none 0 0,(.bool false),(.int .i64 0)]):=.of ⟨some 5,.agg #[.bool false,.slice none 0 0,.slice none 0 0,(.bool false),(.int .i64 0)],PTS [(some 4,(PTS [(some 3,(FX 1 default)),(none,(BT false))])),(none,(.ex (.int .i64 0)))]⟩ (by kernel_rfl)
instance : ZFl Tryz.prog 47 [⟨some 4,.agg #[.bool false,.slice none 0 0,.slice none 0 0,(.bool false)],PTS [(some 3,(FX 1 default)),(none,(BT false))]⟩,⟨none,.int .i64 0,.ex (.int .i64 0)⟩]:=⟨by kernel_rfl,by kernel_rfl,inferInstance⟩
instance : ZV ⟨some 1,.agg #[(.slice none 0 0)],PTS [(none,(.ex (.slice none 0 0)))]⟩:=.pts [⟨none,.slice none 0 0,.ex (.slice none 0 0)⟩] inferInstance rfl rfl rfl
instance : Zer Tryz.prog 59 (some 1) (PTS [(none,(.ex (.slice none 0 0)))]):=.of ⟨some 1,.agg #[(.slice none 0 0)],PTS [(none,(.ex (.slice none 0 0)))]⟩ (by kernel_rfl)
instance : Zr Tryz.prog 59 (some 1) (.agg #[(.slice none 0 0)]):=.of ⟨some 1,.agg #[(.slice none 0 0)],PTS [(none,(.ex (.slice none 0 0)))]⟩ (by kernel_rfl)
instance : ZFl Tryz.prog 59 [⟨none,.slice none 0 0,.ex (.slice none 0 0)⟩]:=⟨by kernel_rfl,by kernel_rfl,inferInstance⟩
instance : ZFl Tryz.prog 66 [⟨none,.slice none 0 0,.ex (.slice none 0 0)⟩,⟨none,.slice none 0 0,.ex (.slice none 0 0)⟩]:=⟨by kernel_rfl,by kernel_rfl,inferInstance⟩
instance : ZV ⟨some 2,.agg #[(.slice none 0 0),(.slice none 0 0)],PTS [(none,(.ex (.slice none 0 0))),(none,(.ex (.slice none 0 0)))]⟩:=.pts [⟨none,.slice none 0 0,.ex (.slice none 0 0)⟩,⟨none,.slice none 0 0,.ex (.slice none 0 0)⟩] inferInstance rfl rfl rfl
instance : ZV ⟨some 3,.agg #[(.int .i64 0),(.slice none 0 0),(.slice none 0 0)],PTS [(none,(.ex (.int .i64 0))),(some 2,(PTS [(none,(.ex (.slice none 0 0))),(none,(.ex (.slice none 0 0)))]))]⟩:=.pts [⟨none,.int .i64 0,.ex (.int .i64 0)⟩,⟨some 2,.agg #[(.slice none 0 0),(.slice none 0 0)],PTS [(none,(.ex (.slice none 0 0))),(none,(.ex (.slice none 0 0)))]⟩] inferInstance rfl rfl rfl
instance : Zer Tryz.prog 68 (some 3) (PTS [(none,(.ex (.int .i64 0))),(some 2,(PTS [(none,(.ex (.slice none 0 0))),(none,(.ex (.slice none 0 0)))]))]):=.of ⟨some 3,.agg #[(.int .i64 0),(.slice none 0 0),(.slice none 0 0)],PTS [(none,(.ex (.int .i64 0))),(some 2,(PTS [(none,(.ex (.slice none 0 0))),(none,(.ex (.slice none 0 0)))]))]⟩ (by kernel_rfl)
instance : Zr Tryz.prog 68 (some 3) (.agg #[(.int .i64 0),(.slice none 0 0),(.slice none 0 0)]):=.of ⟨some 3,.agg #[(.int .i64 0),(.slice none 0 0),(.slice none 0 0)],PTS [(none,(.ex (.int .i64 0))),(some 2,(PTS [(none,(.ex (.slice none 0 0))),(none,(.ex (.slice none 0 0)))]))]⟩ (by kernel_rfl)
instance : ZFl Tryz.prog 68 [⟨none,.int .i64 0,.ex (.int .i64 0)⟩,⟨some 2,.agg #[(.slice none 0 0),(.slice none 0 0)],PTS [(none,(.ex (.slice none 0 0))),(none,(.ex (.slice none 0 0)))]⟩]:=⟨by kernel_rfl,by kernel_rfl,inferInstance⟩
instance : Zer Tryz.prog 78 (some 12) (PTS [(some 3,(FX 1 default)),(some 3,(FX 1 default)),(some 3,(FX 1 default)),(some 3,(FX 1 default))]):=.of ⟨some 12,.agg #[.bool false,.slice none 0 0,.slice none 0 0,.bool false,.slice none 0 0,.slice none 0 0,.bool false,.slice none 0 0,.slice none 0 0,.bool false,.slice none 0 0,.slice none 0 0],PTS [(some 3,(FX 1 default)),(some 3,(FX 1 default)),(some 3,(FX 1 default)),(some 3,(FX 1 default))]⟩ (by kernel_rfl)
instance : Zr Tryz.prog 78 (some 12) (.agg #[.bool false,.slice none 0 0,.slice none 0 0,.bool false,.slice none 0 0,.slice none 0 0,.bool false,.slice none 0 0,.slice none 0 0,.bool false,.slice none 0 0,.slice none 0 0]):=.of ⟨some 12,.agg #[.bool false,.slice none 0 0,.slice none 0 0,.bool false,.slice none 0 0,.slice none 0 0,.bool false,.slice none 0 0,.slice none 0 0,.bool false,.slice none 0 0,.slice none 0 0],PTS [(some 3,(FX 1 default)),(some 3,(FX 1 default)),(some 3,(FX 1 default)),(some 3,(FX 1 default))]⟩ (by kernel_rfl)
instance : ZFl Tryz.prog 78 [⟨some 3,.agg #[.bool false,.slice none 0 0,.slice none 0 0],FX 1 default⟩,⟨some 3,.agg #[.bool false,.slice none 0 0,.slice none 0 0],FX 1 default⟩,⟨some 3,.agg #[.bool false,.slice none 0 0,.slice none 0 0],FX 1 default⟩,⟨some 3,.agg #[.bool false,.slice none 0 0,.slice none 0 0],FX 1 default⟩]:=⟨by kernel_rfl,by kernel_rfl,inferInstance⟩
instance : ZV ⟨some 6,.agg #[.bool false,.slice none 0 0,.slice none 0 0,.bool false,.slice none 0 0,.slice none 0 0],PTS [(some 3,(FX 1 default)),(some 3,(FX 1 default))]⟩:=.pts [⟨some 3,.agg #[.bool false,.slice none 0 0,.slice none 0 0],FX 1 default⟩,⟨some 3,.agg #[.bool false,.slice none 0 0,.slice none 0 0],FX 1 default⟩] inferInstance rfl rfl rfl
instance : Zer Tryz.prog 90 (some 6) (PTS [(some 3,(FX 1 default)),(some 3,(FX 1 default))]):=.of ⟨some 6,.agg #[.bool false,.slice none 0 0,.slice none 0 0,.bool false,.slice none 0 0,.slice none 0 0],PTS [(some 3,(FX 1 default)),(some 3,(FX 1 default))]⟩ (by kernel_rfl)
instance : Zr Tryz.prog 90 (some 6) (.agg #[.bool false,.slice none 0 0,.slice none 0 0,.bool false,.slice none 0 0,.slice none 0 0]):=.of ⟨some 6,.agg #[.bool false,.slice none 0 0,.slice none 0 0,.bool false,.slice none 0 0,.slice none 0 0],PTS [(some 3,(FX 1 default)),(some 3,(FX 1 default))]⟩ (by kernel_rfl)
instance : ZFl Tryz.prog 90 [⟨some 3,.agg #[.bool false,.slice none 0 0,.slice none 0 0],FX 1 default⟩,⟨some 3,.agg #[.bool false,.slice none 0 0,.slice none 0 0],FX 1 default⟩]:=⟨by kernel_rfl,by kernel_rfl,inferInstance⟩
instance : ZV ⟨some 15,.agg #[.bool false,.slice none 0 0,.slice none 0 0,.bool false,.slice none 0 0,.slice none 0 0,.bool false,.slice none 0 0,.slice none 0 0,.bool false,.slice none 0 0,.slice none 0 0,.bool false,.slice none 0 0,.slice none 0 0],PTS [(some 6,(PTS [(some 3,(FX 1 default)),(some 3,(FX 1 default))])),(some 6,(PTS [(some 3,(FX 1 default)),(some 3,(FX 1 default))])),(some 3,(FX 1 default))]⟩:=.pts [⟨some 6,.agg #[.bool false,.slice none 0 0,.slice none 0 0,.bool false,.slice none 0 0,.slice none 0 0],PTS [(some 3,(FX 1 default)),(some 3,(FX 1 default))]⟩,⟨some 6,.agg #[.bool false,.slice none 0 0,.slice none 0 0,.bool false,.slice none 0 0,.slice none 0 0],PTS [(some 3,(FX 1 default)),(some 3,(FX 1 default))]⟩,⟨some 3,.agg #[.bool false,.slice none 0 0,.slice none 0 0],FX 1 default⟩] inferInstance rfl rfl rfl
instance : Zer Tryz.prog 93 (some 15) (PTS [(some 6,(PTS [(some 3,(FX 1 default)),(some 3,(FX 1 default))])),(some 6,(PTS [(some 3,(FX 1 default)),(some 3,(FX 1 default))])),(some 3,(FX 1 default))]):=.of ⟨some 15,.agg #[.bool false,.slice none 0 0,.slice none 0 0,.bool false,.slice none 0 0,.slice none 0 0,.bool false,.slice none 0 0,.slice none 0 0,.bool false,.slice none 0 0,.slice none 0 0,.bool false,.slice none 0 0,.slice none 0 0],PTS [(some 6,(PTS [(some 3,(FX 1 default)),(some 3,(FX 1 default))])),(some 6,(PTS [(some 3,(FX 1 default)),(some 3,(FX 1 default))])),(some 3,(FX 1 default))]⟩ (by kernel_rfl)
instance : Zr Tryz.prog 93 (some 15) (.agg #[.bool false,.slice none 0 0,.slice none 0 0,.bool false,.slice none 0 0,.slice none 0 0,.bool false,.slice none 0 0,.slice none 0 0,.bool false,.slice none 0 0,.slice none 0 0,.bool false,.slice none 0 0,.slice none 0 0]):=.of ⟨some 15,.agg #[.bool false,.slice none 0 0,.slice none 0 0,.bool false,.slice none 0 0,.slice none 0 0,.bool false,.slice none 0 0,.slice none 0 0,.bool false,.slice none 0 0,.slice none 0 0,.bool false,.slice none 0 0,.slice none 0 0],PTS [(some 6,(PTS [(some 3,(FX 1 default)),(some 3,(FX 1 default))])),(some 6,(PTS [(some 3,(FX 1 default)),(some 3,(FX 1 default))])),(some 3,(FX 1 default))]⟩ (by kernel_rfl)
instance : ZFl Tryz.prog 93 [⟨some 6,.agg #[.bool false,.slice none 0 0,.slice none 0 0,.bool false,.slice none 0 0,.slice none 0 0],PTS [(some 3,(FX 1 default)),(some 3,(FX 1 default))]⟩,⟨some 6,.agg #[.bool false,.slice none 0 0,.slice none 0 0,.bool false,.slice none 0 0,.slice none 0 0],PTS [(some 3,(FX 1 default)),(some 3,(FX 1 default))]⟩,⟨some 3,.agg #[.bool false,.slice none 0 0,.slice none 0 0],FX 1 default⟩]:=⟨by kernel_rfl,by kernel_rfl,inferInstance⟩
instance : Zer Tryz.prog 112 (some 2) (WC 1 0):=.of ⟨some 2,.agg #[.bool false,.slice none 0 0],WC 1 0⟩ (by kernel_rfl)
instance : Zr Tryz.prog 112 (some 2) (.agg #[.bool false,.slice none 0 0]):=.of ⟨some 2,.agg #[.bool false,.slice none 0 0],WC 1 0⟩ (by kernel_rfl)
instance : BZ Tryz.prog 112 (WC 1 0):=⟨_,by kernel_rfl,fun _=>(inferInstance : ZV ⟨some 2,.agg #[.bool false,.slice none 0 0],WC 1 0⟩).t _⟩
instance : ElS Tryz.prog 22 141 none 4 (.int .u32 0):=⟨by kernel_rfl,by unfold elS;kernel_rfl,by kernel_rfl⟩
instance : ElS Tryz.prog 33 42 (some 3) 16 (.agg #[(.bool false),(.bool false),(.int .i64 0)]):=⟨by kernel_rfl,by unfold elS;kernel_rfl,by kernel_rfl⟩
instance : ElS Tryz.prog 57 64 none 24 (.slice none 0 0):=⟨by kernel_rfl,by unfold elS;kernel_rfl,by kernel_rfl⟩
instance : ElS Tryz.prog 60 68 (some 3) 56 (.agg #[(.int .i64 0),(.slice none 0 0),(.slice none 0 0)]):=⟨by kernel_rfl,by unfold elS;kernel_rfl,by kernel_rfl⟩
instance : ElS Tryz.prog 63 24 (some 3) 56 (.agg #[.bool false,.slice none 0 0,.slice none 0 0]):=⟨by kernel_rfl,by unfold elS;kernel_rfl,by kernel_rfl⟩
instance : ElS Tryz.prog 64 24 (some 3) 56 (.agg #[.bool false,.slice none 0 0,.slice none 0 0]):=⟨by kernel_rfl,by unfold elS;kernel_rfl,by kernel_rfl⟩
instance : ElS Tryz.prog 73 47 (some 5) 72 (.agg #[.bool false,.slice none 0 0,.slice none 0 0,(.bool false),(.int .i64 0)]):=⟨by kernel_rfl,by unfold elS;kernel_rfl,by kernel_rfl⟩
instance : ElS Tryz.prog 129 3 none 8 (.int .i64 0):=⟨by kernel_rfl,by unfold elS;kernel_rfl,by kernel_rfl⟩
end Go.Proofs.YtpbkcbnghhodiaaGreat
namespace Go.Proofs.YtpbkcbnghhodiaaGreat
open Go.RowKit (Below)
end Go.Proofs.YtpbkcbnghhodiaaGreat
namespace Go.Proofs.YtpbkcbnghhodiaaGreat
open Go.RowKit (Below)
end Go.Proofs.YtpbkcbnghhodiaaGreat
namespace Go.Proofs.YtpbkcbnghhodiaaGreat
def Cau (f : Nat → Rat) : Prop:=∀ e : Rat,0 < e → ∃ N,∀ i j,N ≤ i → N ≤ j → f i - f j < e
def Ceq (f g : Nat → Rat) : Prop:=∀ e : Rat,0 < e → ∃ N,∀ i,N ≤ i → f i - g i < e ∧ g i - f i < e
def Cnn (f : Nat → Rat) : Prop:=∀ e : Rat,0 < e → ∃ N,∀ i,N ≤ i → -e < f i
theorem half_pos {e : Rat} (h : 0 < e) : 0 < e / 2:=by grind
theorem rmul_pos {a b : Rat} (ha : 0 < a) (hb : 0 < b) : 0 < a * b:=Rat.mul_pos ha hb
theorem rdiv_pos {a b : Rat} (ha : 0 < a) (hb : 0 < b) : 0 < a / b:=by
  rw [Rat.div_def];exact Rat.mul_pos ha (Rat.inv_pos.2 hb)
theorem rmul_div {a b : Rat} (hb : 0 < b) : a / b * b = a:=by grind
theorem rmul_le {a b c d : Rat} (h1 : 0 ≤ a) (h2 : a ≤ b) (h3 : 0 ≤ c) (h4 : c ≤ d) : a * c ≤ b * d:=by
  have e1 : 0 ≤ (b - a) * c:=Rat.mul_nonneg (by grind) h3
  have e2 : 0 ≤ b * (d - c):=Rat.mul_nonneg (by grind) (by grind)
  grind
theorem Ceq.refl (f : Nat → Rat) : Ceq f f:=fun e he=>⟨0,fun i _=>by constructor <;> grind⟩
theorem Ceq.symm {f g : Nat → Rat} (h : Ceq f g) : Ceq g f:=fun e he=>by
  obtain ⟨N,hN⟩:=h e he;exact ⟨N,fun i hi=>⟨(hN i hi).2,(hN i hi).1⟩⟩
theorem Ceq.trans {f g k : Nat → Rat} (h : Ceq f g) (h' : Ceq g k) : Ceq f k:=fun e he=>by
  obtain ⟨N,hN⟩:=h (e / 2) (half_pos he);obtain ⟨M,hM⟩:=h' (e / 2) (half_pos he)
  refine ⟨max N M,fun i hi=>?_⟩
  have h1:=hN i (by omega);have h2:=hM i (by omega)
  constructor <;> grind
theorem Cau.const (q : Rat) : Cau fun _=>q:=fun e he=>⟨0,fun i j _ _=>by grind⟩
theorem Cau.add {f g : Nat → Rat} (h : Cau f) (h' : Cau g) : Cau fun n=>f n + g n:=fun e he=>by
  obtain ⟨N,hN⟩:=h (e / 2) (half_pos he);obtain ⟨M,hM⟩:=h' (e / 2) (half_pos he)
  refine ⟨max N M,fun i j hi hj=>?_⟩
  have h1:=hN i j (by omega) (by omega);have h2:=hM i j (by omega) (by omega)
  grind
theorem Cau.neg {f : Nat → Rat} (h : Cau f) : Cau fun n=>-f n:=fun e he=>by
  obtain ⟨N,hN⟩:=h e he
  exact ⟨N,fun i j hi hj=>by have:=hN j i hj hi;grind⟩
theorem Cau.bound {f : Nat → Rat} (h : Cau f) : ∃ B : Rat,0 < B ∧ ∀ i,-B < f i ∧ f i < B:=by
  obtain ⟨N,hN⟩:=h 1 (by grind)
  have hfin : ∀ n,∃ B : Rat,0 < B ∧ ∀ i,i ≤ n → -B < f i ∧ f i < B:=by
    intro n
    induction n with
    | zero =>
      rcases Rat.le_total (a:=0) (b:=(f 0)) with h0 | h0
      · exact ⟨f 0 + 1, by grind, fun i hi => by obtain rfl : i = 0 := by omega
                                                 constructor <;> grind⟩
      · exact ⟨1 - f 0, by grind, fun i hi => by obtain rfl : i = 0 := by omega
                                                 constructor <;> grind⟩
    | succ n ih =>
      obtain ⟨B,hB,hb⟩:=ih
      rcases Rat.le_total (a:=0) (b:=(f (n + 1))) with h0 | h0
      · refine ⟨B + f (n + 1) + 1,by grind,fun i hi=>?_⟩
        rcases Nat.lt_or_ge n i with h1 | h1
        · obtain rfl : i = n + 1:=by omega
          constructor <;> grind
        · have:=hb i h1;constructor <;> grind
      · refine ⟨B - f (n + 1) + 1,by grind,fun i hi=>?_⟩
        rcases Nat.lt_or_ge n i with h1 | h1
        · obtain rfl : i = n + 1:=by omega
          constructor <;> grind
        · have:=hb i h1;constructor <;> grind
  obtain ⟨B,hB,hb⟩:=hfin N
  refine ⟨B + 1,by grind,fun i=>?_⟩
  rcases Nat.lt_or_ge N i with h1 | h1
  · have a:=hN i N (by omega) (Nat.le_refl _);have b:=hN N i (Nat.le_refl _) (by omega);have c:=hb N (Nat.le_refl _)
    constructor <;> grind
  · have:=hb i h1;constructor <;> grind
theorem small_mul {a b e B : Rat} (hB : 0 < B) (h1 : -B < b ∧ b < B) (h2 : -(e / B) < a ∧ a < e / B) : -e < a * b ∧ a * b < e:=by
  have hd:=rmul_div (a:=e) hB
  generalize e / B = d at *
  have hd0 : 0 < d:=by grind
  rcases Rat.le_total (a:=0) (b:=a) with ha | ha <;> rcases Rat.le_total (a:=0) (b:=b) with hb | hb
  · have p:=Rat.mul_nonneg ha hb
    have q : 0 ≤ (d - a) * b:=Rat.mul_nonneg (by grind) hb
    have r : 0 < d * (B - b):=Rat.mul_pos hd0 (by grind)
    constructor <;> grind
  · have p : 0 ≤ a * -b:=Rat.mul_nonneg ha (by grind)
    have q : 0 ≤ (d - a) * -b:=Rat.mul_nonneg (by grind) (by grind)
    have r : 0 < d * (B + b):=Rat.mul_pos hd0 (by grind)
    constructor <;> grind
  · have p : 0 ≤ -a * b:=Rat.mul_nonneg (by grind) hb
    have q : 0 ≤ (d + a) * b:=Rat.mul_nonneg (by grind) hb
    have r : 0 < d * (B - b):=Rat.mul_pos hd0 (by grind)
    constructor <;> grind
  · have p : 0 ≤ -a * -b:=Rat.mul_nonneg (by grind) (by grind)
    have q : 0 ≤ (d + a) * -b:=Rat.mul_nonneg (by grind) (by grind)
    have r : 0 < d * (B + b):=Rat.mul_pos hd0 (by grind)
    constructor <;> grind
theorem Cau.mul {f g : Nat → Rat} (h : Cau f) (h' : Cau g) : Cau fun n=>f n * g n:=fun e he=>by
  obtain ⟨B,hB,hb⟩:=h.bound;obtain ⟨C,hC,hc⟩:=h'.bound
  have he1:=rdiv_pos (half_pos he) hC
  have he2:=rdiv_pos (half_pos he) hB
  obtain ⟨N,hN⟩:=h _ he1
  obtain ⟨M,hM⟩:=h' _ he2
  refine ⟨max N M,fun i j hi hj=>?_⟩
  have a1:=hN i j (by omega) (by omega);have a2:=hN j i (by omega) (by omega)
  have b1:=hM i j (by omega) (by omega);have b2:=hM j i (by omega) (by omega)
  have p:=small_mul (a:=f i - f j) (b:=g i) hC (hc i) ⟨by grind,a1⟩
  have q:=small_mul (a:=g i - g j) (b:=f j) hB (hb j) ⟨by grind,b1⟩
  grind
theorem Ceq.add {f g f' g' : Nat → Rat} (h : Ceq f f') (h' : Ceq g g') : Ceq (fun n=>f n + g n) fun n=>f' n + g' n:=fun e he=>by
  obtain ⟨N,hN⟩:=h (e / 2) (half_pos he);obtain ⟨M,hM⟩:=h' (e / 2) (half_pos he)
  refine ⟨max N M,fun i hi=>?_⟩
  have h1:=hN i (by omega);have h2:=hM i (by omega)
  constructor <;> grind
theorem Ceq.neg {f g : Nat → Rat} (h : Ceq f g) : Ceq (fun n=>-f n) fun n=>-g n:=fun e he=>by
  obtain ⟨N,hN⟩:=h e he
  exact ⟨N,fun i hi=>by have:=hN i hi;constructor <;> grind⟩
theorem Ceq.mul {f g f' g' : Nat → Rat} (cg : Cau g) (cf' : Cau f') (h : Ceq f f') (h' : Ceq g g') : Ceq (fun n=>f n * g n) fun n=>f' n * g' n:=fun e he=>by
  obtain ⟨B,hB,hb⟩:=cf'.bound;obtain ⟨C,hC,hc⟩:=cg.bound
  obtain ⟨N,hN⟩:=h _ (rdiv_pos (half_pos he) hC)
  obtain ⟨M,hM⟩:=h' _ (rdiv_pos (half_pos he) hB)
  refine ⟨max N M,fun i hi=>?_⟩
  have a:=hN i (by omega);have b:=hM i (by omega)
  have p:=small_mul (a:=f i - f' i) (b:=g i) hC (hc i) ⟨by grind,a.1⟩
  have q:=small_mul (a:=g i - g' i) (b:=f' i) hB (hb i) ⟨by grind,b.1⟩
  constructor <;> grind
theorem Cnn.ceq {f g : Nat → Rat} (h : Cnn f) (h' : Ceq f g) : Cnn g:=fun e he=>by
  obtain ⟨N,hN⟩:=h (e / 2) (half_pos he);obtain ⟨M,hM⟩:=h' (e / 2) (half_pos he)
  refine ⟨max N M,fun i hi=>?_⟩
  have h1:=hN i (by omega);have h2:=hM i (by omega)
  grind
theorem Cnn.add {f g : Nat → Rat} (h : Cnn f) (h' : Cnn g) : Cnn fun n=>f n + g n:=fun e he=>by
  obtain ⟨N,hN⟩:=h (e / 2) (half_pos he);obtain ⟨M,hM⟩:=h' (e / 2) (half_pos he)
  refine ⟨max N M,fun i hi=>?_⟩
  have h1:=hN i (by omega);have h2:=hM i (by omega)
  grind
theorem Cnn.mul {f g : Nat → Rat} (cf : Cau f) (cg : Cau g) (h : Cnn f) (h' : Cnn g) : Cnn fun n=>f n * g n:=fun e he=>by
  obtain ⟨B,hB,hb⟩:=cf.bound;obtain ⟨C,hC,hc⟩:=cg.bound
  obtain ⟨N,hN⟩:=h _ (rdiv_pos (half_pos he) hC)
  obtain ⟨M,hM⟩:=h' _ (rdiv_pos (half_pos he) hB)
  refine ⟨max N M,fun i hi=>?_⟩
  have a:=hN i (by omega);have b:=hM i (by omega)
  rcases Rat.le_total (a:=0) (b:=(f i)) with ha | ha <;> rcases Rat.le_total (a:=0) (b:=(g i)) with hb' | hb'
  · have:=Rat.mul_nonneg ha hb';grind
  · have:=(small_mul (e:=e / 2) (a:=g i) (b:=f i) hB (hb i) ⟨by grind,by have:=rdiv_pos (half_pos he) hB;grind⟩).1;grind
  · have:=(small_mul (e:=e / 2) (a:=f i) (b:=g i) hC (hc i) ⟨by grind,by have:=rdiv_pos (half_pos he) hC;grind⟩).1;grind
  · have : 0 ≤ -f i * -g i:=Rat.mul_nonneg (by grind) (by grind)
    grind
theorem Cau.away {f : Nat → Rat} (h : Cau f) (h0 : ¬ Cnn f) : ∃ e : Rat,0 < e ∧ ∃ N,∀ i,N ≤ i → f i < -e:=by
  unfold Cnn at h0
  have h1 : ∃ e : Rat,0 < e ∧ ∀ N,∃ i,N ≤ i ∧ f i ≤ -e:=by
    refine Classical.byContradiction fun hn=>h0 fun e he=>Classical.byContradiction fun hN=>hn ⟨e,he,fun N=>Classical.byContradiction fun hi=>hN ⟨N,fun i hNi=>?_⟩⟩
    exact Rat.not_le.1 fun hle=>hi ⟨i,hNi,hle⟩
  obtain ⟨e,he,hi⟩:=h1
  obtain ⟨N,hN⟩:=h (e / 2) (half_pos he)
  obtain ⟨k,hk,hfk⟩:=hi N
  exact ⟨e / 2,half_pos he,N,fun i hi=>by have:=hN i k hi hk;grind⟩
theorem Cnn.total {f : Nat → Rat} (h : Cau f) : Cnn f ∨ Cnn fun n=>-f n:=by
  by_cases h0 : Cnn f
  · exact .inl h0
  · obtain ⟨e,he,N,hN⟩:=h.away h0
    exact .inr fun d hd=>⟨N,fun i hi=>by have:=hN i hi;grind⟩
theorem Cnn.anti {f : Nat → Rat} (h : Cnn f) (h' : Cnn fun n=>-f n) : Ceq f fun _=>0:=fun e he=>by
  obtain ⟨N,hN⟩:=h e he;obtain ⟨M,hM⟩:=h' e he
  refine ⟨max N M,fun i hi=>?_⟩
  have h1:=hN i (by omega);have h2:=hM i (by omega)
  constructor <;> grind
theorem Cau.inv {f : Nat → Rat} (h : Cau f) {e : Rat} (he : 0 < e) {N : Nat} (hN : ∀ i,N ≤ i → e < f i ∨ f i < -e) : Cau fun n=>(f n)⁻¹:=fun d hd=>by
  obtain ⟨M,hM⟩:=h (d * (e * e)) (rmul_pos hd (rmul_pos he he))
  refine ⟨max N M,fun i j hi hj=>?_⟩
  have a:=hN i (by omega);have b:=hN j (by omega);have c:=hM i j (by omega) (by omega);have c':=hM j i (by omega) (by omega)
  have hi0 : f i ≠ 0:=by rintro hz;rw [hz] at a;grind
  have hj0 : f j ≠ 0:=by rintro hz;rw [hz] at b;grind
  have hsq : ∀ x : Rat,e < x ∨ x < -e → ∀ y : Rat,e < y ∨ y < -e → e * e ≤ x * y ∨ x * y ≤ -(e * e):=fun x hx y hy=>by
    rcases hx with hx | hx <;> rcases hy with hy | hy
    · exact .inl (rmul_le (by grind) (by grind) (by grind) (by grind))
    · have:=rmul_le (a:=e) (b:=x) (c:=e) (d:=-y) (by grind) (by grind) (by grind) (by grind);exact .inr (by grind)
    · have:=rmul_le (a:=e) (b:=-x) (c:=e) (d:=y) (by grind) (by grind) (by grind) (by grind);exact .inr (by grind)
    · have:=rmul_le (a:=e) (b:=-x) (c:=e) (d:=-y) (by grind) (by grind) (by grind) (by grind);exact .inl (by grind)
  have hp:=hsq _ a _ b
  have heq : (f i)⁻¹ - (f j)⁻¹ = (f j - f i) / (f i * f j):=by grind
  rw [heq]
  have hne : f i * f j ≠ 0:=by grind
  replace c : -(f j - f i) < d * (e * e):=by grind
  have hee:=rmul_pos he he
  generalize f i * f j = m at *
  generalize f j - f i = t at *
  generalize e * e = E at *
  have hde : d * E ≤ d * m ∨ d * E ≤ -(d * m):=by
    rcases hp with hp | hp
    · have:=Rat.mul_nonneg (a:=d) (b:=m - E) (by grind) (by grind);exact .inl (by grind)
    · have:=Rat.mul_nonneg (a:=d) (b:=-m - E) (by grind) (by grind);exact .inr (by grind)
  rcases hp with hp | hp
  · have hm : 0 < m:=by grind
    have hd' : d * E ≤ d * m:=by have:=Rat.mul_nonneg (a:=d) (b:=m - E) (by grind) (by grind);grind
    refine Rat.not_le.1 fun hle=>?_
    have e2 : t / m * m = t:=rmul_div hm
    have:=Rat.mul_nonneg (a:=t / m - d) (b:=m) (by grind) (by grind)
    generalize t / m = q at *
    grind
  · have hm : 0 < -m:=by grind
    have hd' : d * E ≤ d * -m:=by have:=Rat.mul_nonneg (a:=d) (b:=-m - E) (by grind) (by grind);grind
    refine Rat.not_le.1 fun hle=>?_
    have e2 : t / m * m = t:=by grind
    have:=Rat.mul_nonneg (a:=t / m - d) (b:=-m) (by grind) (by grind)
    generalize t / m = q at *
    grind
def CS : Type:={ f : Nat → Rat // Cau f }
instance csSetoid : Setoid CS:=⟨fun f g=>Ceq f.1 g.1,fun f=>Ceq.refl f.1,fun h=>h.symm,fun h k=>h.trans k⟩
def RR : Type:=Quotient csSetoid
def RR.mk (f : Nat → Rat) (h : Cau f) : RR:=Quotient.mk csSetoid ⟨f,h⟩
theorem RR.rep (x : RR) : ∃ f hf,x = RR.mk f hf:=Quotient.ind (motive:=fun x=>∃ f hf,x = RR.mk f hf) (fun a=>⟨a.1,a.2,rfl⟩) x
theorem RR.ind {p : RR → Prop} (h : ∀ f hf,p (RR.mk f hf)) (x : RR) : p x:=Quotient.ind (fun a=>h a.1 a.2) x
theorem RR.ext {f g : Nat → Rat} {hf : Cau f} {hg : Cau g} (h : ∀ n,f n = g n) : RR.mk f hf = RR.mk g hg:=by
  have : f = g:=funext h
  subst this;rfl
theorem RR.sound {f g : Nat → Rat} {hf : Cau f} {hg : Cau g} (h : Ceq f g) : RR.mk f hf = RR.mk g hg:=Quotient.sound h
theorem RR.exact {f g : Nat → Rat} {hf : Cau f} {hg : Cau g} (h : RR.mk f hf = RR.mk g hg) : Ceq f g:=Quotient.exact h
def RR.of (q : Rat) : RR:=RR.mk (fun _=>q) (Cau.const q)
def RR.add (x y : RR) : RR:=Quotient.lift₂ (fun f g : CS=>Quotient.mk csSetoid ⟨fun n=>f.1 n + g.1 n,f.2.add g.2⟩) (fun _ _ _ _ h k=>Quotient.sound (Ceq.add h k)) x y
def RR.neg (x : RR) : RR:=Quotient.lift (fun f : CS=>Quotient.mk csSetoid ⟨fun n=>-f.1 n,f.2.neg⟩) (fun _ _ h=>Quotient.sound (Ceq.neg h)) x
def RR.mul (x y : RR) : RR:=Quotient.lift₂ (fun f g : CS=>Quotient.mk csSetoid ⟨fun n=>f.1 n * g.1 n,f.2.mul g.2⟩) (fun _ g f' _ h k=>Quotient.sound (Ceq.mul g.2 f'.2 h k)) x y
instance : Add RR:=⟨RR.add⟩
instance : Neg RR:=⟨RR.neg⟩
instance : Mul RR:=⟨RR.mul⟩
instance : Sub RR:=⟨fun x y=>x + -y⟩
instance (n : Nat) : OfNat RR n:=⟨RR.of (n : Rat)⟩
def RR.nn (x : RR) : Prop:=Quotient.lift (fun f : CS=>Cnn f.1) (fun _ _ h=>propext ⟨fun k=>k.ceq h,fun k=>k.ceq h.symm⟩) x
instance : LE RR:=⟨fun x y=>RR.nn (y - x)⟩
instance : LT RR:=⟨fun x y=>¬ y ≤ x⟩
theorem RR.add_comm (x y : RR) : x + y = y + x:=by
  obtain ⟨f,hf,rfl⟩:=RR.rep x;obtain ⟨g,hg,rfl⟩:=RR.rep y
  exact RR.ext fun n=>by grind
theorem RR.add_assoc (x y z : RR) : x + y + z = x + (y + z):=by
  obtain ⟨f,hf,rfl⟩:=RR.rep x;obtain ⟨g,hg,rfl⟩:=RR.rep y;obtain ⟨k,hk,rfl⟩:=RR.rep z
  exact RR.ext fun n=>by grind
theorem RR.mul_comm (x y : RR) : x * y = y * x:=by
  obtain ⟨f,hf,rfl⟩:=RR.rep x;obtain ⟨g,hg,rfl⟩:=RR.rep y
  exact RR.ext fun n=>by grind
theorem RR.mul_assoc (x y z : RR) : x * y * z = x * (y * z):=by
  obtain ⟨f,hf,rfl⟩:=RR.rep x;obtain ⟨g,hg,rfl⟩:=RR.rep y;obtain ⟨k,hk,rfl⟩:=RR.rep z
  exact RR.ext fun n=>by grind
theorem RR.mul_add (x y z : RR) : x * (y + z) = x * y + x * z:=by
  obtain ⟨f,hf,rfl⟩:=RR.rep x;obtain ⟨g,hg,rfl⟩:=RR.rep y;obtain ⟨k,hk,rfl⟩:=RR.rep z
  exact RR.ext fun n=>by grind
theorem RR.add_mul (x y z : RR) : (x + y) * z = x * z + y * z:=by
  obtain ⟨f,hf,rfl⟩:=RR.rep x;obtain ⟨g,hg,rfl⟩:=RR.rep y;obtain ⟨k,hk,rfl⟩:=RR.rep z
  exact RR.ext fun n=>by grind
theorem RR.add_zero (x : RR) : x + 0 = x:=by
  obtain ⟨f,hf,rfl⟩:=RR.rep x
  exact RR.ext fun n=>by grind
theorem RR.zero_add (x : RR) : 0 + x = x:=by
  obtain ⟨f,hf,rfl⟩:=RR.rep x
  exact RR.ext fun n=>by grind
theorem RR.mul_one (x : RR) : x * 1 = x:=by
  obtain ⟨f,hf,rfl⟩:=RR.rep x
  exact RR.ext fun n=>by grind
theorem RR.one_mul (x : RR) : 1 * x = x:=by
  obtain ⟨f,hf,rfl⟩:=RR.rep x
  exact RR.ext fun n=>by grind
theorem RR.mul_zero (x : RR) : x * 0 = 0:=by
  obtain ⟨f,hf,rfl⟩:=RR.rep x
  exact RR.ext fun n=>by grind
theorem RR.zero_mul (x : RR) : 0 * x = 0:=by
  obtain ⟨f,hf,rfl⟩:=RR.rep x
  exact RR.ext fun n=>by grind
theorem RR.sub_self (x : RR) : x - x = 0:=by
  obtain ⟨f,hf,rfl⟩:=RR.rep x
  exact RR.ext fun n=>by grind
theorem RR.sub_zero (x : RR) : x - 0 = x:=by
  obtain ⟨f,hf,rfl⟩:=RR.rep x
  exact RR.ext fun n=>by grind
theorem RR.zero_sub (x : RR) : 0 - x = -x:=by
  obtain ⟨f,hf,rfl⟩:=RR.rep x
  exact RR.ext fun n=>by grind
theorem RR.neg_neg (x : RR) : - -x = x:=by
  obtain ⟨f,hf,rfl⟩:=RR.rep x
  exact RR.ext fun n=>by grind
theorem RR.neg_mul (x y : RR) : -x * y = -(x * y):=by
  obtain ⟨f,hf,rfl⟩:=RR.rep x;obtain ⟨g,hg,rfl⟩:=RR.rep y
  exact RR.ext fun n=>by grind
theorem RR.mul_neg (x y : RR) : x * -y = -(x * y):=by
  obtain ⟨f,hf,rfl⟩:=RR.rep x;obtain ⟨g,hg,rfl⟩:=RR.rep y
  exact RR.ext fun n=>by grind
theorem RR.neg_add (x y : RR) : -(x + y) = -x + -y:=by
  obtain ⟨f,hf,rfl⟩:=RR.rep x;obtain ⟨g,hg,rfl⟩:=RR.rep y
  exact RR.ext fun n=>by grind
theorem RR.sub_eq (x y : RR) : x - y = x + -y:=by
  obtain ⟨f,hf,rfl⟩:=RR.rep x;obtain ⟨g,hg,rfl⟩:=RR.rep y
  exact RR.ext fun n=>by grind
theorem RR.neg_sub (x y : RR) : -(x - y) = y - x:=by
  obtain ⟨f,hf,rfl⟩:=RR.rep x;obtain ⟨g,hg,rfl⟩:=RR.rep y
  exact RR.ext fun n=>by grind
theorem RR.sub_add (x y : RR) : x - y + y = x:=by
  obtain ⟨f,hf,rfl⟩:=RR.rep x;obtain ⟨g,hg,rfl⟩:=RR.rep y
  exact RR.ext fun n=>by grind
theorem RR.add_sub (x y : RR) : x + y - y = x:=by
  obtain ⟨f,hf,rfl⟩:=RR.rep x;obtain ⟨g,hg,rfl⟩:=RR.rep y
  exact RR.ext fun n=>by grind
theorem RR.sub_trans (x y z : RR) : (y - x) + (z - y) = z - x:=by
  obtain ⟨f,hf,rfl⟩:=RR.rep x;obtain ⟨g,hg,rfl⟩:=RR.rep y;obtain ⟨k,hk,rfl⟩:=RR.rep z
  exact RR.ext fun n=>by grind
theorem RR.neg_zero : -(0 : RR) = 0:=RR.ext fun n=>by grind
theorem RR.le_def {x y : RR} : x ≤ y ↔ RR.nn (y - x):=Iff.rfl
theorem RR.lt_def {x y : RR} : x < y ↔ ¬ y ≤ x:=Iff.rfl
theorem RR.nn_iff {x : RR} : RR.nn x ↔ 0 ≤ x:=by rw [RR.le_def,RR.sub_zero]
theorem RR.nn_add {x y : RR} : RR.nn x → RR.nn y → RR.nn (x + y):=by
  obtain ⟨f,hf,rfl⟩:=RR.rep x;obtain ⟨g,hg,rfl⟩:=RR.rep y;exact fun h k=>Cnn.add h k
theorem RR.nn_mul {x y : RR} : RR.nn x → RR.nn y → RR.nn (x * y):=by
  obtain ⟨f,hf,rfl⟩:=RR.rep x;obtain ⟨g,hg,rfl⟩:=RR.rep y;exact fun h k=>Cnn.mul hf hg h k
theorem RR.nn_total (x : RR) : RR.nn x ∨ RR.nn (-x):=by
  obtain ⟨f,hf,rfl⟩:=RR.rep x;exact Cnn.total hf
theorem RR.nn_anti {x : RR} : RR.nn x → RR.nn (-x) → x = 0:=by
  obtain ⟨f,hf,rfl⟩:=RR.rep x;exact fun h k=>RR.sound (Cnn.anti h k)
theorem RR.nn_of {q : Rat} : RR.nn (RR.of q) ↔ 0 ≤ q:=by
  constructor
  · intro h
    refine Rat.not_lt.1 fun hlt=>?_
    obtain ⟨N,hN⟩:=(show Cnn (fun _=>q) from h) (-q) (by grind)
    have:=hN N (Nat.le_refl _);grind
  · intro h
    show Cnn (fun _=>q)
    exact fun e he=>⟨0,fun i _=>by grind⟩
theorem RR.le_refl (x : RR) : x ≤ x:=by rw [RR.le_def,RR.sub_self];exact RR.nn_of.2 (by decide)
theorem RR.le_trans {x y z : RR} (h : x ≤ y) (k : y ≤ z) : x ≤ z:=by
  rw [RR.le_def,← RR.sub_trans x y z];exact RR.nn_add h k
theorem RR.le_antisymm {x y : RR} (h : x ≤ y) (k : y ≤ x) : x = y:=by
  have:=RR.nn_anti (x:=y - x) h (by rw [RR.neg_sub];exact k)
  rw [← RR.sub_add y x,this,RR.zero_add]
theorem RR.le_total (x y : RR) : x ≤ y ∨ y ≤ x:=by
  rcases RR.nn_total (y - x) with h | h
  · exact .inl h
  · rw [RR.neg_sub] at h;exact .inr h
theorem RR.not_le {x y : RR} : ¬ x ≤ y ↔ y < x:=Iff.rfl
theorem RR.not_lt {x y : RR} : ¬ x < y ↔ y ≤ x:=Classical.not_not
theorem RR.le_of_lt {x y : RR} (h : x < y) : x ≤ y:=(RR.le_total x y).elim id fun k=>absurd k h
theorem RR.lt_irrefl (x : RR) : ¬ x < x:=fun h=>h (RR.le_refl x)
theorem RR.lt_of_lt_of_le {x y z : RR} (h : x < y) (k : y ≤ z) : x < z:=fun j=>h (RR.le_trans k j)
theorem RR.lt_of_le_of_lt {x y z : RR} (h : x ≤ y) (k : y < z) : x < z:=fun j=>k (RR.le_trans j h)
theorem RR.lt_trans {x y z : RR} (h : x < y) (k : y < z) : x < z:=RR.lt_of_lt_of_le h (RR.le_of_lt k)
theorem RR.ne_of_lt {x y : RR} (h : x < y) : x ≠ y:=fun e=>RR.lt_irrefl y (e ▸ h)
theorem RR.lt_of_ne {x y : RR} (h : x ≤ y) (k : x ≠ y) : x < y:=fun j=>k (RR.le_antisymm h j)
theorem RR.lt_tri (x y : RR) : x < y ∨ x = y ∨ y < x:=by
  by_cases h : x = y
  · exact .inr (.inl h)
  · rcases RR.le_total x y with k | k
    · exact .inl (RR.lt_of_ne k h)
    · exact .inr (.inr (RR.lt_of_ne k (Ne.symm h)))
theorem RR.le_iff_sub {x y : RR} : x ≤ y ↔ 0 ≤ y - x:=by rw [RR.le_def,RR.nn_iff]
theorem RR.lt_iff_sub {x y : RR} : x < y ↔ 0 < y - x:=by
  rw [RR.lt_def,RR.lt_def,RR.le_def,RR.le_def,RR.zero_sub,RR.neg_sub]
theorem RR.add_nn {x y : RR} (h : 0 ≤ x) (k : 0 ≤ y) : 0 ≤ x + y:=RR.nn_iff.1 (RR.nn_add (RR.nn_iff.2 h) (RR.nn_iff.2 k))
theorem RR.mul_nn {x y : RR} (h : 0 ≤ x) (k : 0 ≤ y) : 0 ≤ x * y:=RR.nn_iff.1 (RR.nn_mul (RR.nn_iff.2 h) (RR.nn_iff.2 k))
theorem RR.add_pos {x y : RR} (h : 0 < x) (k : 0 ≤ y) : 0 < x + y:=by
  refine RR.lt_of_ne (RR.add_nn (RR.le_of_lt h) k) fun e=>?_
  refine h ?_
  have : y = -x:=by rw [← RR.zero_add (-x),e,RR.add_comm x y,← RR.sub_eq,RR.add_sub]
  rw [RR.le_def,RR.zero_sub,← this];exact RR.nn_iff.2 k
theorem RR.neg_nn {x : RR} : 0 ≤ -x ↔ x ≤ 0:=by rw [RR.le_def,RR.le_def,RR.sub_zero,RR.zero_sub]
theorem RR.neg_pos {x : RR} : 0 < -x ↔ x < 0:=by rw [RR.lt_def,RR.lt_def,← RR.neg_nn,RR.neg_neg]
theorem RR.of_add (p q : Rat) : RR.of (p + q) = RR.of p + RR.of q:=rfl
theorem RR.of_mul (p q : Rat) : RR.of (p * q) = RR.of p * RR.of q:=rfl
theorem RR.of_neg (p : Rat) : RR.of (-p) = -RR.of p:=rfl
theorem RR.of_sub (p q : Rat) : RR.of (p - q) = RR.of p - RR.of q:=by rw [Rat.sub_eq_add_neg];rfl
theorem RR.of_le {p q : Rat} : RR.of p ≤ RR.of q ↔ p ≤ q:=by
  rw [RR.le_def,← RR.of_sub,RR.nn_of];constructor <;> intro h <;> grind
theorem RR.of_lt {p q : Rat} : RR.of p < RR.of q ↔ p < q:=by rw [RR.lt_def,RR.of_le,Rat.not_le]
theorem RR.has_inv_neg {x : RR} : ¬ RR.nn x → ∃ y,x * y = 1:=by
  obtain ⟨f,hf,rfl⟩:=RR.rep x
  intro h
  obtain ⟨e,he,N,hN⟩:=Cau.away hf h
  refine ⟨RR.mk _ (hf.inv he fun i hi=>.inr (hN i hi)),RR.sound fun d hd=>⟨N,fun i hi=>?_⟩⟩
  have h1 : f i ≠ 0:=fun hz=>by have:=hN i hi;rw [hz] at this;grind
  have h2 : f i * (f i)⁻¹ = 1:=by grind
  have h3 : ((1 : Nat) : Rat) = 1:=rfl
  simp only [h2,h3]
  constructor <;> grind
theorem RR.has_inv {x : RR} (h : x ≠ 0) : ∃ y,x * y = 1:=by
  by_cases h1 : RR.nn x
  · by_cases h2 : RR.nn (-x)
    · exact absurd (RR.nn_anti h1 h2) h
    · obtain ⟨y,hy⟩:=RR.has_inv_neg h2
      exact ⟨-y,by rw [RR.mul_neg,← RR.neg_mul,hy]⟩
  · exact RR.has_inv_neg h1
theorem RR.mul_pos {x y : RR} (h : 0 < x) (k : 0 < y) : 0 < x * y:=by
  refine RR.lt_of_ne (RR.mul_nn (RR.le_of_lt h) (RR.le_of_lt k)) fun e=>?_
  obtain ⟨z,hz⟩:=RR.has_inv (Ne.symm (RR.ne_of_lt h))
  have : y = 0:=by rw [← RR.one_mul y,← hz,RR.mul_comm x z,RR.mul_assoc,← e,RR.mul_zero]
  exact RR.ne_of_lt k this.symm
theorem RR.mul_eq_zero {x y : RR} : x * y = 0 ↔ x = 0 ∨ y = 0:=by
  constructor
  · intro h
    by_cases hx : x = 0
    · exact .inl hx
    · obtain ⟨z,hz⟩:=RR.has_inv hx
      exact .inr (by rw [← RR.one_mul y,← hz,RR.mul_comm x z,RR.mul_assoc,h,RR.mul_zero])
  · rintro (h | h)
    · rw [h,RR.zero_mul]
    · rw [h,RR.mul_zero]
open Classical in
noncomputable def RR.inv (x : RR) : RR:=if h : x = 0 then 0 else (RR.has_inv h).choose
theorem rat_arch (q : Rat) : ∃ n : Nat,q < n:=by
  refine ⟨(q.floor + 1).toNat,?_⟩
  have h:=Rat.lt_floor_add_one q
  have h2 : q.floor + 1 ≤ (((q.floor + 1).toNat : Nat) : Int):=Int.self_le_toNat _
  have h3 : ((q.floor + 1 : Int) : Rat) ≤ ((((q.floor + 1).toNat : Nat) : Int) : Rat):=Rat.intCast_le_intCast.2 h2
  have h4 : ((((q.floor + 1).toNat : Nat) : Int) : Rat) = (((q.floor + 1).toNat : Nat) : Rat):=rfl
  grind
theorem nat_step {p : Nat → Prop} (h0 : p 0) {m : Nat} (hm : ¬ p m) : ∃ k,p k ∧ ¬ p (k + 1):=by
  induction m with
  | zero=>exact absurd h0 hm
  | succ m ih =>
    by_cases h : p m
    · exact ⟨m,h,hm⟩
    · exact ih h
theorem root_near (q : Rat) (hq : 0 ≤ q) (n : Nat) : ∃ y : Rat,0 ≤ y ∧ y * y ≤ q ∧ q < (y + 1 / ((n : Rat) + 1)) * (y + 1 / ((n : Rat) + 1)):=by
  have hn : (0 : Rat) < (n : Rat) + 1:=by have : (0 : Rat) ≤ (n : Rat):=Rat.natCast_nonneg;grind
  generalize (n : Rat) + 1 = m at *
  clear n
  obtain ⟨M,hM⟩:=rat_arch (q * (m * m) + 1)
  have hmm:=rmul_pos hn hn
  obtain ⟨k,h1,h2⟩:=nat_step (p:=fun k=>(k : Rat) * k ≤ q * (m * m)) (by show ((0 : Nat) : Rat) * ((0 : Nat) : Rat) ≤ _;have:=Rat.mul_nonneg hq (Rat.le_of_lt hmm);have e : ((0 : Nat) : Rat) = 0:=rfl;rw [e];grind) (m:=M) (by
    intro h
    have h : (M : Rat) * M ≤ q * (m * m):=h
    have hM1 : (1 : Rat) < M:=by have:=Rat.mul_nonneg hq (Rat.le_of_lt hmm);grind
    have:=rmul_le (a:=1) (b:=M) (c:=(M : Rat)) (d:=M) (by decide) (Rat.le_of_lt hM1) (by grind) (by grind)
    grind)
  have h2_1:=h2
  have h2 : ¬ ((k + 1 : Nat) : Rat) * ((k + 1 : Nat) : Rat) ≤ q * (m * m):=h2
  have ek : ((k + 1 : Nat) : Rat) = (k : Rat) + 1:=by push_cast;rfl
  rw [ek] at h2
  have hk : (0 : Rat) ≤ (k : Rat):=Rat.natCast_nonneg
  generalize (k : Rat) = K at *
  clear ek hM
  refine ⟨K / m,?_,?_,?_⟩
  · rw [Rat.div_def];exact Rat.mul_nonneg hk (Rat.le_of_lt (Rat.inv_pos.2 hn))
  · refine Rat.not_lt.1 fun h=>?_
    have:=rmul_pos (show 0 < K / m * (K / m) - q by grind) hmm
    have e1 : K / m * m = K:=rmul_div hn
    generalize K / m = r at *
    have e3 : r * m * (r * m) = K * K:=by rw [e1]
    clear h2_1 h2
    grind
  · refine Rat.not_le.1 fun h=>?_
    have:=Rat.mul_nonneg (show 0 ≤ q - (K / m + 1 / m) * (K / m + 1 / m) by grind) (Rat.le_of_lt hmm)
    have e1 : K / m * m = K:=rmul_div hn
    have e2 : 1 / m * m = 1:=rmul_div hn
    generalize K / m = r at *
    generalize 1 / m = s at *
    have e3 : (r + s) * m * ((r + s) * m) = (K + 1) * (K + 1):=by rw [show (r + s) * m = K + 1 by grind]
    clear h2_1 h1
    grind
theorem inv_small {e : Rat} (he : 0 < e) : ∃ N : Nat,∀ n : Nat,N ≤ n → 0 < 1 / ((n : Rat) + 1) ∧ 1 / ((n : Rat) + 1) < e:=by
  obtain ⟨N,hN⟩:=rat_arch (1 / e)
  refine ⟨N,fun n hn=>?_⟩
  have h0 : (N : Rat) ≤ (n : Rat):=Rat.natCast_le_natCast.2 hn
  have h1:=rdiv_pos (a:=1) (by decide) he
  have h2 : 1 / e * e = 1:=rmul_div he
  have h3 : (0 : Rat) < (n : Rat) + 1:=by grind
  refine ⟨rdiv_pos (by decide) h3,?_⟩
  have h4 : 1 / ((n : Rat) + 1) * ((n : Rat) + 1) = 1:=rmul_div h3
  have h5:=rdiv_pos (a:=1) (by decide) h3
  generalize 1 / ((n : Rat) + 1) = u at *
  generalize 1 / e = v at *
  refine Rat.not_le.1 fun hle=>?_
  have:=rmul_pos (show 0 < (n : Rat) + 1 - v by grind) he
  have:=Rat.mul_nonneg (show 0 ≤ u - e by grind) (Rat.le_of_lt h3)
  grind
theorem max0_cau {f : Nat → Rat} (h : Cau f) : Cau fun n=>if 0 ≤ f n then f n else 0:=fun e he=>by
  obtain ⟨N,hN⟩:=h e he
  refine ⟨N,fun i j hi hj=>?_⟩
  have:=hN i j hi hj
  simp only
  split <;> split <;> grind
theorem max0_eq {f : Nat → Rat} (h : Cnn f) : Ceq (fun n=>if 0 ≤ f n then f n else 0) f:=fun e he=>by
  obtain ⟨N,hN⟩:=h e he
  refine ⟨N,fun i hi=>?_⟩
  have:=hN i hi
  simp only
  split <;> constructor <;> grind
theorem RR.has_root {x : RR} : RR.nn x → ∃ y,RR.nn y ∧ y * y = x:=by
  obtain ⟨f,hf,rfl⟩:=RR.rep x
  intro h
  have h : Cnn f:=h
  have hg:=max0_cau hf
  have he:=max0_eq h
  have hg0 : ∀ n,0 ≤ (fun n=>if 0 ≤ f n then f n else 0) n:=fun n=>by simp only;split <;> grind
  generalize (fun n=>if 0 ≤ f n then f n else 0) = g at *
  have hy : ∀ n,∃ y : Rat,0 ≤ y ∧ y * y ≤ g n ∧ g n < (y + 1 / ((n : Rat) + 1)) * (y + 1 / ((n : Rat) + 1)):=fun n=>root_near (g n) (hg0 n) n
  obtain ⟨y,hy⟩ : ∃ y : Nat → Rat,∀ n,0 ≤ y n ∧ y n * y n ≤ g n ∧ g n < (y n + 1 / ((n : Rat) + 1)) * (y n + 1 / ((n : Rat) + 1)):=⟨fun n=>(hy n).choose,fun n=>(hy n).choose_spec⟩
  have hc : Cau y:=fun e he=>by
    have hE:=rmul_pos (half_pos he) (half_pos he)
    obtain ⟨N,hN⟩:=hg _ hE
    obtain ⟨M,hM⟩:=inv_small (half_pos he)
    refine ⟨max N M,fun i j hi hj=>?_⟩
    have a:=hN i j (by omega) (by omega)
    obtain ⟨u0,u1⟩:=hM j (by omega)
    obtain ⟨p1,p2,p3⟩:=hy i
    obtain ⟨q1,q2,q3⟩:=hy j
    generalize 1 / ((j : Rat) + 1) = u at *
    generalize y i = Y at *
    generalize y j = Z at *
    generalize g i = A at *
    generalize g j = B at *
    refine Rat.not_le.1 fun hle=>?_
    have r1:=rmul_le (a:=Z + e) (b:=Y) (c:=Z + e) (d:=Y) (by grind) (by grind) (by grind) (by grind)
    have r2:=rmul_le (a:=Z + u) (b:=Z + e / 2) (c:=Z + u) (d:=Z + e / 2) (by grind) (by grind) (by grind) (by grind)
    have r3:=Rat.mul_nonneg q1 (Rat.le_of_lt he)
    have r4:=rmul_pos he he
    grind
  obtain ⟨B,hB,hb⟩:=hc.bound
  refine ⟨RR.mk y hc,fun e he=>⟨0,fun i _=>by have:=(hy i).1;grind⟩,RR.sound (Ceq.trans ?_ he)⟩
  intro e he'
  have hd:=rdiv_pos he' (show 0 < 2 * B + 1 by grind)
  obtain ⟨M,hM⟩:=inv_small hd
  obtain ⟨M2,hM2⟩:=inv_small (show (0 : Rat) < 1 by decide)
  refine ⟨max M M2,fun i hi=>?_⟩
  obtain ⟨u0,u1⟩:=hM i (by omega)
  obtain ⟨_,u2⟩:=hM2 i (by omega)
  obtain ⟨q1,q2,q3⟩:=hy i
  have hbi:=hb i
  have e1 : e / (2 * B + 1) * (2 * B + 1) = e:=rmul_div (by grind)
  generalize e / (2 * B + 1) = d at *
  generalize 1 / ((i : Rat) + 1) = u at *
  simp only
  generalize y i = Y at *
  generalize g i = A at *
  have r1:=Rat.mul_nonneg (show 0 ≤ B - Y by grind) (Rat.le_of_lt u0)
  have r2:=Rat.mul_nonneg (show 0 ≤ 1 - u by grind) (Rat.le_of_lt u0)
  have r3:=rmul_pos (show 0 < d - u by grind) (show 0 < 2 * B + 1 by grind)
  constructor <;> grind
open Classical in
noncomputable def RR.sq (x : RR) : RR:=if h : 0 ≤ x then (RR.has_root (RR.nn_iff.2 h)).choose else 0
theorem RR.sq_nonneg (x : RR) : 0 ≤ x.sq:=by
  unfold RR.sq;split
  · rename_i h;exact RR.nn_iff.1 (RR.has_root (RR.nn_iff.2 h)).choose_spec.1
  · exact RR.le_refl 0
theorem RR.sq_sq {x : RR} (h : 0 ≤ x) : x.sq * x.sq = x:=by
  unfold RR.sq;rw [dif_pos h];exact (RR.has_root (RR.nn_iff.2 h)).choose_spec.2
end Go.Proofs.YtpbkcbnghhodiaaGreat
namespace Go.Proofs.YtpbkcbnghhodiaaGreat
open Classical in
noncomputable def sgR (x : RR) : Int:=if x < 0 then -1 else if 0 < x then 1 else 0
theorem RR.lt_asymm {x y : RR} (h : x < y) : ¬ y < x:=fun k=>RR.lt_irrefl x (RR.lt_trans h k)
theorem sgR_cases (x : RR) : (x < 0 ∧ sgR x = -1) ∨ (x = 0 ∧ sgR x = 0) ∨ (0 < x ∧ sgR x = 1):=by
  rcases RR.lt_tri x 0 with h | h | h
  · exact .inl ⟨h,by unfold sgR;rw [if_pos h]⟩
  · subst h;exact .inr (.inl ⟨rfl,by unfold sgR;rw [if_neg (RR.lt_irrefl 0),if_neg (RR.lt_irrefl 0)]⟩)
  · exact .inr (.inr ⟨h,by unfold sgR;rw [if_neg (RR.lt_asymm h),if_pos h]⟩)
theorem sgR_pos {x : RR} (h : 0 < x) : sgR x = 1:=by
  unfold sgR;rw [if_neg (RR.lt_asymm h),if_pos h]
theorem sgR_neg {x : RR} (h : x < 0) : sgR x = -1:=by unfold sgR;rw [if_pos h]
theorem sgR_zero : sgR 0 = 0:=by unfold sgR;rw [if_neg (RR.lt_irrefl 0),if_neg (RR.lt_irrefl 0)]
theorem sgR_negate (x : RR) : sgR (-x) = -sgR x:=by
  rcases sgR_cases x with ⟨h,e⟩ | ⟨h,e⟩ | ⟨h,e⟩
  · rw [e,sgR_pos (RR.neg_pos.2 h)];rfl
  · subst h;rw [RR.neg_zero,sgR_zero];rfl
  · rw [e,sgR_neg];rw [← RR.neg_pos,RR.neg_neg];exact h
theorem sgR_mul (x y : RR) : sgR (x * y) = sgR x * sgR y:=by
  have pp : ∀ {x y : RR},0 < x → 0 < y → sgR (x * y) = sgR x * sgR y:=fun h k=>by rw [sgR_pos h,sgR_pos k,sgR_pos (RR.mul_pos h k)];rfl
  have np : ∀ {x y : RR},x < 0 → 0 < y → sgR (x * y) = sgR x * sgR y:=fun {x y} h k=>by
    have:=pp (RR.neg_pos.2 h) k
    rw [RR.neg_mul,sgR_negate,sgR_negate] at this
    rw [Int.neg_mul] at this;omega
  rcases RR.lt_tri x 0 with h | h | h
  · rcases RR.lt_tri y 0 with k | k | k
    · have:=np h (RR.neg_pos.2 k)
      rw [RR.mul_neg,sgR_negate,sgR_negate,Int.mul_neg] at this;omega
    · subst k;rw [RR.mul_zero,sgR_zero,Int.mul_zero]
    · exact np h k
  · subst h;rw [RR.zero_mul,sgR_zero,Int.zero_mul]
  · rcases RR.lt_tri y 0 with k | k | k
    · rw [RR.mul_comm,Int.mul_comm];exact np k h
    · subst k;rw [RR.mul_zero,sgR_zero,Int.mul_zero]
    · exact pp h k
theorem sgR_of (q : Rat) : sgR (RR.of q) = q.num.sign:=by
  rcases sgn_cases q.num with ⟨h,e⟩ | ⟨h,e⟩ | ⟨h,e⟩
  all_goals first
    | (rw [e];exact sgR_pos (RR.of_lt (p:=0) |>.2 (rat_pos_iff.2 (by omega))))
    | (rw [e]; have : q = 0 := (@Rat.num_eq_zero q).1 (by omega)
       subst this;exact sgR_zero)
    | (rw [e]; refine sgR_neg (RR.of_lt (q := 0) |>.2 ?_)
       have h1:=@Rat.num_nonneg q
       rcases Classical.em (0 ≤ q) with h2 | h2
       · have:=h1.2 h2;omega
       · exact Rat.not_le.1 h2)
theorem sgR_cmp (p q : Rat) : sgR (RR.of p - RR.of q) = cmpQ p q:=by
  rw [← RR.of_sub]
  unfold cmpQ
  split
  · exact sgR_neg (RR.of_lt (q:=0) |>.2 (by grind))
  · split
    · exact sgR_pos (RR.of_lt (p:=0) |>.2 (by grind))
    · have : p - q = 0:=by grind
      rw [this];exact sgR_zero
theorem RR.sub_def (x y : RR) : x - y = x + -y:=rfl
theorem sgR_add {u v : RR} : sgR (u + v) = if sgR u = 0 ∨ sgR u = sgR v then sgR v else if sgR v = 0 then sgR u else sgR u * sgR (u * u - v * v):=by
  have hf : u * u - v * v = (u + v) * (u - v):=by
    obtain ⟨f,hf,rfl⟩:=RR.rep u;obtain ⟨g,hg,rfl⟩:=RR.rep v
    exact RR.ext fun n=>by grind
  have hm:=sgR_mul (u + v) (u - v)
  rw [← hf] at hm
  rcases sgR_cases u with ⟨h,e⟩ | ⟨h,e⟩ | ⟨h,e⟩
  · rcases sgR_cases v with ⟨k,e2⟩ | ⟨k,e2⟩ | ⟨k,e2⟩
    · rw [e,e2,if_pos (.inr rfl)]
      refine sgR_neg ?_
      have h1:=RR.add_pos (RR.neg_pos.2 h) (RR.le_of_lt (RR.neg_pos.2 k))
      rw [← RR.neg_add] at h1
      exact RR.neg_pos.1 h1
    · subst k;rw [RR.add_zero,e,sgR_zero,if_neg (by decide),if_pos rfl]
    · rw [e,e2,if_neg (by decide),if_neg (by decide)]
      have h1 : sgR (u - v) = -1:=by
        refine sgR_neg ?_
        have h1:=RR.add_pos (RR.neg_pos.2 h) (RR.le_of_lt k)
        rw [← RR.neg_pos,RR.neg_sub,RR.sub_def,RR.add_comm];exact h1
      rw [h1] at hm;omega
  · subst h;rw [RR.zero_add,sgR_zero,if_pos (.inl rfl)]
  · rcases sgR_cases v with ⟨k,e2⟩ | ⟨k,e2⟩ | ⟨k,e2⟩
    · rw [e,e2,if_neg (by decide),if_neg (by decide)]
      have h1 : sgR (u - v) = 1:=by
        refine sgR_pos ?_
        exact RR.add_pos h (RR.le_of_lt (RR.neg_pos.2 k))
      rw [h1] at hm;omega
    · subst k;rw [RR.add_zero,e,sgR_zero,if_neg (by decide),if_pos rfl]
    · rw [e,e2,if_pos (.inr rfl)];exact sgR_pos (RR.add_pos h (RR.le_of_lt k))
theorem sgR_sq {w t : RR} (hw : 0 ≤ w) (ht : 0 ≤ t) : sgR (w - t) = sgR (w * w - t * t):=by
  have hf : w * w - t * t = (w - t) * (w + t):=by
    obtain ⟨f,hf,rfl⟩:=RR.rep w;obtain ⟨g,hg,rfl⟩:=RR.rep t
    exact RR.ext fun n=>by grind
  rw [hf,sgR_mul]
  rcases sgR_cases (w + t) with ⟨h,e⟩ | ⟨h,e⟩ | ⟨h,e⟩
  · exact absurd (RR.add_nn hw ht) h
  · have hw0 : w = 0 := by
      refine RR.le_antisymm ?_ hw
      refine RR.not_lt.1 fun k=>?_
      have:=RR.add_pos k ht
      rw [h] at this;exact RR.lt_irrefl 0 this
    have ht0 : t = 0:=by rw [hw0,RR.zero_add] at h;exact h
    rw [hw0,ht0,RR.sub_self,sgR_zero,Int.zero_mul]
  · rw [e,Int.mul_one]
noncomputable def rt (q : Rat) : RR:=(RR.of q).sq
theorem rt_nn (q : Rat) : 0 ≤ rt q:=RR.sq_nonneg _
theorem rt_sq {q : Rat} (h : 0 ≤ q) : rt q * rt q = RR.of q:=RR.sq_sq (RR.of_le (p:=0) |>.2 h)
theorem sgR_rt {q : Rat} (h : 0 ≤ q) : sgR (rt q) = q.num.sign:=by
  have h1:=sgR_mul (rt q) (rt q)
  rw [rt_sq h,sgR_of] at h1
  rcases sgR_cases (rt q) with ⟨k,e⟩ | ⟨k,e⟩ | ⟨k,e⟩
  · exact absurd (rt_nn q) k
  · rw [e] at h1 ⊢;omega
  · rw [e] at h1 ⊢;omega
theorem mixed_sg {x y d : Rat} (hd : 0 ≤ d) : mixedF x y d = sgR (RR.of x + RR.of y * rt d):=by
  rw [sgR_add,sgR_mul,sgR_of,sgR_of,sgR_rt hd]
  have hq : RR.of x * RR.of x - RR.of y * rt d * (RR.of y * rt d) = RR.of (x * x) - RR.of (y * y * d):=by
    rw [RR.of_mul,RR.of_mul,RR.of_mul,← rt_sq hd]
    generalize RR.of x = a;generalize RR.of y = b;generalize rt d = c
    obtain ⟨f,hf,rfl⟩:=RR.rep a;obtain ⟨g,hg,rfl⟩:=RR.rep b;obtain ⟨k,hk,rfl⟩:=RR.rep c
    exact RR.ext fun n=>by grind
  rw [hq,sgR_cmp]
  rfl
theorem rt_eq {a b : RR} (ha : 0 ≤ a) (hb : 0 ≤ b) (h : a * a = b * b) : a = b:=by
  have h1:=sgR_sq ha hb
  rw [h,RR.sub_self,sgR_zero] at h1
  rcases sgR_cases (a - b) with ⟨k,e⟩ | ⟨k,e⟩ | ⟨k,e⟩
  · omega
  · rw [← RR.sub_add a b,k,RR.zero_add]
  · omega
theorem rt_mul {a b : Rat} (ha : 0 ≤ a) (hb : 0 ≤ b) : rt (a * b) = rt a * rt b:=by
  refine rt_eq (rt_nn _) (RR.mul_nn (rt_nn a) (rt_nn b)) ?_
  rw [rt_sq (Rat.mul_nonneg ha hb),RR.of_mul,← rt_sq ha,← rt_sq hb]
  generalize rt a = x;generalize rt b = y
  obtain ⟨f,hf,rfl⟩:=RR.rep x;obtain ⟨g,hg,rfl⟩:=RR.rep y
  exact RR.ext fun n=>by grind
theorem rt_le {a b : Rat} (ha : 0 ≤ a) (hab : a ≤ b) : rt a ≤ rt b:=by
  have h1:=sgR_sq (rt_nn a) (rt_nn b)
  rw [rt_sq ha,rt_sq (by grind),sgR_cmp] at h1
  rcases sgR_cases (rt a - rt b) with ⟨k,e⟩ | ⟨k,e⟩ | ⟨k,e⟩
  · refine RR.le_of_lt (RR.lt_iff_sub.2 ?_)
    rw [← RR.neg_sub];exact RR.neg_pos.2 k
  · rw [← RR.sub_add (rt a) (rt b),k,RR.zero_add];exact RR.le_refl _
  · rw [e] at h1;unfold cmpQ at h1
    split at h1
    · omega
    · split at h1
      · grind
      · omega
end Go.Proofs.YtpbkcbnghhodiaaGreat
namespace Go.Proofs.YtpbkcbnghhodiaaGreat
end Go.Proofs.YtpbkcbnghhodiaaGreat
namespace Go.Proofs.YtpbkcbnghhodiaaGreat
open Go.RowKit (Below)
def surdF (x y d : Rat) : Int :=
  if x.num.sign = 0 ∨ y.num.sign * d.num.sign = 0 ∨ x.num.sign = y.num.sign * d.num.sign then (if x.num.sign = 0 then y.num.sign * d.num.sign else x.num.sign) else x.num.sign * cmpQ (x * x) (y * y * d)
def surdsF (x y d z e : Rat) : Int :=
  if surdF x y d = 0 ∨ z.num.sign * e.num.sign = 0 ∨ surdF x y d = z.num.sign * e.num.sign then (if surdF x y d = 0 then z.num.sign * e.num.sign else surdF x y d) else surdF x y d * surdF (x * x + y * y * d - z * z * e) (2 * (x * y)) d
theorem surd_mixed {x y d : Rat} : surdF x y d = mixedF x y d:=by
  unfold surdF mixedF
  generalize x.num.sign = s;generalize y.num.sign * d.num.sign = t;generalize cmpQ (x * x) (y * y * d) = c
  by_cases h1 : s = 0
  · rw [if_pos (.inl h1),if_pos h1,if_pos (.inl h1)]
  · by_cases h2 : s = t
    · rw [if_pos (.inr (.inr h2)),if_neg h1,if_pos (.inr h2),h2]
    · by_cases h3 : t = 0
      · rw [if_pos (.inr (.inl h3)),if_neg h1,if_neg (by omega),if_pos h3]
      · rw [if_neg (by omega),if_neg (by omega),if_neg h3]
theorem surd_sg {x y d : Rat} (hd : 0 ≤ d) : surdF x y d = sgR (RR.of x + RR.of y * rt d):=by rw [surd_mixed];exact mixed_sg hd
theorem surds_sg {x y d z e : Rat} (hd : 0 ≤ d) (he : 0 ≤ e) : surdsF x y d z e = sgR (RR.of x + RR.of y * rt d + RR.of z * rt e):=by
  unfold surdsF
  rw [surd_sg hd,surd_sg hd,sgR_add (u:=RR.of x + RR.of y * rt d)]
  rw [sgR_mul (RR.of z),sgR_of z,sgR_rt he]
  have hq : (RR.of x + RR.of y * rt d) * (RR.of x + RR.of y * rt d) - RR.of z * rt e * (RR.of z * rt e) = RR.of (x * x + y * y * d - z * z * e) + RR.of (2 * (x * y)) * rt d:=by
    have e1 : RR.of (x * x + y * y * d - z * z * e) = RR.of x * RR.of x + RR.of y * RR.of y * (rt d * rt d) - RR.of z * RR.of z * (rt e * rt e):=by
      rw [rt_sq hd,rt_sq he,RR.of_sub,RR.of_add,RR.of_mul,RR.of_mul,RR.of_mul,RR.of_mul,RR.of_mul]
    rw [e1,RR.of_mul,RR.of_mul]
    generalize RR.of x = a;generalize RR.of y = b;generalize rt d = c;generalize RR.of z = f;generalize rt e = g
    obtain ⟨a,ha,rfl⟩:=RR.rep a;obtain ⟨b,hb,rfl⟩:=RR.rep b;obtain ⟨c,hc,rfl⟩:=RR.rep c;obtain ⟨f,hf,rfl⟩:=RR.rep f;obtain ⟨g,hg,rfl⟩:=RR.rep g
    exact RR.ext fun n=>by grind
  rw [hq]
  generalize sgR (RR.of x + RR.of y * rt d) = s;generalize z.num.sign * e.num.sign = t;generalize sgR (RR.of (x * x + y * y * d - z * z * e) + RR.of (2 * (x * y)) * rt d) = c
  by_cases h1 : s = 0
  · rw [if_pos (.inl h1),if_pos h1,if_pos (.inl h1)]
  · by_cases h2 : s = t
    · rw [if_pos (.inr (.inr h2)),if_neg h1,if_pos (.inr h2),h2]
    · by_cases h3 : t = 0
      · rw [if_pos (.inr (.inl h3)),if_neg h1,if_neg (by omega),if_pos h3]
      · rw [if_neg (by omega),if_neg (by omega),if_neg h3]
theorem surd_bd (x y d : Rat) : -1 ≤ surdF x y d ∧ surdF x y d ≤ 1:=by
  have h0:=sgn_cases x.num;have h1:=sgn_cases y.num;have h2:=sgn_cases d.num
  have h3:=cmpQ_cases (x * x) (y * y * d)
  unfold surdF
  rcases h0 with ⟨_,e0⟩ | ⟨_,e0⟩ | ⟨_,e0⟩ <;> rcases h1 with ⟨_,e1⟩ | ⟨_,e1⟩ | ⟨_,e1⟩ <;> rcases h2 with ⟨_,e2⟩ | ⟨_,e2⟩ | ⟨_,e2⟩ <;> rcases h3 with e3 | e3 | e3 <;> rw [e0,e1,e2,e3] <;> decide
theorem surd_mul_bd (x y d x' y' d' : Rat) : -9223372036854775808 ≤ surdF x y d * surdF x' y' d' ∧ surdF x y d * surdF x' y' d' ≤ 9223372036854775807:=by
  have h1:=surd_bd x y d;have h2:=surd_bd x' y' d'
  generalize surdF x y d = u at *;generalize surdF x' y' d' = v at *
  have : (u = -1 ∨ u = 0 ∨ u = 1):=by omega
  rcases this with h | h | h <;> subst h <;> omega
theorem val_default : (default : FR).val = 0:=by
  show qval false [] [] = 0;simp [qval]
end Go.Proofs.YtpbkcbnghhodiaaGreat
namespace Go.Proofs.YtpbkcbnghhodiaaGreat
open Go.RowKit (Below)
theorem posR_val {r : FR} (h : posR r = true) : 0 < r.val:=by unfold posR at h;simp at h;exact h.2
theorem vals_pos {l : List FR} (h : l.all posR = true) (j : Nat) : 0 ≤ (l.getD j default).val:=by
  rw [List.getD_eq_getElem?_getD]
  cases hj : l[j]? with
  | none=>show 0 ≤ (default : FR).val;rw [val_default];exact Rat.le_refl
  | some z=>have:=posR_val (List.all_eq_true.1 h z (List.mem_of_getElem? hj));show 0 ≤ z.val;grind
theorem lk_nn {l : List FR} (h : l.all posR = true) (j : Nat) : 0 ≤ lk l j:=vals_pos h _
end Go.Proofs.YtpbkcbnghhodiaaGreat
namespace Go.Proofs.YtpbkcbnghhodiaaGreat
open Go.RowKit (Below)
def befR (xs : List Rat) (p q : Nat) : Prop:=if p < q then xs.getD p default ≤ xs.getD q default else xs.getD p default < xs.getD q default
theorem cmpQ_lt0 {x y : Rat} : cmpQ x y < 0 ↔ x < y:=by unfold cmpQ;split <;> (try split) <;> simp_all
section
variable {xs : List Rat} {p q i j k m : Nat}
theorem bef_t (hpq : q < p) (h : cmpQ (xs.getD p default) (xs.getD q default) < 0) : befR xs p q:=by unfold befR;rw [if_neg (by omega)];exact cmpQ_lt0.1 h
theorem bef_f (hpq : q < p) (h : ¬ cmpQ (xs.getD p default) (xs.getD q default) < 0) : befR xs q p:=by unfold befR;rw [if_pos hpq];rw [cmpQ_lt0] at h;exact Rat.not_lt.1 h
theorem ins1 : insF xs 1 [i,j,k,m] = if cmpQ (xs.getD j default) (xs.getD i default) < 0 then [j,i,k,m] else [i,j,k,m]:=rfl
theorem ins2 : insF xs 2 [i,j,k,m] = if cmpQ (xs.getD k default) (xs.getD j default) < 0 then insF xs 1 [i,k,j,m] else [i,j,k,m]:=rfl
theorem ins3 : insF xs 3 [i,j,k,m] = if cmpQ (xs.getD m default) (xs.getD k default) < 0 then insF xs 2 [i,j,m,k] else [i,j,k,m]:=rfl
theorem ins1_spec (hj : i < j) : (insF xs 1 [i,j,k,m] = [j,i,k,m] ∧ befR xs j i) ∨ (insF xs 1 [i,j,k,m] = [i,j,k,m] ∧ befR xs i j):=by
  rw [ins1];split
  · exact .inl ⟨rfl,bef_t hj ‹_›⟩
  · exact .inr ⟨rfl,bef_f hj ‹_›⟩
theorem ins2_spec (hi : i < k) (hj : j < k) (h : befR xs i j) : (insF xs 2 [i,j,k,m] = [k,i,j,m] ∧ befR xs k i ∧ befR xs i j) ∨ (insF xs 2 [i,j,k,m] = [i,k,j,m] ∧ befR xs i k ∧ befR xs k j) ∨ (insF xs 2 [i,j,k,m] = [i,j,k,m] ∧ befR xs i j ∧ befR xs j k):=by
  rw [ins2];split
  · rename_i h1
    rcases ins1_spec (xs:=xs) (k:=j) (m:=m) hi with ⟨e,b⟩ | ⟨e,b⟩
    · exact .inl ⟨e,b,h⟩
    · exact .inr (.inl ⟨e,b,bef_t hj h1⟩)
  · exact .inr (.inr ⟨rfl,h,bef_f hj ‹_›⟩)
theorem ins3_spec (hi : i < m) (hj : j < m) (hk : k < m) (h1 : befR xs i j) (h2 : befR xs j k) : (insF xs 3 [i, j, k, m] = [m, i, j, k] ∧ befR xs m i ∧ befR xs i j ∧ befR xs j k) ∨ (insF xs 3 [i, j, k, m] = [i, m, j, k] ∧ befR xs i m ∧ befR xs m j ∧ befR xs j k) ∨
    (insF xs 3 [i,j,k,m] = [i,j,m,k] ∧ befR xs i j ∧ befR xs j m ∧ befR xs m k) ∨ (insF xs 3 [i,j,k,m] = [i,j,k,m] ∧ befR xs i j ∧ befR xs j k ∧ befR xs k m):=by
  rw [ins3];split
  · rename_i h
    rcases ins2_spec (xs:=xs) (m:=k) hi hj h1 with ⟨e,b1,b2⟩ | ⟨e,b1,b2⟩ | ⟨e,b1,b2⟩
    · exact .inl ⟨e,b1,b2,h2⟩
    · exact .inr (.inl ⟨e,b1,b2,h2⟩)
    · exact .inr (.inr (.inl ⟨e,b1,b2,bef_t hk h⟩))
  · exact .inr (.inr (.inr ⟨rfl,h1,h2,bef_f hk ‹_›⟩))
end
def ordO (xs : List Rat) (o : List Nat) : Prop:=∃ i j k m,o = [i,j,k,m] ∧ [i,j,k,m].Perm [0,1,2,3] ∧ befR xs i j ∧ befR xs j k ∧ befR xs k m
theorem order_ok (xs : List Rat) : ordO xs (orderF xs):=by
  have e : orderF xs = insF xs 3 (insF xs 2 (insF xs 1 [0,1,2,3])):=rfl
  rw [e]
  rcases ins1_spec (xs:=xs) (i:=0) (j:=1) (k:=2) (m:=3) (by decide) with ⟨e1,b1⟩ | ⟨e1,b1⟩ <;> rw [e1]
  · rcases ins2_spec (xs:=xs) (i:=1) (j:=0) (k:=2) (m:=3) (by decide) (by decide) b1 with ⟨e2,c1,c2⟩ | ⟨e2,c1,c2⟩ | ⟨e2,c1,c2⟩ <;> rw [e2]
    all_goals rcases ins3_spec (xs:=xs) (m:=3) (by decide) (by decide) (by decide) c1 c2 with ⟨e3,d1,d2,d3⟩ | ⟨e3,d1,d2,d3⟩ | ⟨e3,d1,d2,d3⟩ | ⟨e3,d1,d2,d3⟩ <;> exact ⟨_,_,_,_,e3,by decide,d1,d2,d3⟩
  · rcases ins2_spec (xs:=xs) (i:=0) (j:=1) (k:=2) (m:=3) (by decide) (by decide) b1 with ⟨e2,c1,c2⟩ | ⟨e2,c1,c2⟩ | ⟨e2,c1,c2⟩ <;> rw [e2]
    all_goals rcases ins3_spec (xs:=xs) (m:=3) (by decide) (by decide) (by decide) c1 c2 with ⟨e3,d1,d2,d3⟩ | ⟨e3,d1,d2,d3⟩ | ⟨e3,d1,d2,d3⟩ | ⟨e3,d1,d2,d3⟩ <;> exact ⟨_,_,_,_,e3,by decide,d1,d2,d3⟩
theorem bef_le {xs : List Rat} {p q : Nat} (h : befR xs p q) : xs.getD p default ≤ xs.getD q default:=by
  unfold befR at h;split at h
  · exact h
  · grind
theorem bef_trans {xs : List Rat} {p q r : Nat} (h : befR xs p q) (k : befR xs q r) : befR xs p r:=by
  unfold befR at *
  split at h <;> split at k <;> split <;> first | grind | omega
theorem bef_asymm {xs : List Rat} {p q : Nat} (h : befR xs p q) (k : befR xs q p) : False:=by
  unfold befR at *
  split at h <;> split at k <;> first | grind | omega
theorem ordO_uniq {xs : List Rat} {o o' : List Nat} (h : ordO xs o) (h' : ordO xs o') : o = o':=by
  obtain ⟨i,j,k,m,rfl,hp,b1,b2,b3⟩:=h
  obtain ⟨i',j',k',m',rfl,hp',c1,c2,c3⟩:=h'
  have hperm:=hp.trans hp'.symm
  have hs : ∀ {i j k m : Nat},befR xs i j → befR xs j k → befR xs k m → [i,j,k,m].Pairwise (befR xs):=fun b1 b2 b3=>by
    simp only [List.pairwise_cons,List.mem_cons,List.not_mem_nil,or_false,forall_eq_or_imp,forall_eq,List.Pairwise.nil,and_true]
    exact ⟨⟨b1,bef_trans b1 b2,bef_trans (bef_trans b1 b2) b3⟩,⟨b2,bef_trans b2 b3⟩,b3,by simp⟩
  exact hperm.eq_of_pairwise (le:=befR xs) (fun a b _ _ h k=>(bef_asymm h k).elim) (hs b1 b2 b3) (hs c1 c2 c3)
end Go.Proofs.YtpbkcbnghhodiaaGreat
namespace Go.Proofs.YtpbkcbnghhodiaaGreat
open Go.RowKit (Below)
theorem sgR_le {x y : RR} : sgR (x - y) ≤ 0 ↔ x ≤ y:=by
  rcases sgR_cases (x - y) with ⟨h,e⟩ | ⟨h,e⟩ | ⟨h,e⟩ <;> rw [e]
  · refine ⟨fun _=>RR.le_of_lt (RR.lt_iff_sub.2 ?_),fun _=>by decide⟩
    rw [← RR.neg_sub];exact RR.neg_pos.2 h
  · refine ⟨fun _=>?_,fun _=>by decide⟩
    rw [← RR.sub_add x y,h,RR.zero_add];exact RR.le_refl _
  · refine ⟨fun h2=>absurd h2 (by decide),fun h2=>?_⟩
    have h3 : y < x:=RR.lt_iff_sub.2 h
    exact absurd h2 h3
theorem sgR_ge {x y : RR} : sgR (x - y) ≥ 0 ↔ y ≤ x:=by
  rw [← RR.neg_sub,sgR_negate]
  have:=@sgR_le y x
  constructor
  · intro h;exact this.1 (by omega)
  · intro h;have:=this.2 h;omega
section
variable {a b c d s p q m : Rat}
variable (h0 : 0 ≤ s) (h1 : s ≤ p) (h2 : p ≤ q) (h3 : q ≤ m)
include h0 h1 h2 h3
end
end Go.Proofs.YtpbkcbnghhodiaaGreat
namespace Go.Proofs.YtpbkcbnghhodiaaGreat
theorem sgR_nn {x : RR} : sgR x ≥ 0 ↔ 0 ≤ x:=by
  have:=@sgR_ge x 0
  rwa [RR.sub_zero] at this
theorem closes_iff {p q r s : Rat} (hp : 0 ≤ p) (hq : 0 ≤ q) (hr : 0 ≤ r) (hs : 0 ≤ s) (hsp : s ≤ p) : closesF p q r s = true ↔ rt p ≤ rt q + rt r + rt s:=by
  have hqr:=Rat.mul_nonneg hq hr
  have hps:=Rat.mul_nonneg hp hs
  have hv : 0 ≤ rt p - rt s:=RR.le_iff_sub.1 (rt_le hs hsp)
  have e1 : sgR (rt q + rt r + rt s - rt p) = sgR (RR.of (q + r - (p + s)) + RR.of 2 * rt (q * r) + RR.of 2 * rt (p * s)):=by
    have e0 : rt q + rt r + rt s - rt p = (rt q + rt r) - (rt p - rt s):=by
      generalize rt p = a;generalize rt q = b;generalize rt r = c;generalize rt s = d
      obtain ⟨f,hf,rfl⟩:=RR.rep a;obtain ⟨g,hg,rfl⟩:=RR.rep b;obtain ⟨k,hk,rfl⟩:=RR.rep c;obtain ⟨l,hl,rfl⟩:=RR.rep d
      exact RR.ext fun n=>by grind
    rw [e0,sgR_sq (RR.add_nn (rt_nn q) (rt_nn r)) hv,rt_mul hq hr,rt_mul hp hs]
    congr 1
    rw [RR.of_sub,RR.of_add,RR.of_add,← rt_sq hp,← rt_sq hq,← rt_sq hr,← rt_sq hs]
    generalize rt p = a;generalize rt q = b;generalize rt r = c;generalize rt s = d
    obtain ⟨f,hf,rfl⟩:=RR.rep a;obtain ⟨g,hg,rfl⟩:=RR.rep b;obtain ⟨k,hk,rfl⟩:=RR.rep c;obtain ⟨l,hl,rfl⟩:=RR.rep d
    exact RR.ext fun n=>by grind
  rw [← sgR_ge,e1]
  have m1:=mixed_sg (x:=q + r - (p + s)) (y:=2) hqr
  have m2:=mixed_sg (x:=(q + r - (p + s)) * (q + r - (p + s)) + 4 * (q * r) - 4 * (p * s)) (y:=4 * (q + r - (p + s))) hqr
  have ht : 0 ≤ RR.of 2 * rt (p * s):=RR.mul_nn (RR.of_le (p:=0) |>.2 (by decide)) (rt_nn _)
  unfold closesF
  by_cases h : mixedF (q + r - (p + s)) 2 (q * r) ≥ 0
  · rw [if_pos h]
    rw [m1] at h
    exact ⟨fun _=>sgR_nn.2 (RR.add_nn (sgR_nn.1 h) ht),fun _=>rfl⟩
  · rw [if_neg h,decide_eq_true_iff,m2]
    rw [m1,sgR_nn] at h
    have hw : 0 ≤ -(RR.of (q + r - (p + s)) + RR.of 2 * rt (q * r)):=RR.neg_nn.2 (RR.le_of_lt h)
    have e2 : sgR (RR.of (q + r - (p + s)) + RR.of 2 * rt (q * r) + RR.of 2 * rt (p * s)) = -sgR (RR.of ((q + r - (p + s)) * (q + r - (p + s)) + 4 * (q * r) - 4 * (p * s)) + RR.of (4 * (q + r - (p + s))) * rt (q * r)):=by
      have e3 : RR.of (q + r - (p + s)) + RR.of 2 * rt (q * r) + RR.of 2 * rt (p * s) = -(-(RR.of (q + r - (p + s)) + RR.of 2 * rt (q * r)) - RR.of 2 * rt (p * s)):=by
        generalize RR.of 2 * rt (p * s) = a;generalize RR.of (q + r - (p + s)) + RR.of 2 * rt (q * r) = b
        obtain ⟨f,hf,rfl⟩:=RR.rep a;obtain ⟨g,hg,rfl⟩:=RR.rep b
        exact RR.ext fun n=>by grind
      rw [e3,sgR_negate,sgR_sq hw ht]
      congr 2
      generalize q + r - (p + s) = X
      rw [RR.of_sub,RR.of_add,RR.of_mul,RR.of_mul 4,RR.of_mul 4,RR.of_mul 4,← rt_sq hqr,← rt_sq hps]
      generalize RR.of X = a;generalize rt (q * r) = b;generalize rt (p * s) = c
      obtain ⟨f,hf,rfl⟩:=RR.rep a;obtain ⟨g,hg,rfl⟩:=RR.rep b;obtain ⟨k,hk,rfl⟩:=RR.rep c
      exact RR.ext fun n=>by grind
    rw [e2];omega
end Go.Proofs.YtpbkcbnghhodiaaGreat
namespace Go.Proofs.YtpbkcbnghhodiaaGreat
abbrev zFR : FR:=default
def dirC (h : Bool) (t : Rat) : Rat:=if h then -1 else (1 - t * t) / (1 + t * t)
def dirS (h : Bool) (t : Rat) : Rat:=if h then 0 else (t + t) / (1 + t * t)
theorem one_sq (t : Rat) : 1 + t * t ≠ 0:=by
  have : 0 ≤ t * t:=by
    rcases (Rat.le_total : 0 ≤ t ∨ t ≤ 0) with h | h
    · exact Rat.mul_nonneg h h
    · have:=Rat.mul_nonneg (show 0 ≤ -t by grind) (show 0 ≤ -t by grind);grind
  grind
theorem div_frac {x y : Rat} (hy : y ≠ 0) : Rat.divInt (x.num * ((y.den : Nat) : Int)) (((x.den : Nat) : Int) * y.num) = x / y:=by
  have h1 : x = Rat.divInt x.num x.den:=(Rat.num_divInt_den x).symm
  have h2 : y = Rat.divInt y.num y.den:=(Rat.num_divInt_den y).symm
  have hd:=x.den_nz;have he:=y.den_nz
  have hn : y.num ≠ 0:=fun e=>hy (Rat.num_eq_zero.1 e)
  rw [Rat.div_def]
  conv=>rhs;rw [h1,h2]
  rw [Rat.inv_divInt,Rat.divInt_mul_divInt]
def wayX (g a : Rat) (h : Bool) (t : Rat) : Rat:=g - a * dirC h t
def wayY (a : Rat) (h : Bool) (t : Rat) : Rat:=-(a * dirS h t)
def d2F (x y : Rat) : Rat:=x * x + y * y
def discF (b c d : Rat) : Rat:=4 * (b * c) - (b + c - d) * (b + c - d)
def dsc (g a b c : FR) (h : Bool) (t : Rat) : Rat:=discF b.val c.val (d2F (wayX g.val a.val h t) (wayY a.val h t))
def trnF (h : Bool) (t : FR) : Bool:=t.ok && (!h || decide (t.val.num.sign = 0))
def trnC (h : Bool) (t : FR) : Int:=if trnF h t then 0 else 2
def barC (l : List FR) : Int:=if l.all posR then 0 else 3
def sqF (g a b c : FR) : List FR:=[FR.of (g.val * g.val),FR.of (a.val * a.val),FR.of b.val,FR.of c.val]
def ciF (g a b c : FR) : Int:=if barC [g,a,b,c] = 0 then (if chkF (sqF g a b c) = 0 then (if g.val = a.val ∧ b.val = c.val then 15 else 0) else 16) else 3
def enR (g a b c : FR) : Int:=if ciF g a b c = 0 then (dsc g a b c false 0).num.sign else 0
def enL (g a b c : FR) : Int:=if ciF g a b c = 0 then (dsc g a b c true 0).num.sign else 0
def cirF (r l : Int) : List (Bool × Bool × Int) :=
  if r > 0 ∧ l > 0 then [(true,false,1),(true,false,-1)] else if r ≥ 0 ∧ l ≥ 0 then [(true,false,0)] else if r ≥ 0 ∨ l ≥ 0 then [(false,false,0)] else [(false,true,0),(false,false,0)]
def cirs (g a b c : FR) : List (Bool × Bool × Int):=if ciF g a b c = 0 then cirF (enR g a b c) (enL g a b c) else []
def quF (l : List FR) (j : Nat) : FR:=if barC l = 0 then FR.of (if j < 2 then (l.getD j default).val * (l.getD j default).val else (l.getD j default).val) else default
def btC (l : List FR) (h : Bool) (t : FR) : Int:=if barC l = 0 then trnC h t else 3
def exK (A B C D E : Bool) : Bool:=(A && B) || C || !(D == E)
def exC (g a b c : FR) (h : Bool) (t : FR) (m : Int) : Int :=
  if exK (decide (cmpQ (a.val * dirC h t.val) g.val = 0)) (decide ((a.val * dirS h t.val).num.sign = 0)) (decide ((dsc g a b c h t.val).num.sign < 0)) (decide ((dsc g a b c h t.val).num.sign = 0)) (decide (m = 0)) then 16 else 0
def ofC (g a b c : FR) (h : Bool) (t : FR) (m : Int) : Int:=if ciF g a b c = 0 then (if trnF h t then (if m < -1 ∨ m > 1 then 3 else exC g a b c h t m) else 2) else ciF g a b c
def ofK (l : List (Bool × Bool × Int)) (t : FR) (m : Int) : Bool:=((l.getD 0 default).1 && decide (m = -1)) || (!(l.getD 0 default).1 && decide (t.val.num.sign < 0))
def ofI (g a b c : FR) (h : Bool) (t : FR) (m : Int) : Int:=if ofC g a b c h t m = 0 then (if (cirs g a b c).length = 1 then 0 else if ofK (cirs g a b c) t m then 1 else 0) else 0
theorem trn_0 {h : Bool} {t : FR} (ht : trnF h t = true) : trnC h t = 0:=by unfold trnC;rw [if_pos ht]
theorem trn_zero {h : Bool} : trnF h zFR = true:=by cases h <;> rfl
theorem bar_3 {l : List FR} (h : l.all posR = false) : barC l = ((3 : Nat) : Int):=by unfold barC;rw [h];rfl
theorem bar_0 {l : List FR} (h : l.all posR = true) : barC l = 0:=by unfold barC;rw [h];rfl
theorem bar_pos {l : List FR} (h : barC l = 0) : l.all posR = true:=by
  unfold barC at h
  cases hp : l.all posR with
  | true=>rfl
  | false=>rw [hp] at h;exact absurd h (by decide)
theorem bar_two (l : List FR) : barC l = 0 ∨ barC l = 3:=by unfold barC;split <;> simp
theorem bt_0 {l : List FR} {h : Bool} {t : FR} (hb : barC l = 0) (ht : trnF h t = true) : btC l h t = 0:=by unfold btC;rw [if_pos hb,trn_0 ht]
theorem trn_two (h : Bool) (t : FR) : trnC h t = 0 ∨ trnC h t = 2:=by unfold trnC;split <;> simp
theorem qu_bad {l : List FR} {j : Nat} (hb : barC l ≠ 0) : default = quF l j:=by unfold quF;rw [if_neg hb]
theorem qu_sq {g a b c : FR} (hb : barC [g,a,b,c] = 0) : [quF [g,a,b,c] 0,quF [g,a,b,c] 1,quF [g,a,b,c] 2,quF [g,a,b,c] 3] = sqF g a b c:=by unfold quF sqF;simp only [if_pos hb];rfl
theorem ci_b {g a b c : FR} (hb : barC [g,a,b,c] ≠ 0) : barC [g,a,b,c] = ciF g a b c:=by unfold ciF;rw [if_neg hb];rcases bar_two [g,a,b,c] with e | e <;> omega
theorem ci_bar {g a b c : FR} (h : ciF g a b c = 0) : barC [g,a,b,c] = 0:=by
  unfold ciF at h;split at h
  · assumption
  · omega
theorem sq_pos {g a b c : FR} (hb : barC [g,a,b,c] = 0) : (sqF g a b c).all posR = true:=by
  have h:=bar_pos hb
  simp only [List.all_cons,List.all_nil,Bool.and_true,Bool.and_eq_true] at h
  have p : ∀ {r : FR},posR r = true → 0 < r.val:=fun {r} hr=>by unfold posR at hr;simp at hr;exact hr.2
  unfold sqF
  simp only [List.all_cons,List.all_nil,posR_of4,Bool.and_true,Bool.and_eq_true,decide_eq_true_eq]
  exact ⟨Rat.mul_pos (p h.1) (p h.1),Rat.mul_pos (p h.2.1) (p h.2.1),p h.2.2.1,p h.2.2.2⟩
theorem chk_two {l : List FR} (h : l.all posR = true) (k : chkF l ≠ 16) : chkF l = 0:=by
  unfold chkF at k ⊢;rw [h] at k ⊢
  simp only [if_true] at k ⊢
  split
  · rfl
  · rename_i e;rw [if_neg e] at k;exact absurd rfl k
theorem ci_16 {g a b c : FR} (hb : barC [g,a,b,c] = 0) (h : chkF (sqF g a b c) = 16) : chkF (sqF g a b c) = ciF g a b c:=by unfold ciF;rw [if_pos hb,if_neg (by omega),h]
theorem cmpQ_eq0 {x y : Rat} : cmpQ x y = 0 ↔ x = y:=by unfold cmpQ;split <;> (try split) <;> simp_all <;> grind
theorem ci_15 {g a b c : FR} (hb : barC [g,a,b,c] = 0) (h : chkF (sqF g a b c) = 0) (h1 : cmpQ g.val a.val = 0) (h2 : cmpQ b.val c.val = 0) : ciF g a b c = ((15 : Nat) : Int):=by
  unfold ciF;rw [if_pos hb,if_pos h,if_pos ⟨cmpQ_eq0.1 h1,cmpQ_eq0.1 h2⟩];rfl
theorem ci_0 {g a b c : FR} (hb : barC [g,a,b,c] = 0) (h : chkF (sqF g a b c) = 0) (h1 : ¬ (cmpQ g.val a.val = 0 ∧ cmpQ b.val c.val = 0)) : ciF g a b c = 0:=by
  unfold ciF;rw [if_pos hb,if_pos h,if_neg (fun e=>h1 ⟨cmpQ_eq0.2 e.1,cmpQ_eq0.2 e.2⟩)]
theorem enR_bad {g a b c : FR} (h : ciF g a b c ≠ 0) : 0 = enR g a b c:=by unfold enR;rw [if_neg h]
theorem enL_bad {g a b c : FR} (h : ciF g a b c ≠ 0) : 0 = enL g a b c:=by unfold enL;rw [if_neg h]
theorem enR_ok {g a b c : FR} (h : ciF g a b c = 0) : (dsc g a b c false zFR.val).num.sign = enR g a b c:=by unfold enR;rw [if_pos h];rfl
theorem enL_ok {g a b c : FR} (h : ciF g a b c = 0) : (dsc g a b c true zFR.val).num.sign = enL g a b c:=by unfold enL;rw [if_pos h];rfl
theorem cirs_bad {g a b c : FR} (h : ciF g a b c ≠ 0) : [] = cirs g a b c:=by unfold cirs;rw [if_neg h]
theorem cirs_ok {g a b c : FR} (h : ciF g a b c = 0) : cirs g a b c = cirF (enR g a b c) (enL g a b c):=by unfold cirs;rw [if_pos h]
theorem cir_len (r l : Int) : 0 < (cirF r l).length:=by
  unfold cirF
  split
  · decide
  · split
    · decide
    · split <;> decide
theorem cirs_pos {g a b c : FR} (h : ciF g a b c = 0) : 0 < (cirs g a b c).length:=by rw [cirs_ok h];exact cir_len _ _
theorem of_trn {h : Bool} {t : FR} (ht : ¬ trnC h t ≠ 0) : trnF h t = true:=by
  unfold trnC at ht;split at ht
  · assumption
  · omega
end Go.Proofs.YtpbkcbnghhodiaaGreat
