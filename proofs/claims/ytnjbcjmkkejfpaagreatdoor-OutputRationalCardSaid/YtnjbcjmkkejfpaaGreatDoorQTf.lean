import Derived.Test.YtnjbcjmkkejfpaaGreatDoorQTe
set_option linter.unusedVariables false
set_option linter.unusedSimpArgs false
set_option linter.unusedVariables false
set_option linter.unusedSimpArgs false
namespace Go.Proofs.YtnjbcjmkkejfpaaGreatDoor
open Go.RowKit (Below)
def RetW {α : Type} (w : World) (G : Gh) (k : Option Nat) (e : TypeId) (T : α → MT) (xs : List α) : Ending → World → Prop:=fun en w' =>
  ∃ b c G',en = .returned (.slice (some ⟨b,0,none⟩) xs.length c) ∧ Nxt w G w' G' ∧ BX.ok ⟨b,e,some (c * k.getD 1),ROWS k (xs.map T)⟩ w w' G' ∧ xs.length ≤ c
class ConO {α : outParam Type} (P : Program) (f : Nat) (τs : List MT) (pre : outParam Prop) (k : outParam (Option Nat)) (e : outParam TypeId) (T : outParam (α → MT)) (xs : outParam (List α)) : Prop where
  h : ∀ {vs : List Value} {w : World} {G : Gh},Gok w G → Args vs τs G → pre → Calls P f vs.toArray w (RetW w G k e T xs)
section
variable {P : Program} {f : Nat} {τ1 τ2 τ3 : MT} {pre : Prop} {k : Option Nat} {e : TypeId} {α : Type} {T : α → MT} {xs : List α}
theorem ConO.o1 (h : ∀ {v1 : Value} {w : World} {G : Gh},Gok w G → τ1.t v1 G → pre → Calls P f #[v1] w (RetW w G k e T xs)) : ConO P f [τ1] pre k e T xs:=⟨fun {vs _ _} hok ha hp=>match vs,ha with | [_],ha=>h hok ha.1 hp⟩
theorem ConO.o2 (h : ∀ {v1 v2 : Value} {w : World} {G : Gh},Gok w G → τ1.t v1 G → τ2.t v2 G → pre → Calls P f #[v1,v2] w (RetW w G k e T xs)) : ConO P f [τ1,τ2] pre k e T xs:=⟨fun {vs _ _} hok ha hp=>match vs,ha with | [_,_],ha=>h hok ha.1 ha.2.1 hp⟩
theorem ConO.o3 (h : ∀ {v1 v2 v3 : Value} {w : World} {G : Gh},Gok w G → τ1.t v1 G → τ2.t v2 G → τ3.t v3 G → pre → Calls P f #[v1,v2,v3] w (RetW w G k e T xs)) : ConO P f [τ1,τ2,τ3] pre k e T xs:=⟨fun {vs _ _} hok ha hp=>match vs,ha with | [_,_,_],ha=>h hok ha.1 ha.2.1 ha.2.2.1 hp⟩
section
variable {w : World} {G : Gh} {v1 v2 v3 : Value}
theorem ConO.c1 (c : ConO P f [τ1] pre k e T xs) (hok : Gok w G) (h1 : τ1.t v1 G) (hp : pre) : Calls P f #[v1] w (RetW w G k e T xs):=c.h (vs:=[v1]) hok ⟨h1,trivial⟩ hp
theorem ConO.c2 (c : ConO P f [τ1,τ2] pre k e T xs) (hok : Gok w G) (h1 : τ1.t v1 G) (h2 : τ2.t v2 G) (hp : pre) : Calls P f #[v1,v2] w (RetW w G k e T xs):=c.h (vs:=[v1,v2]) hok ⟨h1,h2,trivial⟩ hp
theorem ConO.c3 (c : ConO P f [τ1,τ2,τ3] pre k e T xs) (hok : Gok w G) (h1 : τ1.t v1 G) (h2 : τ2.t v2 G) (h3 : τ3.t v3 G) (hp : pre) : Calls P f #[v1,v2,v3] w (RetW w G k e T xs):=c.h (vs:=[v1,v2,v3]) hok ⟨h1,h2,h3,trivial⟩ hp
end
end
section
variable {P : Program} {L L' : List (Nat × MT)} {B B' Bh : List BX} {ys : List Operand} {u v : List Nat} {t ty e : TypeId} {τ τ' τb : MT} {τs : List MT} {n c b i j f d : Nat} {k : Option Nat} {α : Type} {T : α → MT} {xs : List α}
variable {W0 : World} {G0 : Gh} {N : Nat} {a : Act} {w : World} {G : Gh} {Q : Exit → Act → World → Prop} {pre : Prop} {rest ops : List Oper} {arr : Array Oper} {pos : String} {aft : Array Edge} {ats : Array TypeId} {fn : Func} {σs : List MT}
theorem W.co [h : OpdL L ys τs u] [cn : ConO P f τs pre k e T xs] [kb : Cb P f] (hp : pre) (K : ∀ b c a w G, xs.length ≤ c → St W0 G0 N ((d, OSL b xs.length c) :: L) (⟨b, e, some (c * k.getD 1), ROWS k (xs.map T)⟩ :: B) a w G → wpList P arr Q rest a w) (hdN : (decide (d < N)) = true := by rfl) (hf : fresh d L = true := by rfl) :
    St W0 G0 N L B a w G → wpList P arr Q (⟨some d,.call { callee:=.value (.func f),args:=ys.toArray,argTypes:=ats },ty,pos,aft,none⟩ :: rest) a w:=fun S =>
  wpList_plain rfl fun K' hK=>by
    have hr : (execOp a.eval ⟨some d,.call { callee:=.value (.func f),args:=ys.toArray,argTypes:=ats },ty,pos,aft,none⟩).run P w = .ok (.enter f (ys.toArray.map a.eval)) w:=by
      simp [execOp,resolve,Act.eval,Deferred.ofValue,invoke,run_callFunc kb.h]
    unfold Oper.wp
    rw [hr]
    have hc : Calls P f (ys.toArray.map a.eval) w (RetW w G k e T xs):=by rw [List.map_toArray];exact cn.h S.ok (h.h (S.env u)) hp
    refine Calls.mono hc fun en w' he=>?_
    obtain ⟨b,c,G',rfl,hn,hb,hle⟩:=he
    have S1 : St W0 G0 N L (⟨b,e,some (c * k.getD 1),ROWS k (xs.map T)⟩ :: B) a w' G':={
      nxt:=S.nxt.trans hn
      size:=S.size
      dfr:=S.dfr
      ty:=fun i p h=>p.2.mono hn.le (S.ty i p h)
      bx:=fun i y h=>by
        cases i with
        | zero=>cases h;exact ⟨Nat.le_trans S.nxt.below.size hb.1,hb.2⟩
        | succ i=>exact (S.bx i y h).nxt hn
      nd:=fun i j y z hy hz hij=>by
        have h1:=hb.1
        cases i with
        | zero =>
          cases hy
          cases j with
          | zero=>exact absurd rfl hij
          | succ j=>have:=(S.bx j z hz).lt;show b ≠ z.b;simp only at h1;omega
        | succ i =>
          cases j with
          | zero=>cases hz;have:=(S.bx i y hy).lt;show y.b ≠ b;simp only at h1;omega
          | succ j=>exact S.nd i j y z hy hz (by omega) }
    exact hK _ _ (K b c _ _ G' hle (S1.put (of_decide_eq_true hdN) hf rfl (Nxt.refl S1.ok)))
theorem W.rto {xs' : List α} (t : Nat) [hl : Lk L t (OSL b n c)] [hb : Bx B b i e (some j) τb] [r : AsR τb k α T xs] (hr : fn.results = #[.tmp t]) (hp : xs = xs' ∧ n = xs.length ∧ j = c * k.getD 1 ∧ n ≤ c) : St W0 G0 N L B a w G → bodyPost P fn (RetW W0 G0 k e T xs') .ret a w:=fun S=>by
  obtain ⟨rfl,rfl,rfl,hle⟩:=hp
  obtain ⟨h1,h2,v,hv,hs,ht⟩:=S.bx i _ hb.m
  have hm : tm a t = .slice (some ⟨b,0,none⟩) xs.length c:=S.mem hl.m
  exact bodyPost_ret (v:=.slice (some ⟨b,0,none⟩) xs.length c) (by have:=results_tmp hr a.tmps P w;rw [this];exact congrArg (fun v=>Result.ok v w) hm) S.dfr ⟨b,c,G,rfl,S.nxt,⟨h1,h2,v,hv,hs,r.h ht⟩,hle⟩
theorem OWNS.ofb {b c : Nat} (h : xs.length ≤ c) : OWNS k e (.slice (some ⟨b,0,none⟩) xs.length c) [⟨b,e,some (c * k.getD 1),ROWS k (xs.map T)⟩] (xs.map T):=.inr ⟨b,c,by rw [List.length_map],rfl,by rw [List.length_map];exact h⟩
theorem W.casth {x : BX} {q : Prop} (f : ∀ {v : Value} {G : Gh},x.τ.t v G → τ'.t v G) (K : St W0 G0 N L (⟨x.b,x.ty,x.k,τ'⟩ :: B) a w G → q) : St W0 G0 N L (x :: B) a w G → q:=fun S=>K (S.castBox 0 rfl fun v hv _=>f hv)
theorem ROWS.upq {n m : Nat} {l : List Rat} {v : Value} {G : Gh} (h : (ROWS k (l.map (QC n))).t v G) (e : n ≤ m) : (ROWS k (l.map (QC m))).t v G:=by
  obtain ⟨us,r,e1,h1,h2⟩:=h
  refine ⟨us,r,e1,by rw [h1];simp,fun i σ u hi hu=>?_⟩
  rw [List.getElem?_map] at hi
  cases hx : l[i]? with
  | none=>rw [hx] at hi;cases hi
  | some x =>
    rw [hx] at hi;cases hi
    obtain ⟨h3,h4⟩:=h2 i (QC n x) u (by rw [List.getElem?_map,hx];rfl) hu
    exact ⟨h3,QC.up h4 e⟩
class Rot (B : List BX) (x : BX) (B' : outParam (List BX)) : Prop where
  h : B' = B ++ [x]
instance Rot.nil {x : BX} : Rot [] x [x]:=⟨rfl⟩
instance Rot.cons {x y : BX} {B B' : List BX} [h : Rot B x B'] : Rot (y :: B) x (y :: B'):=⟨by rw [h.h];rfl⟩
instance (priority:=1200) RunS.own {all ops : List Oper} {i : Nat} {als : List (Nat × Nat × Option Nat)} {sd : List Nat} {op : Op} [OwnAt d] : RunS P B all i L als sd (⟨some d,op,ty,pos,aft,none⟩ :: ops) True [] (⟨some d,op,ty,pos,aft,none⟩ :: ops):=⟨.stop⟩
abbrev QP (p : Nat × Rat) : MT:=QC p.1 p.2
instance AsT.qp {n : Nat} {z : Rat} : AsT (QC n z) QP (n,z):=⟨fun h=>h⟩
instance (priority:=900) Cv.qpr {l : List Rat} {ys : List (Nat × Rat)} {n : Nat} {k : Option Nat} : Cv (ROWS k (l.map (QC n))) (ROWS k (ys.map QP)) (ys = l.map fun x=>(n,x)):=⟨fun e v G h=>by subst e;rw [List.map_map];exact h⟩
instance FitL.qp {ps : List (Nat × Rat)} {n : Nat} : FitL (ps.map QP) (QC n) (ps.map Prod.snd) (∀ p ∈ ps,p.1 ≤ n):=⟨fun e=>⟨by simp,fun i τ hi=>by
  rw [List.getElem?_map] at hi
  cases hz : ps[i]? with
  | none=>rw [hz] at hi;cases hi
  | some z=>rw [hz] at hi;cases hi;exact ⟨z.2,by simp [hz],fun hv=>QC.up hv (e z (List.mem_of_getElem? hz))⟩⟩⟩
instance {n : Nat} : AsT (FX 1 default) (QC (n + 1)) 0:=⟨fun h=>(Cv.fq (n:=1) (k:=n + 1)).h ⟨by omega,rfl,rfl⟩ h⟩
instance {n : Nat} : Rdn (FX n default) QC n 0:=⟨fun h=>(Cv.fq (n:=n) (k:=n)).h ⟨Nat.le_refl _,rfl,rfl⟩ h⟩
instance {n m : Nat} : Fit (FX n default) (QC m) 0 (n ≤ m):=⟨fun e _ _ h=>(Cv.fq (n:=n) (k:=m)).h ⟨e,rfl,rfl⟩ h⟩
def SBq (n : Nat) (l : List Nat) : MT:=⟨fun v G=>1 ≤ n ∧ (SB n l).t v G,fun hle h=>⟨h.1,(SB n l).mono hle h.2⟩⟩
instance {n : Nat} {l : List Nat} : ShK (SBq n l) none:=⟨fun h=>SL.shp h.2.2⟩
instance AsW.sbq {n : Nat} {l : List Nat} : AsW (SBq n l) l:=⟨fun h=>h.2.2⟩
theorem QC.one {n : Nat} {z : Rat} {v : Value} {G : Gh} (h : (QC n z).t v G) : 1 ≤ n:=one_le_of_lt z.den_nz h.1.2
instance (priority:=800) Prt.qc0 {n : Nat} {z : Rat} : Prt (QC n z) 0 none (BT (FR.of z).s):=⟨fun h' hs=>(Prt.fx0 (nn:=n) (r:=FR.of z)).h (QC.toFX h' (QC.one h')) hs⟩
instance (priority:=800) Prt.qc1 {n : Nat} {z : Rat} : Prt (QC n z) 1 none (SBq n (FR.of z).p):=⟨fun h' hs=>by obtain ⟨u,h1,h2,h3⟩:=(Prt.fx1 (nn:=n) (r:=FR.of z)).h (QC.toFX h' (QC.one h')) hs;exact ⟨u,h1,⟨QC.one h',h2⟩,h3⟩⟩
instance (priority:=800) Prt.qc2 {n : Nat} {z : Rat} : Prt (QC n z) 2 none (SBq n (FR.of z).q):=⟨fun h' hs=>by obtain ⟨u,h1,h2,h3⟩:=(Prt.fx2 (nn:=n) (r:=FR.of z)).h (QC.toFX h' (QC.one h')) hs;exact ⟨u,h1,⟨QC.one h',h2⟩,h3⟩⟩
instance Op1.apq {x y : Operand} {n : Nat} {l : List Nat} [e : ElW P t] [h : Opd L x EMP u] [k : Opd L y (SBq n l) v] : Op1 P L B (.call { callee:=.builtin .append,args:=#[x,y],argTypes:=#[t,t] }) True (SBq n l) (u ++ v):=⟨fun {W0 w a G o} ho hok e' _ _=>by
  obtain ⟨e0,h1,h2⟩:=e.h
  have hy:=k.h e'.r
  exact fun Q K hK=>OpR.appNew hok ho h1 h2 (h.h e'.l) hy.2.2 Q K fun v w' G' hv hn=>hK v w' G' ⟨hy.1,hy.2.1,hv⟩ hn⟩
instance AsT.qcp {n : Nat} {z : Rat} : AsT (PTS [(none,BT (FR.of z).s),(none,SBq n (FR.of z).p),(none,SBq n (FR.of z).q)]) (QC n) z:=⟨fun {v G} h=>by
  obtain ⟨us,e0,hl,hE⟩:=h
  have h' : (PTS [(none,BT (FR.of z).s),(none,SBq n (FR.of z).p),(none,SBq n (FR.of z).q)]).t v G:=⟨us,e0,hl,hE⟩
  have hcd : ∃ c d,(SBq n (FR.of z).p).t c G ∧ (SBq n (FR.of z).q).t d G:=by
    match us,hl,hE with
    | [a,c,d],_,hE=>exact ⟨c,d,(hE 1 _ c rfl rfl).2,(hE 2 _ d rfl rfl).2⟩
  obtain ⟨c,d,⟨h1,h2,_⟩,_,h5,_⟩:=hcd
  refine ⟨⟨by have : Go.Proofs.YtnjbcjmkkejfpaaGreatDoor.val (words z.num.natAbs) < 2 ^ n := h2
              rwa [val_words] at this,?_⟩,qr_pts h' (fun v hv=>hv.2.2) fun v hv=>hv.2.2⟩
  have hq : Go.Proofs.YtnjbcjmkkejfpaaGreatDoor.val (dwords z) < 2 ^ n:=h5
  unfold dwords at hq
  split at hq
  · rename_i e0
    have : z.den = 1:=by
      have h0 : z = 0:=by first | exact e0 | exact Rat.num_eq_zero.1 e0
      rw [h0];rfl
    rw [this];exact Nat.lt_of_lt_of_le (show (1 : Nat) < 2 ^ 1 by decide) (Nat.pow_le_pow_right (by decide) h1)
  · rwa [val_words] at hq⟩
class AllG (es : List SE) : Prop where
  h : ∀ e ∈ es,∃ d τ u,e = SE.g d τ u
instance AllG.nil : AllG []:=⟨fun e h=>by simp at h⟩
instance AllG.cons {d : Nat} {τ : MT} {u : List Nat} {es : List SE} [h : AllG es] : AllG (.g d τ u :: es):=⟨fun e he=>by
  rcases List.mem_cons.1 he with e1 | e1
  · exact ⟨d,τ,u,e1⟩
  · exact h.h e e1⟩
theorem AllG.sto {nB v : Nat} {all : List SE} : ∀ {es : List SE} {o : Nat},(∀ e ∈ es,∃ d τ u,e = SE.g d τ u) → storeOf (es.map (poS nB all)) o v = none
  | [],_,_=>rfl
  | x :: es,o,h=>by
    obtain ⟨d,τ,u,rfl⟩:=h x (.head _)
    exact AllG.sto (es:=es) fun e he=>h e (.tail _ he)
theorem BZ3_id {PL : List PO3} (h : ∀ v,storeOf PL 0 v = none) : ∀ {u : Nat} {B : List BX},BZ3 PL u B = B
  | _,[]=>rfl
  | u,x :: r=>by
    unfold BZ3 finT
    rw [h u,BZ3_id h]
theorem BF3_id {PL : List PO3} {β : Nat → Nat} (h : ∀ v,storeOf PL 0 v = none) (hg : ∀ (m : Nat) (po : PO3),PL[m]? = some po → ∃ τ,po.τ = .g τ) : ∀ {m : Nat},BF3 PL β B m = B
  | 0=>BZ3_id h
  | m + 1=>by
    unfold BF3
    cases hm : PL[m]? with
    | none=>exact BF3_id h hg
    | some po =>
      obtain ⟨τ,e⟩:=hg m po hm
      simp only [e];exact BF3_id h hg
theorem W.fing {β : Nat → Nat} {ss : List SE} {q : Prop} [ag : AllG ss] [hl : FinL β 0 ss L L'] (K : St W0 G0 N L' B a w G → q) : St W0 G0 N (fL β 0 ss L) (BF3 (plS B.length ss) β B ss.length) a w G → q:=fun S=>K (by
  have e:=BF3_id (PL:=plS B.length ss) (β:=β) (B:=B) (fun v=>AllG.sto ag.h) (fun m po hm=>by
    unfold plS at hm
    rw [List.getElem?_map] at hm
    cases he : ss[m]? with
    | none=>rw [he] at hm;cases hm
    | some e =>
      rw [he] at hm;cases hm
      obtain ⟨d,τ,u,rfl⟩:=ag.h e (List.mem_of_getElem? he)
      exact ⟨τ,rfl⟩) (m:=ss.length)
  rw [e] at S
  rw [hl.h]
  exact S)
end
end Go.Proofs.YtnjbcjmkkejfpaaGreatDoor
namespace Go.Proofs.YtnjbcjmkkejfpaaGreatDoor
def El : Nat → Type
  | 0=>Rat
  | k + 1=>El k × El k
namespace El
def zero : (k : Nat) → El k
  | 0=>(0 : Rat)
  | k + 1=>(zero k,zero k)
def add : {k : Nat} → El k → El k → El k
  | 0,x,y=>Rat.add x y
  | _ + 1,x,y=>(add x.1 y.1,add x.2 y.2)
def neg : {k : Nat} → El k → El k
  | 0,x=>Rat.neg x
  | _ + 1,x=>(neg x.1,neg x.2)
def Rts : Type:=(k : Nat) → El k
def mul (d : Rts) : {k : Nat} → El k → El k → El k
  | 0,x,y=>Rat.mul x y
  | k + 1,x,y=>(add (mul d x.1 y.1) (mul d (mul d x.2 y.2) (d k)),add (mul d x.1 y.2) (mul d x.2 y.1))
variable {d : Rts} {k : Nat}
theorem add_comm : ∀ {k : Nat} (x y : El k),add x y = add y x
  | 0,x,y=>Rat.add_comm x y
  | _ + 1,x,y=>Prod.ext (add_comm x.1 y.1) (add_comm x.2 y.2)
theorem add_assoc : ∀ {k : Nat} (x y z : El k),add (add x y) z = add x (add y z)
  | 0,x,y,z=>Rat.add_assoc x y z
  | _ + 1,x,y,z=>Prod.ext (add_assoc x.1 y.1 z.1) (add_assoc x.2 y.2 z.2)
theorem add_zero : ∀ {k : Nat} (x : El k),add x (zero k) = x
  | 0,x=>Rat.add_zero x
  | _ + 1,x=>Prod.ext (add_zero x.1) (add_zero x.2)
theorem zero_add (x : El k) : add (zero k) x = x:=by rw [add_comm,add_zero]
theorem add_neg : ∀ {k : Nat} (x : El k),add x (neg x) = zero k
  | 0,x=>Rat.add_neg_cancel x
  | _ + 1,x=>Prod.ext (add_neg x.1) (add_neg x.2)
theorem add_left_comm (x y z : El k) : add x (add y z) = add y (add x z):=by rw [← add_assoc,add_comm x y,add_assoc]
theorem swap4 (x y z u : El k) : add (add x y) (add z u) = add (add x z) (add y u):=by rw [add_assoc,add_assoc,add_left_comm y z u]
theorem zero_mul : ∀ {k : Nat} (x : El k),mul d (zero k) x = zero k
  | 0,x=>Rat.zero_mul x
  | k + 1,x=>by
    have h1:=zero_mul x.1;have h2:=zero_mul x.2
    have h3 : mul d (zero k) (d k) = zero k:=zero_mul (d k)
    exact Prod.ext (by show add (mul d (zero k) x.1) (mul d (mul d (zero k) x.2) (d k)) = zero k;rw [h1,h2,h3,add_zero]) (by show add (mul d (zero k) x.2) (mul d (zero k) x.1) = zero k;rw [h1,h2,add_zero])
theorem mul_comm : ∀ {k : Nat} (x y : El k),mul d x y = mul d y x
  | 0,x,y=>Rat.mul_comm x y
  | k + 1,x,y=>Prod.ext (by show add _ _ = add _ _;rw [mul_comm x.1 y.1,mul_comm x.2 y.2]) (by show add _ _ = add _ _;rw [mul_comm x.1 y.2,mul_comm x.2 y.1,add_comm])
theorem mul_zero (x : El k) : mul d x (zero k) = zero k:=by rw [mul_comm,zero_mul]
theorem mul_add : ∀ {k : Nat} (x y z : El k),mul d x (add y z) = add (mul d x y) (mul d x z)
  | 0,x,y,z=>Rat.mul_add x y z
  | k + 1,x,y,z=>by
    refine Prod.ext ?_ ?_
    · show add (mul d x.1 (add y.1 z.1)) (mul d (mul d x.2 (add y.2 z.2)) (d k)) = add (add _ _) (add _ _)
      rw [mul_add,mul_add,mul_comm (add _ _) (d k),mul_add,mul_comm (d k),mul_comm (d k)]
      exact swap4 _ _ _ _
    · show add (mul d x.1 (add y.2 z.2)) (mul d x.2 (add y.1 z.1)) = add (add _ _) (add _ _)
      rw [mul_add,mul_add]
      exact swap4 _ _ _ _
theorem add_mul (x y z : El k) : mul d (add x y) z = add (mul d x z) (mul d y z):=by rw [mul_comm,mul_add,mul_comm z,mul_comm z]
theorem mul_assoc : ∀ {k : Nat} (x y z : El k),mul d (mul d x y) z = mul d x (mul d y z)
  | 0,x,y,z=>Rat.mul_assoc x y z
  | k + 1,x,y,z=>by
    have as_:=fun x y z : El k=>mul_assoc x y z
    have e : ∀ x y : El (k + 1),mul d x y = (add (mul d x.1 y.1) (mul d (mul d x.2 y.2) (d k)),add (mul d x.1 y.2) (mul d x.2 y.1)):=fun _ _=>rfl
    have cm:=fun x y : El k=>mul_comm (d:=d) x y
    let i1 : Std.Associative (mul d (k:=k)):=⟨as_⟩
    let i2 : Std.Commutative (mul d (k:=k)):=⟨cm⟩
    let i3 : Std.Associative (add (k:=k)):=⟨add_assoc⟩
    let i4 : Std.Commutative (add (k:=k)):=⟨add_comm⟩
    rw [e (mul d x y) z,e x (mul d y z),e x y,e y z]
    simp only [mul_add,add_mul]
    refine Prod.ext ?_ ?_ <;> simp only <;> ac_rfl
theorem neg_add : ∀ {k : Nat} (x y : El k),neg (add x y) = add (neg x) (neg y)
  | 0,x,y=>Rat.neg_add
  | _ + 1,x,y=>Prod.ext (neg_add x.1 y.1) (neg_add x.2 y.2)
theorem neg_neg : ∀ {k : Nat} (x : El k),neg (neg x) = x
  | 0,x=>Rat.neg_neg x
  | _ + 1,x=>Prod.ext (neg_neg x.1) (neg_neg x.2)
theorem neg_zero : ∀ {k : Nat},neg (zero k) = zero k
  | 0=>Rat.neg_zero
  | _ + 1=>Prod.ext neg_zero neg_zero
theorem add_cancel {x y z : El k} (h : add x y = add x z) : y = z:=by
  have:=congrArg (add (neg x)) h
  rwa [← add_assoc,← add_assoc,add_comm (neg x),add_neg,zero_add,zero_add] at this
theorem mul_neg (x y : El k) : mul d x (neg y) = neg (mul d x y):=add_cancel (x:=mul d x y) (by rw [← mul_add,add_neg,mul_zero,add_neg])
theorem neg_mul (x y : El k) : mul d (neg x) y = neg (mul d x y):=by rw [mul_comm,mul_neg,mul_comm]
def ofQ (q : Rat) : (k : Nat) → El k
  | 0=>q
  | k + 1=>(ofQ q k,zero k)
theorem one_mul : ∀ {k : Nat} (x : El k),mul d (ofQ 1 k) x = x
  | 0,x=>Rat.one_mul x
  | k + 1,x=>by
    have h1:=one_mul x.1;have h2:=one_mul x.2
    exact Prod.ext (by show add (mul d (ofQ 1 k) x.1) (mul d (mul d (zero k) x.2) (d k)) = x.1;rw [h1,zero_mul,zero_mul,add_zero]) (by show add (mul d (ofQ 1 k) x.2) (mul d (zero k) x.1) = x.2;rw [h2,zero_mul,add_zero])
def norm (d : Rts) (x : El (k + 1)) : El k:=add (mul d x.1 x.1) (neg (mul d (mul d x.2 x.2) (d k)))
noncomputable def vl (d : Rts) : {k : Nat} → El k → RR
  | 0,x=>RR.of x
  | k + 1,x=>vl d x.1 + vl d x.2 * (vl d (d k)).sq
def ok (d : Rts) (k : Nat) : Prop:=∀ j,j < k → 0 ≤ vl d (d j)
theorem ok.mono {j : Nat} (h : ok d k) (hj : j ≤ k) : ok d j:=fun i hi=>h i (by omega)
theorem vl_zero : ∀ {k : Nat},vl d (zero k) = 0
  | 0=>rfl
  | k + 1=>by show vl d (zero k) + vl d (zero k) * _ = 0;rw [vl_zero,RR.zero_mul,RR.add_zero]
theorem vl_add : ∀ {k : Nat} (x y : El k),vl d (add x y) = vl d x + vl d y
  | 0,x,y=>RR.of_add x y
  | k + 1,x,y=>by
    show vl d (add x.1 y.1) + vl d (add x.2 y.2) * _ = (vl d x.1 + vl d x.2 * _) + (vl d y.1 + vl d y.2 * _)
    rw [vl_add,vl_add]
    generalize vl d x.1 = a;generalize vl d x.2 = b;generalize vl d y.1 = c;generalize vl d y.2 = e;generalize (vl d (d k)).sq = f
    obtain ⟨a,ha,rfl⟩:=RR.rep a;obtain ⟨b,hb,rfl⟩:=RR.rep b;obtain ⟨c,hc,rfl⟩:=RR.rep c;obtain ⟨e,he,rfl⟩:=RR.rep e;obtain ⟨f,hf,rfl⟩:=RR.rep f
    exact RR.ext fun n=>by grind
theorem vl_neg : ∀ {k : Nat} (x : El k),vl d (neg x) = -vl d x
  | 0,x=>RR.of_neg x
  | k + 1,x=>by
    show vl d (neg x.1) + vl d (neg x.2) * _ = -(vl d x.1 + vl d x.2 * _)
    rw [vl_neg,vl_neg,RR.neg_mul,RR.neg_add]
theorem vl_mul : ∀ {k : Nat} (_ : ok d k) (x y : El k),vl d (mul d x y) = vl d x * vl d y
  | 0,_,x,y=>RR.of_mul x y
  | k + 1,h,x,y=>by
    have hk:=h.mono (Nat.le_succ k)
    have hs : (vl d (d k)).sq * (vl d (d k)).sq = vl d (d k):=RR.sq_sq (h k (Nat.lt_succ_self k))
    show vl d (add (mul d x.1 y.1) (mul d (mul d x.2 y.2) (d k))) + vl d (add (mul d x.1 y.2) (mul d x.2 y.1)) * _ = (vl d x.1 + vl d x.2 * _) * (vl d y.1 + vl d y.2 * _)
    rw [vl_add,vl_add,vl_mul hk,vl_mul hk,vl_mul hk,vl_mul hk,vl_mul hk]
    generalize (vl d (d k)).sq = f at hs ⊢
    rw [← hs]
    generalize vl d x.1 = a;generalize vl d x.2 = b;generalize vl d y.1 = c;generalize vl d y.2 = e
    obtain ⟨a,ha,rfl⟩:=RR.rep a;obtain ⟨b,hb,rfl⟩:=RR.rep b;obtain ⟨c,hc,rfl⟩:=RR.rep c;obtain ⟨e,he,rfl⟩:=RR.rep e;obtain ⟨f,hf,rfl⟩:=RR.rep f
    exact RR.ext fun n=>by grind
theorem vl_norm (h : ok d (k + 1)) (x : El (k + 1)) : vl d (norm d x) = vl d x.1 * vl d x.1 - vl d x.2 * (vl d (d k)).sq * (vl d x.2 * (vl d (d k)).sq):=by
  have hk:=h.mono (Nat.le_succ k)
  have hs : (vl d (d k)).sq * (vl d (d k)).sq = vl d (d k):=RR.sq_sq (h k (Nat.lt_succ_self k))
  unfold norm
  rw [vl_add,vl_neg,vl_mul hk,vl_mul hk,vl_mul hk]
  generalize (vl d (d k)).sq = f at hs ⊢
  rw [← hs]
  generalize vl d x.1 = a;generalize vl d x.2 = b
  obtain ⟨a,ha,rfl⟩:=RR.rep a;obtain ⟨b,hb,rfl⟩:=RR.rep b;obtain ⟨f,hf,rfl⟩:=RR.rep f
  exact RR.ext fun n=>by grind
noncomputable def sg (d : Rts) (x : El k) : Int:=sgR (vl d x)
theorem sgR_root {x : RR} (h : 0 ≤ x) : sgR x.sq = sgR x:=by
  have h1:=RR.sq_sq h;have h2:=RR.sq_nonneg x
  have:=sgR_mul x.sq x.sq
  rw [h1] at this
  rcases sgR_cases x.sq with ⟨h3,h4⟩ | ⟨h3,h4⟩ | ⟨h3,h4⟩
  · exact absurd h3 (RR.not_lt.2 h2)
  · rw [this,h4];rfl
  · rw [this,h4];rfl
theorem sg_step (h : ok d (k + 1)) (x : El (k + 1)) : sg d x = if sg d (d k) = 0 then sg d x.1 else if sg d x.1 = sg d x.2 ∨ sg d x.2 = 0 then sg d x.1 else if sg d x.1 = 0 then sg d x.2 else sg d x.1 * sg d (norm d x):=by
  have e:=sgR_add (u:=vl d x.1) (v:=vl d x.2 * (vl d (d k)).sq)
  have hr:=sgR_root (h k (Nat.lt_succ_self k))
  have hm:=sgR_mul (vl d x.2) (vl d (d k)).sq
  rw [hr] at hm
  have hn:=vl_norm h x
  show sgR (vl d x.1 + vl d x.2 * (vl d (d k)).sq) = _
  rw [e,← hn,hm]
  unfold sg
  have hd : 0 ≤ sgR (vl d (d k)):=by
    rcases sgR_cases (vl d (d k)) with ⟨h3,h4⟩ | ⟨h3,h4⟩ | ⟨h3,h4⟩
    · exact absurd h3 (RR.not_lt.2 (h k (Nat.lt_succ_self k)))
    · omega
    · omega
  have h1:=sgR_cases (vl d (d k));have h2:=sgR_cases (vl d x.1);have h3:=sgR_cases (vl d x.2)
  generalize sgR (vl d (d k)) = r at *;generalize sgR (vl d x.1) = s at *;generalize sgR (vl d x.2) = t at *
  clear hm e hn hr h
  generalize sgR (vl d (norm d x)) = n
  rcases (show r = 0 ∨ r = 1 by omega) with rfl | rfl
  · rw [Int.mul_zero];grind
  · rw [Int.mul_one];grind
end El
end Go.Proofs.YtnjbcjmkkejfpaaGreatDoor
namespace Go.Proofs.YtnjbcjmkkejfpaaGreatDoor
abbrev cf (l : List Rat) (i : Nat) : Rat:=l.getD i 0
namespace El
def toF : (k : Nat) → (Nat → Rat) → El k
  | 0,f=>f 0
  | k + 1,f=>(toF k f,toF k fun i=>f (2 ^ k + i))
abbrev toE (k : Nat) (l : List Rat) : El k:=toF k (cf l)
theorem toF_ext : ∀ {k : Nat} {f g : Nat → Rat},(∀ i,i < 2 ^ k → f i = g i) → toF k f = toF k g
  | 0,f,g,h=>h 0 (by decide)
  | k + 1,f,g,h=>by
    have e : 2 ^ (k + 1) = 2 ^ k + 2 ^ k:=by rw [Nat.pow_succ];omega
    exact Prod.ext (toF_ext fun i hi=>h i (by omega)) (toF_ext fun i hi=>h (2 ^ k + i) (by omega))
theorem toF_zero : ∀ {k : Nat},toF k (fun _=>0) = zero k
  | 0=>rfl
  | k + 1=>Prod.ext toF_zero toF_zero
theorem toF_add : ∀ {k : Nat} (f g : Nat → Rat),toF k (fun i=>f i + g i) = add (toF k f) (toF k g)
  | 0,f,g=>rfl
  | k + 1,f,g=>Prod.ext (toF_add f g) (toF_add (fun i=>f (2 ^ k + i)) (fun i=>g (2 ^ k + i)))
theorem toF_neg : ∀ {k : Nat} (f : Nat → Rat),toF k (fun i=>-f i) = neg (toF k f)
  | 0,f=>rfl
  | k + 1,f=>Prod.ext (toF_neg f) (toF_neg (fun i=>f (2 ^ k + i)))
end El
def zeroF (a : List Rat) : Bool:=a.all fun x=>decide (x.num.sign = 0)
def wideF (a : List Rat) (n : Nat) : List Rat:=a.take n ++ (List.replicate n 0).drop a.length
def plusF (a b : List Rat) : List Rat:=(List.range (max a.length b.length)).map fun i=>cf a i + cf b i
def minusF (a : List Rat) : List Rat:=a.map fun x=>-x
def joinF (a b : List Rat) (n : Nat) : List Rat:=wideF a n ++ wideF b n
def lev : Nat → Nat
  | n=>Nat.log2 n
def stepF (rs : List (List Rat)) (r : List Rat → List Rat → List Rat) (a b : List Rat) : List Rat :=
  if zeroF a || zeroF b then [] else if a.length = 1 then [cf a 0 * cf b 0] else
  if b.length ≤ a.length / 2 then joinF (r (a.take (a.length / 2)) b) (r (a.drop (a.length / 2)) b) (a.length / 2)
  else joinF (plusF (r (a.take (a.length / 2)) (b.take (a.length / 2))) (r (r (a.drop (a.length / 2)) (b.drop (a.length / 2))) (rs.getD (lev a.length - 1) [])))
    (plusF (r (a.take (a.length / 2)) (b.drop (a.length / 2))) (r (a.drop (a.length / 2)) (b.take (a.length / 2)))) (a.length / 2)
def timesF (rs : List (List Rat)) : Nat → List Rat → List Rat → List Rat
  | 0,_,_=>[]
  | n + 1,a,b=>if a.length < b.length then stepF rs (timesF rs n) b a else stepF rs (timesF rs n) a b
theorem cf_wide {a : List Rat} {n i : Nat} (hi : i < n) (ha : a.length ≤ n) : cf (wideF a n) i = cf a i:=by
  unfold wideF cf
  rw [List.take_of_length_le ha,List.getD_eq_getElem?_getD,List.getD_eq_getElem?_getD]
  rcases Nat.lt_or_ge i a.length with h | h
  · rw [List.getElem?_append_left h]
  · rw [List.getElem?_append_right h,List.getElem?_eq_none h,List.getElem?_drop,List.getElem?_replicate]
    split <;> rfl
theorem wide_len {a : List Rat} {n : Nat} (ha : a.length ≤ n) : (wideF a n).length = n:=by unfold wideF;simp;omega
theorem cf_plus {a b : List Rat} {i : Nat} : cf (plusF a b) i = cf a i + cf b i:=by
  unfold plusF cf
  rw [List.getD_eq_getElem?_getD,List.getElem?_map]
  rcases Nat.lt_or_ge i (max a.length b.length) with h | h
  · rw [List.getElem?_range h];rfl
  · rw [List.getElem?_eq_none (by simpa using h),List.getD_eq_getElem?_getD,List.getD_eq_getElem?_getD,List.getElem?_eq_none (by omega),List.getElem?_eq_none (by omega)]
    exact (Rat.add_zero 0).symm
theorem cf_minus {a : List Rat} {i : Nat} : cf (minusF a) i = -cf a i:=by
  unfold minusF cf
  rw [List.getD_eq_getElem?_getD,List.getD_eq_getElem?_getD,List.getElem?_map]
  cases a[i]? <;> rfl
theorem cf_take {a : List Rat} {n i : Nat} (hi : i < n) : cf (a.take n) i = cf a i:=by
  unfold cf;rw [List.getD_eq_getElem?_getD,List.getD_eq_getElem?_getD,List.getElem?_take_of_lt hi]
theorem cf_drop {a : List Rat} {n i : Nat} : cf (a.drop n) i = cf a (n + i):=by
  unfold cf;rw [List.getD_eq_getElem?_getD,List.getD_eq_getElem?_getD,List.getElem?_drop]
theorem cf_join {a b : List Rat} {n i : Nat} (ha : a.length ≤ n) (hb : b.length ≤ n) (hi : i < n) : cf (joinF a b n) i = cf a i ∧ cf (joinF a b n) (n + i) = cf b i:=by
  have h1:=wide_len ha
  constructor
  · rw [← cf_wide hi ha]
    unfold joinF cf
    rw [List.getD_eq_getElem?_getD,List.getD_eq_getElem?_getD,List.getElem?_append_left (by omega)]
  · rw [← cf_wide hi hb]
    unfold joinF cf
    rw [List.getD_eq_getElem?_getD,List.getD_eq_getElem?_getD,List.getElem?_append_right (by omega),h1,Nat.add_sub_cancel_left]
theorem zero_iff {a : List Rat} : zeroF a = true ↔ ∀ i,cf a i = 0:=by
  unfold zeroF
  rw [List.all_eq_true]
  constructor
  · intro h i
    unfold cf
    rw [List.getD_eq_getElem?_getD]
    cases hx : a[i]? with
    | none=>rfl
    | some x =>
      have:=h x (List.mem_of_getElem? hx)
      rw [decide_eq_true_eq,Int.sign_eq_zero_iff_zero,Rat.num_eq_zero] at this
      exact this
  · intro h x hx
    obtain ⟨i,hi⟩:=List.mem_iff_getElem?.1 hx
    have:=h i
    unfold cf at this
    rw [List.getD_eq_getElem?_getD,hi] at this
    rw [decide_eq_true_eq,Int.sign_eq_zero_iff_zero,Rat.num_eq_zero]
    exact this
namespace El
theorem toE_low {k : Nat} {l : List Rat} (h : l.length ≤ 2 ^ k) : toE (k + 1) l = (toE k l,zero k):=by
  refine Prod.ext rfl ?_
  show toF k (fun i=>cf l (2 ^ k + i)) = zero k
  rw [← toF_zero]
  exact toF_ext fun i _=>by unfold cf;rw [List.getD_eq_getElem?_getD,List.getElem?_eq_none (by omega)];rfl
theorem toE_take (k : Nat) (l : List Rat) : toE k (l.take (2 ^ k)) = toE k l:=toF_ext fun i hi=>cf_take hi
theorem toE_halves (k : Nat) (l : List Rat) : toE (k + 1) l = (toE k (l.take (2 ^ k)),toE k (l.drop (2 ^ k))) :=
  Prod.ext (toE_take k l).symm (toF_ext fun i _=>cf_drop.symm)
theorem toE_plus (k : Nat) (a b : List Rat) : toE k (plusF a b) = add (toE k a) (toE k b):=by rw [← toF_add];exact toF_ext fun i _=>cf_plus
theorem toE_minus (k : Nat) (a : List Rat) : toE k (minusF a) = neg (toE k a):=by rw [← toF_neg];exact toF_ext fun i _=>cf_minus
theorem toE_join {k : Nat} {a b : List Rat} (ha : a.length ≤ 2 ^ k) (hb : b.length ≤ 2 ^ k) : toE (k + 1) (joinF a b (2 ^ k)) = (toE k a,toE k b) :=
  Prod.ext (toF_ext fun i hi=>(cf_join ha hb hi).1) (toF_ext fun i hi=>(cf_join ha hb hi).2)
theorem toE_zero {k : Nat} {a : List Rat} (h : zeroF a = true) : toE k a = zero k:=by rw [← toF_zero];exact toF_ext fun i _=>zero_iff.1 h i
theorem toE_nil {k : Nat} : toE k [] = zero k:=toE_zero rfl
end El
def PW (k : Nat) (a : List Rat) : Prop:=a.length = 0 ∨ ∃ j,j ≤ k ∧ a.length = 2 ^ j
theorem PW.le {k : Nat} {a : List Rat} (h : PW k a) : a.length ≤ 2 ^ k:=by
  rcases h with h | ⟨j,hj,h⟩
  · rw [h];exact Nat.zero_le _
  · rw [h];exact Nat.pow_le_pow_right (by decide) hj
theorem PW.low {k : Nat} {a : List Rat} (h : PW (k + 1) a) (h2 : a.length ≤ 2 ^ k) : PW k a:=by
  rcases h with h | ⟨j,hj,h⟩
  · exact .inl h
  · refine .inr ⟨j,?_,h⟩
    rcases Nat.lt_or_ge k j with h3 | h3
    · have : 2 ^ k < 2 ^ j:=Nat.pow_lt_pow_right (by decide) h3
      omega
    · exact h3
theorem PW.top {k : Nat} {a : List Rat} (h : PW (k + 1) a) (h2 : ¬ a.length ≤ 2 ^ k) : a.length = 2 ^ (k + 1):=by
  rcases h with h | ⟨j,hj,h⟩
  · exact absurd (h ▸ Nat.zero_le _) h2
  · rcases Nat.lt_or_ge k j with h3 | h3
    · rw [h,show j = k + 1 by omega]
    · have : 2 ^ j ≤ 2 ^ k:=Nat.pow_le_pow_right (by decide) h3
      omega
theorem PW.pow {k : Nat} {a : List Rat} (h : a.length = 2 ^ k) : PW k a:=.inr ⟨k,Nat.le_refl _,h⟩
theorem PW.of {k : Nat} {a : List Rat} (h : a.length = 0 ∨ a.length = 2 ^ k) : PW k a:=h.imp id fun h=>⟨k,Nat.le_refl _,h⟩
theorem lev_pow (k : Nat) : lev (2 ^ k) = k:=Nat.log2_two_pow
theorem plus_len {a b : List Rat} : (plusF a b).length = max a.length b.length:=by simp [plusF]
theorem join_len {a b : List Rat} {n : Nat} (ha : a.length ≤ n) (hb : b.length ≤ n) : (joinF a b n).length = n + n:=by unfold joinF;rw [List.length_append,wide_len ha,wide_len hb]
open El in
theorem times_E {rs : List (List Rat)} {d : Rts} {K : Nat} (hd : ∀ j, j < K → (rs.getD j []).length = 2 ^ j ∧ toE j (rs.getD j []) = d j) :
    ∀ (k n : Nat),k ≤ K → k < n → ∀ a b : List Rat,PW k a → PW k b → toE k (timesF rs n a b) = mul d (toE k a) (toE k b) ∧ ((timesF rs n a b).length = 0 ∨ (timesF rs n a b).length = max a.length b.length):=by
  intro k
  induction k with
  | zero =>
    intro n _ hn a b ha hb
    obtain ⟨n,rfl⟩ : ∃ m,n = m + 1:=⟨n - 1,by omega⟩
    have key : ∀ a b : List Rat,a.length ≤ 1 → b.length ≤ a.length → toE 0 (stepF rs (timesF rs n) a b) = mul d (toE 0 a) (toE 0 b) ∧ ((stepF rs (timesF rs n) a b).length = 0 ∨ (stepF rs (timesF rs n) a b).length = a.length):=by
      intro a b ha hb
      unfold stepF
      split
      · rename_i h
        refine ⟨?_,.inl rfl⟩
        rw [toE_nil]
        rcases Bool.or_eq_true_iff.1 h with h | h
        · rw [toE_zero h,zero_mul]
        · rw [toE_zero h,mul_zero]
      · rename_i h
        have h1 : a.length = 1:=by
          rcases Nat.lt_or_ge a.length 1 with h2 | h2
          · exfalso;apply h;rw [List.length_eq_zero_iff.1 (show a.length = 0 by omega)];rfl
          · omega
        rw [if_pos h1]
        exact ⟨rfl,.inr h1.symm⟩
    have h1:=ha.le;have h2:=hb.le
    simp only [Nat.pow_zero] at h1 h2
    unfold timesF
    split
    · rw [mul_comm,Nat.max_eq_right (by omega)];exact key b a h2 (by omega)
    · rw [Nat.max_eq_left (by omega)];exact key a b h1 (by omega)
  | succ k ih =>
    intro n hK hn a b ha hb
    by_cases hlow : a.length ≤ 2 ^ k ∧ b.length ≤ 2 ^ k
    · obtain ⟨h1,h2⟩:=ih n (by omega) (by omega) a b (ha.low hlow.1) (hb.low hlow.2)
      refine ⟨?_,h2⟩
      rw [toE_low (by omega),toE_low hlow.1,toE_low hlow.2,h1]
      refine Prod.ext ?_ ?_
      · show _ = add (mul d _ _) (mul d (mul d (zero k) (zero k)) (d k))
        rw [zero_mul,zero_mul,add_zero]
      · show _ = add (mul d _ (zero k)) (mul d (zero k) _)
        rw [mul_zero,zero_mul,add_zero]
    · obtain ⟨n,rfl⟩ : ∃ m,n = m + 1:=⟨n - 1,by omega⟩
      have e2 : 2 ^ (k + 1) = 2 ^ k + 2 ^ k:=by rw [Nat.pow_succ];omega
      have ep:=Nat.two_pow_pos k
      have key : ∀ a b : List Rat,a.length = 2 ^ (k + 1) → PW (k + 1) b → toE (k + 1) (stepF rs (timesF rs n) a b) = mul d (toE (k + 1) a) (toE (k + 1) b) ∧ ((stepF rs (timesF rs n) a b).length = 0 ∨ (stepF rs (timesF rs n) a b).length = a.length):=by
        intro a b ha hb
        have hh : a.length / 2 = 2 ^ k:=by omega
        unfold stepF
        split
        · rename_i h
          refine ⟨?_,.inl rfl⟩
          rw [toE_nil]
          rcases Bool.or_eq_true_iff.1 h with h | h
          · rw [toE_zero h,zero_mul]
          · rw [toE_zero h,mul_zero]
        · rw [if_neg (by omega),hh]
          have hx : PW k (a.take (2 ^ k)):=.pow (by rw [List.length_take];omega)
          have hy : PW k (a.drop (2 ^ k)):=.pow (by rw [List.length_drop];omega)
          have ihk:=ih n (by omega) (by omega)
          split
          · rename_i hbl
            have hb':=hb.low hbl
            obtain ⟨h1,h2⟩:=ihk _ b hx hb'
            obtain ⟨h3,h4⟩:=ihk _ b hy hb'
            have l1:=hx.le;have l2:=hy.le
            refine ⟨?_,.inr (by rw [join_len (by omega) (by omega),ha,e2])⟩
            rw [toE_join (by omega) (by omega),h1,h3,toE_halves k a,toE_low hbl]
            refine Prod.ext ?_ ?_
            · show _ = add (mul d _ _) (mul d (mul d _ (zero k)) (d k))
              rw [mul_zero,zero_mul,add_zero]
            · show _ = add (mul d _ (zero k)) (mul d _ _)
              rw [mul_zero,zero_add]
          · rename_i hbl
            have hbt:=hb.top hbl
            have hu : PW k (b.take (2 ^ k)):=.pow (by rw [List.length_take];omega)
            have hv : PW k (b.drop (2 ^ k)):=.pow (by rw [List.length_drop];omega)
            have hdk:=hd k (by omega)
            rw [ha,lev_pow,Nat.add_sub_cancel]
            obtain ⟨p1,q1⟩:=ihk _ _ hx hu
            obtain ⟨p2,q2⟩:=ihk _ _ hy hv
            obtain ⟨p3,q3⟩:=ihk _ _ hx hv
            obtain ⟨p4,q4⟩:=ihk _ _ hy hu
            have m1 : (a.take (2 ^ k)).length = 2 ^ k:=by rw [List.length_take];omega
            have m2 : (a.drop (2 ^ k)).length = 2 ^ k:=by rw [List.length_drop];omega
            have m3 : (b.take (2 ^ k)).length = 2 ^ k:=by rw [List.length_take];omega
            have m4 : (b.drop (2 ^ k)).length = 2 ^ k:=by rw [List.length_drop];omega
            rw [m1,m3,Nat.max_self] at q1;rw [m2,m4,Nat.max_self] at q2;rw [m1,m4,Nat.max_self] at q3;rw [m2,m3,Nat.max_self] at q4
            obtain ⟨p5,q5⟩:=ihk _ _ (PW.of q2) (PW.pow hdk.1)
            rw [hdk.1] at q5
            rw [p2,hdk.2] at p5
            have g1:=plus_len (a:=timesF rs n (a.take (2 ^ k)) (b.take (2 ^ k))) (b:=timesF rs n (timesF rs n (a.drop (2 ^ k)) (b.drop (2 ^ k))) (rs.getD k []))
            have g2:=plus_len (a:=timesF rs n (a.take (2 ^ k)) (b.drop (2 ^ k))) (b:=timesF rs n (a.drop (2 ^ k)) (b.take (2 ^ k)))
            refine ⟨?_,.inr (by rw [join_len (by omega) (by omega),e2])⟩
            rw [toE_join (by omega) (by omega),toE_plus,toE_plus,p1,p5,p3,p4,toE_halves k a,toE_halves k b]
            rfl
      have h1:=ha.le;have h2:=hb.le
      unfold timesF
      split
      · have hbt : b.length = 2 ^ (k + 1):=hb.top (by omega)
        rw [mul_comm,Nat.max_eq_right (by omega)];exact key b a hbt ha
      · have hat : a.length = 2 ^ (k + 1):=ha.top (by omega)
        rw [Nat.max_eq_left (by omega)];exact key a b hat hb
end Go.Proofs.YtnjbcjmkkejfpaaGreatDoor
namespace Go.Proofs.YtnjbcjmkkejfpaaGreatDoor
def clg (n : Nat) : Nat:=if n ≤ 1 then 0 else Nat.log2 (n - 1) + 1
def levI (n : Nat) : Int:=if 2 ^ clg n = n then (clg n : Int) else -1
theorem clg_of {n k : Nat} (h : ∀ j,j < k → 2 ^ j < n) (h2 : n ≤ 2 ^ k) : clg n = k:=by
  unfold clg
  cases k with
  | zero=>rw [if_pos (by simpa using h2)]
  | succ k =>
    have h3:=h k (Nat.lt_succ_self k)
    have h4:=Nat.two_pow_pos k
    have h5:=h 0 (Nat.succ_pos k)
    rw [Nat.pow_succ] at h2
    have e : Nat.log2 (n - 1) = k:=(Nat.log2_eq_iff (by omega)).2 ⟨by omega,by rw [Nat.pow_succ];omega⟩
    rw [if_neg (by simp at h5;omega),e]
theorem clg_pow (k : Nat) : clg (2 ^ k) = k:=clg_of (fun j hj=>Nat.pow_lt_pow_right (by decide) hj) (Nat.le_refl _)
theorem levI_pow (k : Nat) : levI (2 ^ k) = k:=by unfold levI;rw [clg_pow,if_pos rfl]
theorem lev_lt {n k : Nat} (hk : ∀ j,j < k → 2 ^ j < n) (h : 2 ^ k < n) : ∀ j,j < k + 1 → 2 ^ j < n:=fun j hj=>by
  rcases Nat.lt_or_ge j k with h1 | h1
  · exact hk j h1
  · rw [show j = k by omega];exact h
theorem lev_le {n k : Nat} (hk : ∀ j,j < k → 2 ^ j < n) (hn : n ≤ 35184372088832) : k ≤ 45 ∧ 2 ^ k ≤ 35184372088832:=by
  have e : 2 ^ 45 = 35184372088832:=by decide
  have h : k ≤ 45:=by
    rcases Nat.lt_or_ge 45 k with h | h
    · have:=hk 45 h;omega
    · exact h
  refine ⟨h,?_⟩
  rw [← e];exact Nat.pow_le_pow_right (by decide) h
theorem levI_n {n k : Nat} (hk : ∀ j,j < k → 2 ^ j < n) (h : n ≤ 2 ^ k) (hn : 2 ^ k ≠ n) : levI n = -1:=by unfold levI;rw [clg_of hk h,if_neg hn]
theorem levI_y {n k : Nat} (h : 2 ^ k = n) : levI n = k:=by rw [← h,levI_pow]
def shN (a : List Rat) : Nat → Nat → Nat
  | 0,n=>n
  | f + 1,n=>if 1 < n ∧ zeroF ((a.take n).drop (n / 2)) = true then shN a f (n / 2) else n
theorem shN_fuel {a : List Rat} : ∀ {f g n : Nat},n ≤ f → n ≤ g → shN a f n = shN a g n
  | 0,0,_,_,_=>rfl
  | 0,g + 1,n,h,_=>by
    obtain rfl : n = 0:=by omega
    unfold shN;rw [if_neg (by omega)]
  | f + 1,0,n,_,h=>by
    obtain rfl : n = 0:=by omega
    unfold shN;rw [if_neg (by omega)]
  | f + 1,g + 1,n,h1,h2=>by
    unfold shN
    split
    · exact shN_fuel (by omega) (by omega)
    · rfl
def shL (a : List Rat) (n : Nat) : Nat:=shN a n n
theorem shL_go {a : List Rat} {n : Nat} (h : 1 < n) (hz : zeroF ((a.take n).drop (n / 2)) = true) : shL a n = shL a (n / 2):=by
  unfold shL
  obtain ⟨m,rfl⟩ : ∃ m,n = m + 1:=⟨n - 1,by omega⟩
  conv=>lhs;unfold shN
  rw [if_pos ⟨h,hz⟩]
  exact shN_fuel (by omega) (Nat.le_refl _)
theorem shL_end {a : List Rat} {n : Nat} (h : ¬ (1 < n ∧ zeroF ((a.take n).drop (n / 2)) = true)) : shL a n = n:=by
  unfold shL
  cases n with
  | zero=>rfl
  | succ m=>unfold shN;rw [if_neg h]
def shoF (a : List Rat) : List Rat :=
  if 0 < a.length ∧ (levI a.length < 0 ∨ 5 < levI a.length) then a else if shL a a.length = 1 ∧ zeroF (a.take 1) = true then [] else a.take (shL a a.length)
theorem cf_cut {a : List Rat} {m n i : Nat} : cf ((a.take n).drop m) i = if m + i < n then cf a (m + i) else 0:=by
  rw [cf_drop]
  split
  · rename_i h;exact cf_take h
  · unfold cf;rw [List.getD_eq_getElem?_getD,List.getElem?_eq_none (by rw [List.length_take];omega)];rfl
theorem cf_out {a : List Rat} {i : Nat} (h : a.length ≤ i) : cf a i = 0:=by
  unfold cf;rw [List.getD_eq_getElem?_getD,List.getElem?_eq_none h];rfl
theorem shL_pow {a : List Rat} : ∀ j : Nat,∃ i,i ≤ j ∧ shL a (2 ^ j) = 2 ^ i ∧ (∀ x,2 ^ i ≤ x → x < 2 ^ j → cf a x = 0) ∧ (i = 0 ∨ ∃ x,2 ^ (i - 1) ≤ x ∧ x < 2 ^ i ∧ cf a x ≠ 0)
  | 0=>⟨0,Nat.le_refl _,shL_end (by simp),fun x h1 h2=>absurd h1 (by omega),.inl rfl⟩
  | j + 1=>by
    have e : 2 ^ (j + 1) = 2 ^ j + 2 ^ j:=by rw [Nat.pow_succ];omega
    have hp:=Nat.two_pow_pos j
    have hh : 2 ^ (j + 1) / 2 = 2 ^ j:=by omega
    by_cases hz : zeroF ((a.take (2 ^ (j + 1))).drop (2 ^ (j + 1) / 2)) = true
    · obtain ⟨i,h1,h2,h3,h4⟩:=shL_pow (a:=a) j
      refine ⟨i,by omega,by rw [shL_go (by omega) hz,hh,h2],fun x hx hx2=>?_,h4⟩
      rcases Nat.lt_or_ge x (2 ^ j) with h5 | h5
      · exact h3 x hx h5
      · have:=zero_iff.1 hz (x - 2 ^ j)
        rw [cf_cut,hh,if_pos (by omega),show 2 ^ j + (x - 2 ^ j) = x by omega] at this
        exact this
    · refine ⟨j + 1,Nat.le_refl _,shL_end (fun h=>hz h.2),fun x h1 h2=>absurd h1 (by omega),.inr ?_⟩
      rw [hh,zero_iff] at hz
      rw [Nat.add_sub_cancel]
      obtain ⟨i,hi⟩:=Classical.not_forall.1 hz
      rw [cf_cut] at hi
      split at hi
      · rename_i h;exact ⟨2 ^ j + i,by omega,h,hi⟩
      · exact absurd rfl hi
def SHP (s : List Rat) : Prop:=s = [] ∨ (s.length = 1 ∧ cf s 0 ≠ 0) ∨ ∃ i,s.length = 2 ^ (i + 1) ∧ ∃ x,2 ^ i ≤ x ∧ x < 2 ^ (i + 1) ∧ cf s x ≠ 0
theorem sho_nil : shoF [] = []:=by
  unfold shoF
  rw [if_neg (by simp),if_neg (by decide)];rfl
theorem sho_ok {k : Nat} {a : List Rat} (hk : k ≤ 5) (h : PW k a) : SHP (shoF a) ∧ PW k (shoF a) ∧ (∀ x,cf (shoF a) x = cf a x) ∧ (shoF a).length ≤ a.length:=by
  rcases h with h | ⟨j,hj,h⟩
  · obtain rfl : a = []:=List.length_eq_zero_iff.1 h
    rw [sho_nil];exact ⟨.inl rfl,.inl rfl,fun _=>rfl,Nat.le_refl _⟩
  · obtain ⟨i,h1,h2,h3,h4⟩:=shL_pow (a:=a) j
    unfold shoF
    rw [h,levI_pow,if_neg (by omega),h2]
    have hle : 2 ^ i ≤ 2 ^ j:=Nat.pow_le_pow_right (by decide) h1
    have hlen : (a.take (2 ^ i)).length = 2 ^ i:=by rw [List.length_take];omega
    have hcf : ∀ x,cf (a.take (2 ^ i)) x = cf a x:=fun x=>by
      rcases Nat.lt_or_ge x (2 ^ i) with h5 | h5
      · exact cf_take h5
      · rw [cf_out (by omega)]
        rcases Nat.lt_or_ge x (2 ^ j) with h6 | h6
        · exact (h3 x h5 h6).symm
        · exact (cf_out (by omega)).symm
    split
    · rename_i hz
      have e : ∀ x,cf a x = 0:=fun x=>by
        rw [← hcf,hz.1];exact zero_iff.1 hz.2 x
      exact ⟨.inl rfl,.inl rfl,fun x=>by rw [e,cf_out (by simp)],Nat.zero_le _⟩
    · rename_i hz
      refine ⟨?_,.inr ⟨i,by omega,hlen⟩,hcf,by omega⟩
      rcases h4 with h4 | ⟨x,h5,h6,h7⟩
      · subst h4
        refine .inr (.inl ⟨by rw [hlen],fun e=>hz ⟨rfl,zero_iff.2 fun x=>?_⟩⟩)
        cases x with
        | zero=>exact e
        | succ x=>exact cf_out (by rw [List.length_take];omega)
      · cases i with
        | zero =>
          exfalso
          simp at h5 h6
          omega
        | succ i=>exact .inr (.inr ⟨i,hlen,x,by simpa using h5,h6,by rw [hcf];exact h7⟩)
theorem SHP.le {s s' : List Rat} (h : SHP s) (h' : SHP s') (e : ∀ x,cf s x = cf s' x) : s.length ≤ s'.length:=by
  rcases Nat.lt_or_ge s'.length s.length with hl | hl
  · exfalso
    rcases h with rfl | ⟨h1,h2⟩ | ⟨i,h1,x,h2,h3,h4⟩
    · simp at hl
    · exact h2 ((e 0).trans (cf_out (by omega)))
    · have hp:=Nat.two_pow_pos i
      have e2 : 2 ^ (i + 1) = 2 ^ i + 2 ^ i:=by rw [Nat.pow_succ];omega
      refine h4 ((e x).trans (cf_out ?_))
      rcases h' with rfl | ⟨h5,_⟩ | ⟨m,h5,_⟩
      · exact Nat.zero_le _
      · omega
      · rw [h5,h1] at hl
        have h6 : m + 1 < i + 1:=(Nat.pow_lt_pow_iff_right (by decide)).1 hl
        have : 2 ^ (m + 1) ≤ 2 ^ i:=Nat.pow_le_pow_right (by decide) (by omega)
        omega
  · exact hl
def tmF (rs : List (List Rat)) (a b : List Rat) : List Rat:=timesF rs (rs.length + 1) a b
def normF (rs : List (List Rat)) (a : List Rat) : List Rat :=
  plusF (tmF rs (a.take (a.length / 2)) (a.take (a.length / 2))) (minusF (tmF rs (tmF rs (a.drop (a.length / 2)) (a.drop (a.length / 2))) (rs.getD (lev a.length - 1) [])))
def dR (rs : List (List Rat)) : El.Rts:=fun k=>El.toE k (rs.getD k [])
def RLN (rs : List (List Rat)) : Prop:=∀ j,j < rs.length → (rs.getD j []).length = 2 ^ j
noncomputable def vlL (rs : List (List Rat)) (a : List Rat) : RR:=El.vl (dR rs) (El.toE 5 a)
noncomputable def sgL (rs : List (List Rat)) (a : List Rat) : Int:=sgR (vlL rs a)
def TOK (rs : List (List Rat)) : Prop:=rs.length ≤ 5 ∧ RLN rs ∧ ∀ j,j < rs.length → 0 ≤ vlL rs (rs.getD j [])
namespace El
theorem vl_low {d : Rts} {k : Nat} {l : List Rat} (h : l.length ≤ 2 ^ k) : vl d (toE (k + 1) l) = vl d (toE k l):=by
  rw [toE_low h]
  show vl d (toE k l) + vl d (zero k) * _ = _
  rw [vl_zero,RR.zero_mul,RR.add_zero]
theorem vl_ups {d : Rts} {l : List Rat} {k : Nat} (h : l.length ≤ 2 ^ k) : ∀ j,vl d (toE (k + j) l) = vl d (toE k l)
  | 0=>rfl
  | j + 1=>(vl_low (Nat.le_trans h (Nat.pow_le_pow_right (by decide) (Nat.le_add_right k j)))).trans (vl_ups h j)
theorem vl_at {rs : List (List Rat)} {l : List Rat} {k : Nat} (hk : k ≤ 5) (h : l.length ≤ 2 ^ k) : vlL rs l = vl (dR rs) (toE k l):=by
  have:=vl_ups (d:=dR rs) h (5 - k)
  rwa [show k + (5 - k) = 5 by omega] at this
theorem vl_congr {d d' : Rts} : ∀ {k : Nat} (x : El k),(∀ j,j < k → d j = d' j) → vl d x = vl d' x
  | 0,_,_=>rfl
  | k + 1,x,h=>by
    show vl d x.1 + vl d x.2 * (vl d (d k)).sq = vl d' x.1 + vl d' x.2 * (vl d' (d' k)).sq
    rw [vl_congr x.1 fun j hj=>h j (by omega),vl_congr x.2 fun j hj=>h j (by omega),vl_congr (d k) fun j hj=>h j (by omega),h k (Nat.lt_succ_self k)]
theorem toE_cf {k : Nat} {a b : List Rat} (h : ∀ x,cf a x = cf b x) : toE k a = toE k b:=toF_ext fun i _=>h i
end El
theorem TOK.ok {rs : List (List Rat)} (h : TOK rs) : El.ok (dR rs) rs.length:=fun j hj=>by
  have:=h.2.2 j hj
  have hl:=h.2.1 j hj
  rwa [El.vl_at (k:=j) (by have:=h.1;omega) (by rw [hl];exact Nat.le_refl _)] at this
theorem RLN.at {rs : List (List Rat)} (h : RLN rs) {j : Nat} (hj : j < rs.length) : (rs.getD j []).length = 2 ^ j:=h j hj
theorem RLN.hd {rs : List (List Rat)} (h : RLN rs) : ∀ j,j < rs.length → (rs.getD j []).length = 2 ^ j ∧ El.toE j (rs.getD j []) = dR rs j:=fun j hj=>⟨h j hj,rfl⟩
theorem tm_ok {rs : List (List Rat)} {k : Nat} {a b : List Rat} (hr : RLN rs) (hk : k ≤ rs.length) (ha : PW k a) (hb : PW k b) :
    El.toE k (tmF rs a b) = El.mul (dR rs) (El.toE k a) (El.toE k b) ∧ ((tmF rs a b).length = 0 ∨ (tmF rs a b).length = max a.length b.length):=times_E hr.hd k (rs.length + 1) hk (by omega) a b ha hb
theorem PW.mono {k m : Nat} {a : List Rat} (h : PW k a) (hk : k ≤ m) : PW m a:=by
  rcases h with h | ⟨j,hj,h⟩
  · exact .inl h
  · exact .inr ⟨j,by omega,h⟩
theorem PW.tmn {rs : List (List Rat)} {k m : Nat} {a b : List Rat} (hr : RLN rs) (hk : k ≤ rs.length) (hm : k < m) (ha : PW k a) (hb : PW k b) : PW k (timesF rs m a b):=by
  rcases (times_E hr.hd k m hk hm a b ha hb).2 with h | h
  · exact .inl h
  · rcases Nat.le_total a.length b.length with hl | hl
    · rw [Nat.max_eq_right hl] at h
      exact hb.imp (fun hb=>h.trans hb) fun ⟨j,hj,hb⟩=>⟨j,hj,h.trans hb⟩
    · rw [Nat.max_eq_left hl] at h
      exact ha.imp (fun ha=>h.trans ha) fun ⟨j,hj,ha⟩=>⟨j,hj,h.trans ha⟩
theorem PW.tm {rs : List (List Rat)} {k : Nat} {a b : List Rat} (hr : RLN rs) (hk : k ≤ rs.length) (ha : PW k a) (hb : PW k b) : PW k (tmF rs a b):=PW.tmn hr hk (by omega) ha hb
theorem PW.half {k : Nat} {a : List Rat} (ha : PW k a) (hz : ¬ zeroF a = true) (h1 : ¬ a.length = 1) : ∃ j,j < k ∧ a.length = 2 ^ (j + 1) ∧ a.length / 2 = 2 ^ j ∧ (a.take (2 ^ j)).length = 2 ^ j ∧ (a.drop (2 ^ j)).length = 2 ^ j:=by
  rcases ha with ha | ⟨i,hi,ha⟩
  · exfalso;apply hz;rw [List.length_eq_zero_iff.1 ha];rfl
  · cases i with
    | zero=>exact absurd ha h1
    | succ j =>
      have e2 : 2 ^ (j + 1) = 2 ^ j + 2 ^ j:=by rw [Nat.pow_succ];omega
      exact ⟨j,by omega,ha,by omega,by rw [List.length_take];omega,by rw [List.length_drop];omega⟩
theorem PW.pos {k : Nat} {b : List Rat} {j : Nat} (hb : PW k b) (hz : ¬ b.length ≤ 2 ^ j) (hl : b.length ≤ 2 ^ (j + 1)) : b.length = 2 ^ (j + 1):=by
  rcases hb with hb | ⟨i,hi,hb⟩
  · exact absurd (Nat.zero_le _) (by rw [← hb];exact hz)
  · have h1 : j < i := by
      rcases Nat.lt_or_ge j i with h | h
      · exact h
      · exact absurd (by rw [hb];exact Nat.pow_le_pow_right (by decide) h) hz
    have h2 : i ≤ j + 1:=by
      rcases Nat.lt_or_ge (j + 1) i with h | h
      · have:=Nat.pow_lt_pow_right (a:=2) (by decide) h;omega
      · exact h
    rw [hb,show i = j + 1 by omega]
theorem times_fuel {rs : List (List Rat)} (hr : RLN rs) : ∀ k : Nat,k ≤ rs.length → ∀ m m' : Nat,k < m → k < m' → ∀ a b : List Rat,PW k a → PW k b → timesF rs m a b = timesF rs m' a b:=by
  intro k
  induction k with
  | zero =>
    intro _ m m' hm hm' a b ha hb
    obtain ⟨m,rfl⟩ : ∃ i,m = i + 1:=⟨m - 1,by omega⟩
    obtain ⟨m',rfl⟩ : ∃ i,m' = i + 1:=⟨m' - 1,by omega⟩
    have key : ∀ a b : List Rat,PW 0 a → stepF rs (timesF rs m) a b = stepF rs (timesF rs m') a b:=fun a b ha=>by
      unfold stepF
      by_cases hz : (zeroF a || zeroF b) = true
      · rw [if_pos hz,if_pos hz]
      · rw [if_neg hz,if_neg hz]
        by_cases h1 : a.length = 1
        · rw [if_pos h1,if_pos h1]
        · obtain ⟨j,hj,_⟩:=ha.half (fun e=>hz (by rw [e];rfl)) h1
          omega
    unfold timesF
    split
    · exact key b a hb
    · exact key a b ha
  | succ k ih =>
    intro hk m m' hm hm' a b ha hb
    obtain ⟨m,rfl⟩ : ∃ i,m = i + 1:=⟨m - 1,by omega⟩
    obtain ⟨m',rfl⟩ : ∃ i,m' = i + 1:=⟨m' - 1,by omega⟩
    have IH:=ih (by omega) m m' (by omega) (by omega)
    have key : ∀ a b : List Rat,PW (k + 1) a → PW (k + 1) b → b.length ≤ a.length → stepF rs (timesF rs m) a b = stepF rs (timesF rs m') a b:=fun a b ha hb hab=>by
      unfold stepF
      by_cases hz : (zeroF a || zeroF b) = true
      · rw [if_pos hz,if_pos hz]
      · rw [if_neg hz,if_neg hz]
        by_cases h1 : a.length = 1
        · rw [if_pos h1,if_pos h1]
        · obtain ⟨j,hj,hla,hh,hx,hy⟩:=ha.half (fun e=>hz (by rw [e];rfl)) h1
          rw [if_neg h1,if_neg h1,hh,hla,lev_pow,Nat.add_sub_cancel]
          have px : PW k (a.take (2 ^ j)):=(PW.pow hx).mono (by omega)
          have py : PW k (a.drop (2 ^ j)):=(PW.pow hy).mono (by omega)
          by_cases hbl : b.length ≤ 2 ^ j
          · have pb : PW k b:=hb.low (Nat.le_trans hbl (Nat.pow_le_pow_right (by decide) (by omega)))
            rw [if_pos hbl,if_pos hbl,IH _ _ px pb,IH _ _ py pb]
          · have hb2:=hb.pos hbl (by omega)
            have e2 : 2 ^ (j + 1) = 2 ^ j + 2 ^ j:=by rw [Nat.pow_succ];omega
            have pu : PW k (b.take (2 ^ j)):=(PW.pow (k:=j) (by rw [List.length_take];omega)).mono (by omega)
            have pv : PW k (b.drop (2 ^ j)):=(PW.pow (k:=j) (by rw [List.length_drop];omega)).mono (by omega)
            have pd : PW k (rs.getD j []):=(PW.pow (hr j (by omega))).mono (by omega)
            rw [if_neg hbl,if_neg hbl,IH _ _ px pu,IH _ _ py pv,IH _ _ (PW.tmn hr (by omega) (by omega) py pv) pd,IH _ _ px pv,IH _ _ py pu]
    unfold timesF
    split
    · exact key b a hb ha (by omega)
    · exact key a b ha hb (by omega)
theorem PW.plus {k : Nat} {a b : List Rat} (ha : PW k a) (hb : PW k b) : PW k (plusF a b):=by
  have h:=plus_len (a:=a) (b:=b)
  rcases Nat.le_total a.length b.length with hl | hl
  · rw [Nat.max_eq_right hl] at h
    exact hb.imp (fun hb=>h.trans hb) fun ⟨j,hj,hb⟩=>⟨j,hj,h.trans hb⟩
  · rw [Nat.max_eq_left hl] at h
    exact ha.imp (fun ha=>h.trans ha) fun ⟨j,hj,ha⟩=>⟨j,hj,h.trans ha⟩
theorem minus_len {a : List Rat} : (minusF a).length = a.length:=by simp [minusF]
theorem PW.minus {k : Nat} {a : List Rat} (ha : PW k a) : PW k (minusF a):=by
  unfold PW;rw [minus_len];exact ha
theorem norm_ok {rs : List (List Rat)} {k : Nat} {a : List Rat} (hr : RLN rs) (hk : k < rs.length) (ha : a.length = 2 ^ (k + 1)) :
    El.toE k (normF rs a) = El.norm (dR rs) (El.toE (k + 1) a) ∧ PW k (normF rs a):=by
  have e2 : 2 ^ (k + 1) = 2 ^ k + 2 ^ k:=by rw [Nat.pow_succ];omega
  have hh : a.length / 2 = 2 ^ k:=by omega
  have hx : PW k (a.take (2 ^ k)):=.pow (by rw [List.length_take];omega)
  have hy : PW k (a.drop (2 ^ k)):=.pow (by rw [List.length_drop];omega)
  have hd : PW k (rs.getD k []):=.pow (hr k hk)
  have hyy:=PW.tm hr (by omega) hy hy
  unfold normF
  rw [hh,ha,lev_pow,Nat.add_sub_cancel]
  refine ⟨?_,(PW.tm hr (by omega) hx hx).plus (PW.tm hr (by omega) hyy hd).minus⟩
  rw [El.toE_plus,El.toE_minus,(tm_ok hr (by omega) hx hx).1,(tm_ok hr (by omega) hyy hd).1,(tm_ok hr (by omega) hy hy).1,El.toE_halves k a]
  rfl
theorem sgL_nil {rs : List (List Rat)} : sgL rs [] = 0:=by
  unfold sgL
  rw [El.vl_at (k:=0) (by decide) (by simp)]
  show sgR (RR.of 0) = 0
  rw [sgR_of];rfl
theorem sgL_one {rs : List (List Rat)} {a : List Rat} (h : a.length = 1) : sgL rs a = (cf a 0).num.sign:=by
  unfold sgL
  rw [El.vl_at (k:=0) (by decide) (by rw [h];decide)]
  exact sgR_of _
theorem sgL_cf {rs : List (List Rat)} {a b : List Rat} (h : ∀ x,cf a x = cf b x) : sgL rs a = sgL rs b:=by unfold sgL vlL;rw [El.toE_cf h]
theorem sgL_short {rs : List (List Rat)} {k : Nat} {a : List Rat} (hk : k ≤ 5) (h : PW k a) : sgL rs (shoF a) = sgL rs a:=sgL_cf (sho_ok hk h).2.2.1
theorem sgL_step {rs : List (List Rat)} (ht : TOK rs) {k : Nat} {a : List Rat} (hk : k < rs.length) (ha : a.length = 2 ^ (k + 1)) :
    sgL rs a = if sgL rs (rs.getD k []) = 0 then sgL rs (a.take (a.length / 2)) else if sgL rs (a.take (a.length / 2)) = sgL rs (a.drop (a.length / 2)) ∨ sgL rs (a.drop (a.length / 2)) = 0 then sgL rs (a.take (a.length / 2)) else
      if sgL rs (a.take (a.length / 2)) = 0 then sgL rs (a.drop (a.length / 2)) else sgL rs (a.take (a.length / 2)) * sgL rs (normF rs a):=by
  have e2 : 2 ^ (k + 1) = 2 ^ k + 2 ^ k:=by rw [Nat.pow_succ];omega
  have h5:=ht.1
  have hh : a.length / 2 = 2 ^ k:=by omega
  have hx : (a.take (2 ^ k)).length = 2 ^ k:=by rw [List.length_take];omega
  have hy : (a.drop (2 ^ k)).length = 2 ^ k:=by rw [List.length_drop];omega
  obtain ⟨n1,n2⟩:=norm_ok ht.2.1 hk ha
  have hr:=ht.2.1 k hk
  rw [hh]
  unfold sgL
  rw [El.vl_at (k:=k + 1) (by omega) (by omega),El.vl_at (l:=rs.getD k []) (k:=k) (by omega) (by omega),El.vl_at (l:=a.take (2 ^ k)) (k:=k) (by omega) (by omega),El.vl_at (l:=a.drop (2 ^ k)) (k:=k) (by omega) (by omega),El.vl_at (l:=normF rs a) (k:=k) (by omega) n2.le,n1]
  have:=El.sg_step (ht.ok.mono (Nat.succ_le_of_lt hk)) (El.toE (k + 1) a)
  unfold El.sg at this
  rw [this,El.toE_halves k a]
  rfl
theorem sgL_bd (rs : List (List Rat)) (a : List Rat) : -1 ≤ sgL rs a ∧ sgL rs a ≤ 1:=by
  unfold sgL
  rcases sgR_cases (vlL rs a) with ⟨_,h⟩ | ⟨_,h⟩ | ⟨_,h⟩ <;> omega
theorem sgL_mul_bd (rs : List (List Rat)) (a b : List Rat) : -9223372036854775808 ≤ sgL rs a * sgL rs b ∧ sgL rs a * sgL rs b ≤ 9223372036854775807:=by
  have h1:=sgL_bd rs a;have h2:=sgL_bd rs b
  generalize sgL rs a = x at *;generalize sgL rs b = y at *
  rcases (show x = -1 ∨ x = 0 ∨ x = 1 by omega) with rfl | rfl | rfl <;> omega
theorem TOK.take {rs : List (List Rat)} (h : TOK rs) (j : Nat) : TOK (rs.take j) ∧ ∀ l : List Rat,PW (rs.take j).length l → sgL (rs.take j) l = sgL rs l:=by
  have hlen : (rs.take j).length ≤ rs.length:=by rw [List.length_take];omega
  have hget : ∀ i,i < (rs.take j).length → (rs.take j).getD i [] = rs.getD i []:=fun i hi=>by
    rw [List.length_take] at hi
    rw [List.getD_eq_getElem?_getD,List.getD_eq_getElem?_getD,List.getElem?_take_of_lt (by omega)]
  have h5:=h.1
  have hv : ∀ (k : Nat) (l : List Rat),k ≤ (rs.take j).length → l.length ≤ 2 ^ k → vlL (rs.take j) l = vlL rs l:=fun k l hk hl=>by
    rw [El.vl_at (k:=k) (by omega) hl,El.vl_at (k:=k) (by omega) hl]
    exact El.vl_congr _ fun i hi=>by unfold dR;rw [hget i (by omega)]
  refine ⟨⟨by omega,fun i hi=>by rw [hget i hi];exact h.2.1 i (by omega),fun i hi=>?_⟩,fun l hl=>by unfold sgL;rw [hv _ l (Nat.le_refl _) hl.le]⟩
  rw [hget i hi,hv i _ (by omega) (by rw [h.2.1 i (by omega)];exact Nat.le_refl _)]
  exact h.2.2 i (by omega)
theorem TOK.nn {rs : List (List Rat)} (h : TOK rs) {j : Nat} (hj : j < rs.length) : 0 ≤ sgL rs (rs.getD j []):=by
  have:=h.2.2 j hj
  unfold sgL
  rcases sgR_cases (vlL rs (rs.getD j [])) with ⟨h3,h4⟩ | ⟨h3,h4⟩ | ⟨h3,h4⟩
  · exact absurd h3 (RR.not_lt.2 this)
  · omega
  · omega
def tB : Nat → Nat → Nat → Nat
  | 0,n,_=>n
  | k + 1,n,r=>tB k n r + tB k (tB k n r + r) r + 1
def sB : Nat → Nat → Nat → Nat
  | 0,n,_=>n
  | k + 1,n,r=>sB k (tB (k + 1) (n + n) r) r
theorem tB_add {r : Nat} : ∀ {k n m : Nat},tB k n r + m ≤ tB k (n + m) r
  | 0,_,_=>Nat.le_refl _
  | k + 1,n,m=>by
    have h1:=tB_add (r:=r) (k:=k) (n:=n) (m:=m)
    have h2:=tB_add (r:=r) (k:=k) (n:=tB k n r + r) (m:=tB k (n + m) r - tB k n r)
    rw [show tB k n r + r + (tB k (n + m) r - tB k n r) = tB k (n + m) r + r by omega] at h2
    unfold tB;omega
theorem tB_mono {r k n m : Nat} (h : n ≤ m) : tB k n r ≤ tB k m r:=by
  have:=tB_add (r:=r) (k:=k) (n:=n) (m:=m - n)
  rw [show n + (m - n) = m by omega] at this;omega
theorem tB_le {r k n : Nat} : n ≤ tB k n r:=by
  have:=tB_add (r:=r) (k:=k) (n:=0) (m:=n)
  rw [Nat.zero_add] at this;omega
theorem tB_up {r : Nat} : ∀ {k m n : Nat},k ≤ m → tB k n r ≤ tB m n r:=fun {k m n} h=>by
  induction m with
  | zero=>rw [show k = 0 by omega];exact Nat.le_refl _
  | succ m ih =>
    rcases Nat.lt_or_ge k (m + 1) with h1 | h1
    · exact Nat.le_trans (ih (by omega)) (by conv => rhs; unfold tB
                                             omega)
    · rw [show k = m + 1 by omega];exact Nat.le_refl _
theorem sB_mono {r : Nat} : ∀ {k n m : Nat},n ≤ m → sB k n r ≤ sB k m r
  | 0,_,_,h=>h
  | k + 1,n,m,h=>by
    unfold sB;exact sB_mono (tB_mono (by omega))
theorem sB_le {r : Nat} : ∀ {k n : Nat},n ≤ sB k n r
  | 0,n=>Nat.le_refl _
  | k + 1,n=>Nat.le_trans (by have:=tB_le (r:=r) (k:=k + 1) (n:=n + n);omega) (sB_le (k:=k) (n:=tB (k + 1) (n + n) r))
theorem sB_up {r : Nat} {k n : Nat} : sB k n r ≤ sB (k + 1) n r:=by
  unfold sB
  have:=tB_le (r:=r) (k:=k + 1) (n:=n + n)
  cases k with
  | zero=>show n ≤ tB (0 + 1) (n + n) r;omega
  | succ k=>exact sB_mono (k:=k + 1) (by omega)
theorem sB_ups {r : Nat} {k m n : Nat} (h : k ≤ m) : sB k n r ≤ sB m n r:=by
  induction m with
  | zero=>rw [show k = 0 by omega];exact Nat.le_refl _
  | succ m ih =>
    rcases Nat.lt_or_ge k (m + 1) with h1 | h1
    · exact Nat.le_trans (ih (by omega)) sB_up
    · rw [show k = m + 1 by omega];exact Nat.le_refl _
end Go.Proofs.YtnjbcjmkkejfpaaGreatDoor
