import Derived.ChangeArms
import Derived.SizedLaws
import Derived.WideShapes
import Derived.OpenShut
import Derived.Test.YtnjbcjmkkejfpaaGreatQj
set_option linter.unusedVariables false
set_option linter.unusedSimpArgs false
set_option linter.unusedVariables false
set_option linter.unusedSimpArgs false
set_option maxHeartbeats 4000000
set_option maxRecDepth 100000
set_option synthInstance.maxSize 100000
set_option synthInstance.maxHeartbeats 400000
namespace Go.Proofs.YtnjbcjmkkejfpaaGreat
open Go.RowKit (Below)
attribute [local irreducible] Go.Code.wp Go.wpList Go.bodyPost
private theorem gS_ {W0 : World} {G0 : Gh} {N : Nat} {L : List (Nat × MT)} {B : List BX} {a : Act} {w : World} {G : Gh} {q : Prop} (h : St W0 G0 N L B a w G → q) : St W0 G0 N L B a w G → q:=h
private theorem gL_ {p : Prop} {P : Program} {arr : Array Oper} {Q : Exit → Act → World → Prop} {l : List Oper} {a : Act} {w : World} (h : p → wpList P arr Q l a w) : p → wpList P arr Q l a w:=h
private theorem gC_ {p : Prop} {P : Program} {c : Code} {Q : Exit → Act → World → Prop} {a : Act} {w : World} (h : p → c.wp P Q a w) : p → c.wp P Q a w:=h
private theorem mixedOrders : Tryz.prog.follows .mixedOrders = true:=by kernel_rfl
theorem sld_mix {n1 n2 n3 : Nat} {x y : Rat} {r : FR} {v : Value} {G : Gh} (h : (PTS [(some 3,QC n1 x),(some 3,QC n2 y),(some 3,FX n3 r)]).t v G) : (PTS [(some 3,FX (max n1 (max n2 n3)) (FR.of x)),(some 3,FX (max n1 (max n2 n3)) (FR.of y)),(some 3,FX (max n1 (max n2 n3)) r)]).t v G:=by
  obtain ⟨us,e1,a1,a2⟩:=h
  refine ⟨us,e1,a1,fun i f u hf hu=>?_⟩
  match i,hf with
  | 0,hf=>cases hf;have:=a2 0 _ u rfl hu;exact ⟨this.1,FX.up (QC.toFX this.2 (QC.one this.2)) (by omega)⟩
  | 1,hf=>cases hf;have:=a2 1 _ u rfl hu;exact ⟨this.1,FX.up (QC.toFX this.2 (QC.one this.2)) (by omega)⟩
  | 2,hf=>cases hf;have:=a2 2 _ u rfl hu;exact ⟨this.1,FX.up this.2 (by omega)⟩
instance NS.ar {k : Option Nat} {n : Nat} {xs : List FR} : NS (AR n k (xs.map RX)) (AR n k (xs.map (FX 64))) (xs.all shortR = true):=⟨fun e h=>by
  obtain ⟨⟨us,h1,h2⟩,hs⟩:=h
  refine ⟨⟨us,h1,by rw [h2.1];simp,fun i τ u hi hu=>?_⟩,hs⟩
  rw [List.getElem?_map] at hi
  cases hx : xs[i]? with
  | none=>rw [hx] at hi;cases hi
  | some x =>
    rw [hx] at hi;cases hi
    have:=h2.2 i (RX x) u (by rw [List.getElem?_map,hx];rfl) hu
    exact ⟨this.1,RX.toFX this.2 (List.all_eq_true.1 e x (List.mem_of_getElem? hx))⟩⟩
theorem ar_self {n m : Nat} {r0 r1 : FR} {v : Value} {G : Gh} (h : (AR n (some 3) ([r0,r1].map (FX m))).t v G) : (r0.ok = true → ∃ x,r0 = FR.of x) ∧ (r1.ok = true → ∃ x,r1 = FR.of x):=by
  obtain ⟨⟨us,_,hl,hE⟩,_⟩:=h
  match us,hl with
  | [u1,u2],_=>exact ⟨fun hk=>⟨_,(fr_self (QR.wf (FX.qr (hE 0 _ u1 rfl rfl).2)) hk).symm⟩,fun hk=>⟨_,(fr_self (QR.wf (FX.qr (hE 1 _ u2 rfl rfl).2)) hk).symm⟩⟩
theorem fx_self {n : Nat} {r : FR} {v : Value} {G : Gh} (h : (FX n r).t v G) (hk : r.ok = true) : ∃ x,r = FR.of x:=⟨_,(fr_self (QR.wf (FX.qr h)) hk).symm⟩
section
variable {a x y : Rat} {t : FR} {h : Bool}
theorem rt_rad (ha : 0 ≤ a) : radR (a * a) (d2F (x - a * dirC h t.val) (y - a * dirS h t.val)) y (dirS h t.val) = RR.of ((x - a * dirC h t.val) * (x - a * dirC h t.val)):=by
  unfold radR d2F
  rw [rt_c ha,← RR.of_mul,← RR.of_sub,← RR.of_mul,← RR.of_sub]
  congr 1;grind
def raB (a x y : Rat) (h : Bool) (t : FR) : Rat:=d2F (x - a * dirC h t.val) (y - a * dirS h t.val)
theorem ra_e (ha : 0 < a) (hc : slC (FR.of (a * a)) (FR.of (raB a x y h t)) (FR.of y) = 0) (ht : trnF h t = true) : slE (FR.of (a * a)) (FR.of (raB a x y h t)) (FR.of y) h t = 0:=by
  refine sle_0 (fun k=>k hc) ht ?_
  rw [slS_rad hc]
  simp only [FR.of_val]
  unfold raB
  rw [rt_rad (Rat.le_of_lt ha),sgR_of]
  have:=sq_nnq (x - a * dirC h t.val)
  intro k
  have:=(nsg _).1 k
  grind
theorem ra_found (ha : 0 < a) (hc : slC (FR.of (a * a)) (FR.of (raB a x y h t)) (FR.of y) = 0) (ht : trnF h t = true) : ∃ j,j < (slL (FR.of (a * a)) (FR.of (raB a x y h t)) (FR.of y) h t).length ∧ sgL (slR (FR.of (a * a)) (FR.of (raB a x y h t)) (FR.of y) h t) (plusF ((slL (FR.of (a * a)) (FR.of (raB a x y h t)) (FR.of y) h t).getD j default) (minusF [x])) = 0:=by
  have h0:=ra_e ha hc ht
  have hrad : radR (a * a) (raB a x y h t) y (dirS h t.val) = RR.of ((x - a * dirC h t.val) * (x - a * dirC h t.val)):=rt_rad (Rat.le_of_lt ha)
  have hcl : ∀ {R : List (List Rat)} {l : List Rat},vlL R l = RR.of x → sgL R (plusF l (minusF [x])) = 0:=fun {R l} hv=>by
    unfold sgL;rw [vlL_plus,vlL_minus,hv,vlc,RR.add_neg];exact sgR_zero
  rcases sl_two hc ht h0 with ⟨_,k2,k3,k4⟩ | ⟨_,k2,k3,k4,k5⟩
  · rw [k3,k4]
    refine ⟨0,Nat.zero_lt_one,hcl ?_⟩
    show vlL _ [0,dirC h t.val] = _
    rw [vl_0c,rt_c (Rat.le_of_lt ha),← RR.of_mul]
    rw [hrad] at k2
    have h3 : (x - a * dirC h t.val) * (x - a * dirC h t.val) = 0:=RR.of_inj.1 (k2.trans RR.of_zero.symm)
    have h4 : x - a * dirC h t.val = 0:=by rcases Rat.mul_eq_zero.1 h3 with h | h <;> exact h
    rw [show dirC h t.val * a = x by grind]
  · rw [k3,k4]
    rw [hrad] at k5
    rcases (Rat.le_total : 0 ≤ x - a * dirC h t.val ∨ x - a * dirC h t.val ≤ 0) with hu | hu
    · refine ⟨0,Nat.zero_lt_succ 1,hcl ?_⟩
      show vlL _ [0,dirC h t.val,1,0] = _
      rw [vl_p,k5,show (RR.of ((x - a * dirC h t.val) * (x - a * dirC h t.val))).sq = RR.of (x - a * dirC h t.val) from rt_c hu,rt_c (Rat.le_of_lt ha),← RR.of_mul,← RR.of_mul,← RR.of_add]
      rw [show dirC h t.val * a + 1 * (x - a * dirC h t.val) = x by grind]
    · refine ⟨1,Nat.lt_succ_self 1,hcl ?_⟩
      show vlL _ [0,dirC h t.val,-1,0] = _
      rw [vl_p,k5,show (x - a * dirC h t.val) * (x - a * dirC h t.val) = -(x - a * dirC h t.val) * -(x - a * dirC h t.val) by grind,show (RR.of (-(x - a * dirC h t.val) * -(x - a * dirC h t.val))).sq = RR.of (-(x - a * dirC h t.val)) from rt_c (by grind),rt_c (Rat.le_of_lt ha),← RR.of_mul,← RR.of_mul,← RR.of_add]
      rw [show dirC h t.val * a + -1 * -(x - a * dirC h t.val) = x by grind]
theorem ra_h : slH (FR.of (a * a)) (FR.of (raB a x y h t)) (FR.of y) (FR.of (a * dirC h t.val)) (FR.of (a * dirS h t.val)) (FR.of x) = true:=by
  have h1:=dir_one (h:=h) (t:=t.val)
  unfold slH raB d2F
  simp only [FR.of_val]
  rw [Bool.and_eq_true,decide_eq_true_eq,decide_eq_true_eq,cmpQ_eq0,cmpQ_eq0]
  constructor <;> grind
theorem ra_hc (hc : slC (FR.of (a * a)) (FR.of (raB a x y h t)) (FR.of y) = 0) : slHC (FR.of (a * a)) (FR.of (raB a x y h t)) (FR.of y) (FR.of (a * dirC h t.val)) (FR.of (a * dirS h t.val)) (FR.of x) = 0:=by
  unfold slHC;rw [if_pos hc];simp only [FR.of_ok];rfl
end
noncomputable def fndF (R l : List (List Rat)) (x : Rat) (j : Nat) : Bool:=(l.take j).any fun y=>decide (sgL R (plusF y (minusF [x])) = 0)
theorem fnd_go {R l : List (List Rat)} {x : Rat} {j : Nat} (h : j < l.length) : (fndF R l x j || decide (sgL R (plusF (l.getD j default) (minusF [x])) = 0)) = fndF R l x (j + 1):=by
  unfold fndF
  rw [List.take_add_one,List.any_append,List.getElem?_eq_getElem h,List.getD_eq_getElem?_getD,List.getElem?_eq_getElem h]
  simp
theorem fnd_end {R l : List (List Rat)} {x : Rat} {j : Nat} (h : ¬ j < l.length) (hx : ∃ i,i < l.length ∧ sgL R (plusF (l.getD i default) (minusF [x])) = 0) : fndF R l x j = true:=by
  obtain ⟨i,hi,hv⟩:=hx
  unfold fndF
  rw [List.take_of_length_le (by omega),List.any_eq_true]
  exact ⟨l.getD i default,by rw [List.getD_eq_getElem?_getD,List.getElem?_eq_getElem hi];exact List.getElem_mem hi,decide_eq_true hv⟩
theorem fnd_0 {R l : List (List Rat)} {x : Rat} : fndF R l x 0 = false:=rfl
instance {n1 n2 n3 : Nat} {x y : Rat} {re : FR} : Con Tryz.prog 15 [PTS [(some 3,QC n1 x),(some 3,QC n2 y),(some 3,FX n3 re)]] (20000 * (max n1 (max n2 n3)) + 500000 ≤ BIG) (.ex (errV 46 (slC (FR.of x) (FR.of y) re))):=.o1 fun hok h1 hp=>(inferInstance : Con Tryz.prog 15 [PTS [(some 3,FX (max n1 (max n2 n3)) (FR.of x)),(some 3,FX (max n1 (max n2 n3)) (FR.of y)),(some 3,FX (max n1 (max n2 n3)) re)]] _ (.ex (errV 46 (slC (FR.of x) (FR.of y) re)))).c1 hok (sld_mix h1) hp
instance {n1 n2 n3 : Nat} {x y : Rat} {re : FR} {m : Nat} {t : FR} {h : Bool} : Con Tryz.prog 12 [PTS [(some 3,QC n1 x),(some 3,QC n2 y),(some 3,FX n3 re)],TRN m t h] (20000 * (max n1 (max n2 n3)) + 20000 * m + 500000 ≤ BIG) (MT.tup3 (TWR (60 * (max n1 (max n2 n3)) + 60 * m + 2000) (slR (FR.of x) (FR.of y) re h t)) (RTS (60 * (max n1 (max n2 n3)) + 60 * m + 2000) (slL (FR.of x) (FR.of y) re h t)) (.ex (errV 46 (slE (FR.of x) (FR.of y) re h t)))):=.o2 fun hok h1 h2 hp=>(inferInstance : Con Tryz.prog 12 [PTS [(some 3,FX (max n1 (max n2 n3)) (FR.of x)),(some 3,FX (max n1 (max n2 n3)) (FR.of y)),(some 3,FX (max n1 (max n2 n3)) re)],TRN m t h] _ (MT.tup3 (TWR (60 * (max n1 (max n2 n3)) + 60 * m + 2000) (slR (FR.of x) (FR.of y) re h t)) (RTS (60 * (max n1 (max n2 n3)) + 60 * m + 2000) (slL (FR.of x) (FR.of y) re h t)) (.ex (errV 46 (slE (FR.of x) (FR.of y) re h t))))).c2 hok (sld_mix h1) h2 hp
instance {n1 n2 n3 k l : Nat} {x y : Rat} {re rx ry rz : FR} {τ : MT} [j2 : NF τ (PTS [(some 3,FX k rx),(some 3,FX k ry)])] {τ3 : MT} [j3 : NF τ3 (FX l rz)] : Con Tryz.prog 26 [PTS [(some 3,QC n1 x),(some 3,QC n2 y),(some 3,FX n3 re)],τ,τ3] (20000 * (max n1 (max n2 n3)) + 20000 * k + 20000 * l + 500000 ≤ BIG) (MT.tup2 (BT (decide (slHC (FR.of x) (FR.of y) re rx ry rz = 0) && slH (FR.of x) (FR.of y) re rx ry rz)) (.ex (errV 46 (slHC (FR.of x) (FR.of y) re rx ry rz)))):=.o3 fun hok h1 h2 h3 hp=>(inferInstance : Con Tryz.prog 26 [PTS [(some 3,FX (max n1 (max n2 n3)) (FR.of x)),(some 3,FX (max n1 (max n2 n3)) (FR.of y)),(some 3,FX (max n1 (max n2 n3)) re)],PTS [(some 3,FX k rx),(some 3,FX k ry)],FX l rz] _ (MT.tup2 (BT (decide (slHC (FR.of x) (FR.of y) re rx ry rz = 0) && slH (FR.of x) (FR.of y) re rx ry rz)) (.ex (errV 46 (slHC (FR.of x) (FR.of y) re rx ry rz))))).c3 hok (sld_mix h1) (j2.h h2) (j3.h h3) hp
section
variable {P : Program} {L : List (Nat × MT)} {B : List BX} {x : Operand} {u : List Nat} {t ty : TypeId} {n c b : Nat} {k : Option Nat} {α : Type} {T : α → MT} {r s : α} {l : List α}
instance (priority:=1300) Op1.lde0 [h : Opd L x (EP k b 0) u] [hb : Bx B b c ty (some n) (AR n k ((r :: l).map T))] [ih : Inhabited α] [hT : TyS P t k] : Op1 P L B (.load t x) True (T r) (u ++ [1000000 + c]):=⟨fun ho hok e hB hp=>(Op1.lde (xs:=r :: l) (i:=0) (T:=T)).ok ho hok e hB (Nat.zero_lt_succ _)⟩
instance (priority:=1300) Op1.lde1 [h : Opd L x (EP k b 1) u] [hb : Bx B b c ty (some n) (AR n k ((r :: s :: l).map T))] [ih : Inhabited α] [hT : TyS P t k] : Op1 P L B (.load t x) True (T s) (u ++ [1000000 + c]):=⟨fun ho hok e hB hp=>(Op1.lde (xs:=r :: s :: l) (i:=1) (T:=T)).ok ho hok e hB (Nat.succ_lt_succ (Nat.zero_lt_succ _))⟩
end
section
variable {rx r0 r1 t : FR} {h : Bool} {x0 : Rat}
theorem ra_e2 (ha : 0 < rx.val) (h1 : ∃ y,r1 = FR.of y) (hc : slC (FR.of (rx.val * rx.val)) (FR.of (d2F (r0.val - rx.val * dirC h t.val) (r1.val - rx.val * dirS h t.val))) r1 = 0) (ht : trnF h t = true) : slE (FR.of (rx.val * rx.val)) (FR.of (d2F (r0.val - rx.val * dirC h t.val) (r1.val - rx.val * dirS h t.val))) r1 h t = 0:=by
  obtain ⟨y,rfl⟩:=h1
  simp only [FR.of_val] at *
  exact ra_e ha hc ht
theorem ra_found2 (ha : 0 < rx.val) (h0 : r0 = FR.of x0) (h1 : ∃ y,r1 = FR.of y) (hc : slC (FR.of (rx.val * rx.val)) (FR.of (d2F (r0.val - rx.val * dirC h t.val) (r1.val - rx.val * dirS h t.val))) r1 = 0) (ht : trnF h t = true) : ∃ j,j < (slL (FR.of (rx.val * rx.val)) (FR.of (d2F (r0.val - rx.val * dirC h t.val) (r1.val - rx.val * dirS h t.val))) r1 h t).length ∧ sgL (slR (FR.of (rx.val * rx.val)) (FR.of (d2F (r0.val - rx.val * dirC h t.val) (r1.val - rx.val * dirS h t.val))) r1 h t) (plusF ((slL (FR.of (rx.val * rx.val)) (FR.of (d2F (r0.val - rx.val * dirC h t.val) (r1.val - rx.val * dirS h t.val))) r1 h t).getD j default) (minusF [x0])) = 0:=by
  obtain ⟨y,rfl⟩:=h1
  subst h0
  simp only [FR.of_val] at *
  exact ra_found ha hc ht
theorem ra_h2 (h1 : ∃ y,r1 = FR.of y) : slH (FR.of (rx.val * rx.val)) (FR.of (d2F (r0.val - rx.val * dirC h t.val) (r1.val - rx.val * dirS h t.val))) r1 (FR.of (rx.val * dirC h t.val)) (FR.of (rx.val * dirS h t.val)) r0 = true:=by
  have e:=ra_h (a:=rx.val) (x:=r0.val) (y:=r1.val) (t:=t) (h:=h)
  unfold slH at *
  simp only [FR.of_val] at *
  exact e
theorem ra_hc2 (h0 : r0.ok = true) (hc : slC (FR.of (rx.val * rx.val)) (FR.of (d2F (r0.val - rx.val * dirC h t.val) (r1.val - rx.val * dirS h t.val))) r1 = 0) : slHC (FR.of (rx.val * rx.val)) (FR.of (d2F (r0.val - rx.val * dirC h t.val) (r1.val - rx.val * dirS h t.val))) r1 (FR.of (rx.val * dirC h t.val)) (FR.of (rx.val * dirS h t.val)) r0 = 0:=by
  unfold slHC;rw [if_pos hc,FR.of_ok,FR.of_ok,h0];rfl
theorem ra_v2 (h1 : ∃ y,r1 = FR.of y) (hc : slC (FR.of (rx.val * rx.val)) (FR.of (d2F (r0.val - rx.val * dirC h t.val) (r1.val - rx.val * dirS h t.val))) r1 = 0) (ht : trnF h t = true) (h0 : slE (FR.of (rx.val * rx.val)) (FR.of (d2F (r0.val - rx.val * dirC h t.val) (r1.val - rx.val * dirS h t.val))) r1 h t = 0) : TOK (slR (FR.of (rx.val * rx.val)) (FR.of (d2F (r0.val - rx.val * dirC h t.val) (r1.val - rx.val * dirS h t.val))) r1 h t) ∧ (slR (FR.of (rx.val * rx.val)) (FR.of (d2F (r0.val - rx.val * dirC h t.val) (r1.val - rx.val * dirS h t.val))) r1 h t).length ≤ 2 ∧ (slL (FR.of (rx.val * rx.val)) (FR.of (d2F (r0.val - rx.val * dirC h t.val) (r1.val - rx.val * dirS h t.val))) r1 h t).length ≤ 2 ∧ ∀ j,j < (slL (FR.of (rx.val * rx.val)) (FR.of (d2F (r0.val - rx.val * dirC h t.val) (r1.val - rx.val * dirS h t.val))) r1 h t).length → PW (slR (FR.of (rx.val * rx.val)) (FR.of (d2F (r0.val - rx.val * dirC h t.val) (r1.val - rx.val * dirS h t.val))) r1 h t).length ((slL (FR.of (rx.val * rx.val)) (FR.of (d2F (r0.val - rx.val * dirC h t.val) (r1.val - rx.val * dirS h t.val))) r1 h t).getD j default):=by
  obtain ⟨y,rfl⟩:=h1
  have v:=sl_vals hc ht h0
  refine ⟨v.1,?_,slL_len _ _ _ _ _,fun j hj=>(v.2.2.2 j hj).1⟩
  have l:=sl_len hc ht h0
  by_cases hs : slS (FR.of (rx.val * rx.val)) (FR.of (d2F (r0.val - rx.val * dirC h t.val) ((FR.of y).val - rx.val * dirS h t.val))) (FR.of y) h t.val = 0
  · rw [(l.1 hs).1];decide
  · rw [(l.2 hs).1];decide
theorem ra_g {A B C D : Bool} (h : (A && B && C && D) = true) : A = true ∧ B = true ∧ C = true ∧ D = true:=by simpa [and_assoc] using h
theorem ra_gn {A E : Bool} (h : (A && posR rx && r0.ok && r1.ok) = false) : ((((((!true || !E) || !A) || !rx.ok) || decide (rx.val.num.sign ≤ 0)) || !r0.ok) || !r1.ok) = true:=by
  have hx : posR rx = (rx.ok && !decide (rx.val.num.sign ≤ 0)):=by
    unfold posR;congr 1
    have:=nsg rx.val
    by_cases hk : rx.val.num.sign ≤ 0
    · rw [decide_eq_true hk,decide_eq_false];rfl
      intro h2;have h3:=(rat_pos_iff (x:=rx.val)).1 h2;have:=Int.sign_eq_one_of_pos h3;omega
    · rw [decide_eq_false hk,decide_eq_true];rfl
      have h3 : 0 < rx.val.num:=by
        have:=sgn_cases rx.val.num;omega
      exact (rat_pos_iff (x:=rx.val)).2 h3
  rw [hx] at h
  clear hx
  generalize decide (rx.val.num.sign ≤ 0) = S at *
  generalize rx.ok = R0 at *
  generalize r0.ok = R1 at *
  generalize r1.ok = R2 at *
  cases A <;> cases E <;> cases R0 <;> cases S <;> cases R1 <;> cases R2 <;> simp_all
end
attribute [local irreducible] plusF minusF joinF levI lev PW RLN tB sB timesF stepF tmF normF shoF TOK sgL surdsF surdF trnC trnF dirC dirS slC slE slS slF slEC slR slL slT slEL slET slX slY slH slHC shortF rooF radR fndF
instance {r : FR} : Con Tryz.prog 28 [RX r] (shortR r = true) (BT r.ok):=.o1 fun hok h1 hp=>by
  have hq:=hp
  (try simp only [shortF,List.all_cons,List.all_nil,Bool.and_true,Bool.and_eq_true] at hq)
  exact (inferInstance : Con Tryz.prog 28 [FX 64 r] _ (BT r.ok)).c1 hok (NS.h (τ':=FX 64 r) (by (try simp only [and_true,true_and]);grind) h1) (by decide)
instance {r : FR} : Con Tryz.prog 33 [RX r] (shortR r = true) (IT r.val.num.sign):=.o1 fun hok h1 hp=>by
  have hq:=hp
  (try simp only [shortF,List.all_cons,List.all_nil,Bool.and_true,Bool.and_eq_true] at hq)
  exact (inferInstance : Con Tryz.prog 33 [FX 64 r] _ (IT r.val.num.sign)).c1 hok (NS.h (τ':=FX 64 r) (by (try simp only [and_true,true_and]);grind) h1) (by decide)
instance gTS8_6_2 : GcT 6 2 false 3 [4,5,6,22,23,24,25,26,27,28,29,30,31,32,33,34,35,36,37,38,39,40,41,42,43,44,45,46,47,48,49,50,51,52,53,54,55,56,57,58,59,60,61,62]:=⟨⟩
instance gTS8_6_3 : GcT 6 3 false 6 [22,23,24,25,26,27,28,29,30,31,32,33,34,35,36,37,38,39,40,41,42,43,44,45,46,47,48,49,50,51,52,53,54,55,56,57,58,59,60,61,62]:=⟨⟩
instance gTS8_6_4 : GcT 6 4 false 64 [65,66,67,68,69]:=⟨⟩
instance gTS8_6_5 : GcT 6 5 false 7 [8,70,71,72,73,74,75,76]:=⟨⟩
instance gTS8_6_6 : GcT 6 6 false 3 [77,78,79,80,81,82,83,84,85,86,87,88,89,90]:=⟨⟩
instance gTS8_6_7 : GcT 6 7 false 4 [5,10,11,91,92,93,94,95,96,97]:=⟨⟩
instance gTS8_6_8 : GcT 6 8 false 9 [91,92,93,94,95,96,97]:=⟨⟩
instance gTS8_6_9 : GcT 6 9 false 10 [100,101,102,103,104,105,106,107]:=⟨⟩
instance gTS8_6_10 : GcT 6 10 false 4 [11,108,109,110,111,112,113,114]:=⟨⟩
instance gTS8_6_11 : GcT 6 11 false 5 [12,13,14,15,16,115,116,117,118,119,120,121,122,123,124]:=⟨⟩
instance gTS8_6_12 : GcT 6 12 false 12 [13,16,115,116,117,118,119,120,121,122,123,124]:=⟨⟩
instance gTS8_6_17 : GcT 6 17 false 19 [128,129,130,131,132,133,134,135,136,137,138,139]:=⟨⟩
theorem shortSliderRationalB {rx t r0 r1 : FR} {h : Bool} : Con Tryz.prog 6 [FX 64 rx,TRN 64 t h,AR 6 (some 3) ([r0,r1].map (FX 64))] (shortF [rx,t,r0,r1] = true ∧ ((trnF h t && posR rx && r0.ok && r1.ok) = false)) (BT true):=.o3 fun hok h1 h2 h3 hp=>by
  refine St.enter (N:=149) Tryz.func6 rfl rfl rfl hok (enter3 h1 h2 h3) fun a=>?_
  have e0:=hp.1
  have e1:=hp.2
  have e2:=ra_gn (E:=shortF [rx,t,r0,r1]) e1
  repeat' (first|((with_reducible refine gS_ ?_);first|((with_reducible refine gL_ ?_);first|refine W.run ?_ fun a w G=>?_|refine W.mv fun a w G=>?_|refine W.asg fun a w G=>?_|refine W.bx fun b a w G=>?_|(refine W.nn hK ?_;clear hK K)|refine W.nl ?_|refine W.al fun b a w G=>?_|refine W.st fun w=>?_|refine W.stp fun w=>?_|refine W.ste ?_ fun w=>?_)|((with_reducible refine gC_ ?_);first|with_reducible refine W.cbt (by first|assumption|(simp [e0];done)|fail) ?_|with_reducible refine W.cbf (by first|assumption|(simp [e0];done)|fail) ?_|with_reducible refine W.gcc 6 ?_|with_reducible refine W.gcd 6 ?_|refine W.reg fun K hK=>?_|refine W.reg1 ?_|refine W.sq fun K hK=>?_|refine W.ds ?_ (fun β a w G hu=>W.fin ?_ hu) mixedOrders (by kernel_rfl)|refine W.sk ?_|refine W.cd (fun hc=>?_) (fun hc=>?_)|refine W.cb (fun hc=>?_) (fun hc=>?_)|refine W.bl ?_|refine W.ex ?_|refine W.rt ?_)|((with_reducible refine W.kn hK ?_);clear hK K)|(with_reducible first|refine W.bn ?_|refine W.xt ?_|refine W.xb ?_|refine W.xo ?_|refine W.tr ?_|refine W.br ?_)|refine W.rt1 rfl ?_|refine W.rt2 rfl ?_ ?_|refine W.rt3 rfl ?_ ?_ ?_)|clear hK K|clear hu|exact True.intro|exact Nat.le_trans (by clear hp;omega) hp|exact Nat.le_trans (by clear hp;omega) hp.1|exact Nat.le_trans (by clear hp;omega) hp.2|(clear hp;omega)|apply And.intro|refine GI.i fun _=>?_|with_reducible rfl|decide|(simp only [List.length_cons,List.length_nil];omega))
  all_goals first
    | omega
    | (simp [e0];done)
    | exact e1
    | exact e2
    | exact trn_of
    | rfl
    | exact e2
    | skip
theorem shortSliderRationalC {rx t r0 r1 : FR} {h : Bool} : Con Tryz.prog 6 [FX 64 rx,TRN 64 t h,AR 6 (some 3) ([r0,r1].map (FX 64))] (shortF [rx,t,r0,r1] = true ∧ ((trnF h t && posR rx && r0.ok && r1.ok) = true ∧ slC (FR.of (rx.val * rx.val)) (FR.of (d2F (r0.val - rx.val * dirC h t.val) (r1.val - rx.val * dirS h t.val))) r1 ≠ 0)) (BT true):=.o3 fun hok h1 h2 h3 hp=>by
  refine St.enter (N:=149) Tryz.func6 rfl rfl rfl hok (enter3 h1 h2 h3) fun a=>?_
  have e0:=hp.1
  have e1:=hp.2.1
  have e2:=(ra_g e1).1
  have e3:=(ra_g e1).2.1
  have e4:=(ra_g e1).2.2.1
  have e5:=(ra_g e1).2.2.2
  have e6 : rx.ok = true ∧ 0 < rx.val:=by unfold posR at e3;simpa using e3
  have e7:=hp.2.2
  have e8 : ¬ rx.val.num.sign ≤ 0:=by have:=Int.sign_eq_one_of_pos ((rat_pos_iff (x:=rx.val)).1 e6.2);omega
  repeat' (first|((with_reducible refine gS_ ?_);first|((with_reducible refine gL_ ?_);first|refine W.run ?_ fun a w G=>?_|refine W.mv fun a w G=>?_|refine W.asg fun a w G=>?_|refine W.bx fun b a w G=>?_|(refine W.nn hK ?_;clear hK K)|refine W.nl ?_|refine W.al fun b a w G=>?_|refine W.st fun w=>?_|refine W.stp fun w=>?_|refine W.ste ?_ fun w=>?_)|((with_reducible refine gC_ ?_);first|with_reducible refine W.cbt (by first|assumption|(simp [e0,e2,e4,e5,e6.1,e7,e8];done)|fail) ?_|with_reducible refine W.cbf (by first|assumption|(simp [e0,e2,e4,e5,e6.1,e7,e8];done)|fail) ?_|with_reducible refine W.gcc 6 ?_|with_reducible refine W.gcd 6 ?_|refine W.reg fun K hK=>?_|refine W.reg1 ?_|refine W.sq fun K hK=>?_|refine W.ds ?_ (fun β a w G hu=>W.fin ?_ hu) mixedOrders (by kernel_rfl)|refine W.sk ?_|refine W.cd (fun hc=>?_) (fun hc=>?_)|refine W.cb (fun hc=>?_) (fun hc=>?_)|refine W.bl ?_|refine W.ex ?_|refine W.rt ?_)|((with_reducible refine W.kn hK ?_);clear hK K)|(with_reducible first|refine W.bn ?_|refine W.xt ?_|refine W.xb ?_|refine W.xo ?_|refine W.tr ?_|refine W.br ?_)|refine W.rt1 rfl ?_|refine W.rt2 rfl ?_ ?_|refine W.rt3 rfl ?_ ?_ ?_)|clear hK K|clear hu|exact True.intro|exact Nat.le_trans (by clear hp;omega) hp|exact Nat.le_trans (by clear hp;omega) hp.1|exact Nat.le_trans (by clear hp;omega) hp.2|(clear hp;omega)|apply And.intro|refine GI.i fun _=>?_|with_reducible rfl|decide|(simp only [List.length_cons,List.length_nil];omega))
  all_goals first
    | omega
    | (simp [e0,e2,e4,e5,e6.1,e7,e8];done)
    | exact e1
    | exact e2
    | exact trn_of
    | rfl
    | skip
theorem shortSliderRationalD {rx t r0 r1 : FR} {h : Bool} : Con Tryz.prog 6 [FX 64 rx,TRN 64 t h,AR 6 (some 3) ([r0,r1].map (FX 64))] (shortF [rx,t,r0,r1] = true ∧ ((trnF h t && posR rx && r0.ok && r1.ok) = true ∧ slC (FR.of (rx.val * rx.val)) (FR.of (d2F (r0.val - rx.val * dirC h t.val) (r1.val - rx.val * dirS h t.val))) r1 = 0)) (BT true):=.o3 fun hok h1 h2 h3 hp=>by
  obtain ⟨x0,rfl⟩:=(ar_self h3).1 (ra_g hp.2.1).2.2.1
  have hr1:=(ar_self h3).2 (ra_g hp.2.1).2.2.2
  refine St.enter (N:=149) Tryz.func6 rfl rfl rfl hok (enter3 h1 h2 h3) fun a=>?_
  have e0:=hp.1
  have e1:=hp.2.1
  have e2:=(ra_g e1).1
  have e3:=(ra_g e1).2.1
  have e4:=(ra_g e1).2.2.1
  have e5:=(ra_g e1).2.2.2
  have e6 : rx.ok = true ∧ 0 < rx.val:=by unfold posR at e3;simpa using e3
  have e7:=hp.2.2
  have e8 : ¬ rx.val.num.sign ≤ 0:=by have:=Int.sign_eq_one_of_pos ((rat_pos_iff (x:=rx.val)).1 e6.2);omega
  have e9:=ra_e2 e6.2 hr1 e7 e2
  have ea:=ra_h2 (rx:=rx) (r0:=FR.of x0) (t:=t) (h:=h) hr1
  have eb:=ra_hc2 (rx:=rx) (t:=t) (h:=h) e4 e7
  have ec:=ra_v2 hr1 e7 e2 e9
  have ed:=ra_found2 (r0:=FR.of x0) e6.2 rfl hr1 e7 e2
  repeat' (first|((with_reducible refine gS_ ?_);first|((with_reducible refine gL_ ?_);first|refine W.run ?_ fun a w G=>?_|refine W.mv fun a w G=>?_|refine W.asg fun a w G=>?_|refine W.bx fun b a w G=>?_|(refine W.nn hK ?_;clear hK K)|refine W.nl ?_|refine W.al fun b a w G=>?_|refine W.st fun w=>?_|refine W.stp fun w=>?_|refine W.ste ?_ fun w=>?_)|((with_reducible refine gC_ ?_);first|with_reducible refine W.cbt (by first|assumption|(simp [e0,e2,e4,e5,e6.1,e7,e8,e9,ea,eb];done)|fail) ?_|with_reducible refine W.cbf (by first|assumption|(simp [e0,e2,e4,e5,e6.1,e7,e8,e9,ea,eb];done)|fail) ?_|with_reducible refine W.gcc 6 ?_|with_reducible refine W.gcd 6 ?_|refine W.reg fun K hK=>?_|refine W.reg1 ?_|refine W.sq fun K hK=>?_|refine W.ds ?_ (fun β a w G hu=>W.fin ?_ hu) mixedOrders (by kernel_rfl)|refine W.sk ?_|refine W.cd (fun hc=>?_) (fun hc=>?_)|refine W.cb (fun hc=>?_) (fun hc=>?_)|refine W.bl ?_|refine W.ex ?_|refine W.rt ?_)|((with_reducible refine W.kn hK ?_);clear hK K)|(with_reducible first|refine W.bn ?_|refine W.xt ?_|refine W.xb ?_|refine W.xo ?_|refine W.tr ?_|refine W.br ?_)|refine W.rt1 rfl ?_|refine W.rt2 rfl ?_ ?_|refine W.rt3 rfl ?_ ?_ ?_)|refine W.lp 128 (α:=Nat) (fun j=>(slL (FR.of (rx.val * rx.val)) (FR.of (d2F ((FR.of x0).val - rx.val * dirC h t.val) (r1.val - rx.val * dirS h t.val))) r1 h t).length - j) (fun j=>j ≤ (slL (FR.of (rx.val * rx.val)) (FR.of (d2F ((FR.of x0).val - rx.val * dirC h t.val) (r1.val - rx.val * dirS h t.val))) r1 h t).length) [6,17,19,20,21,127,128,129,130,131,132,133,134,135,136,137,138,139,140,141,142,143,144,145,146,147] (fun j=>[(127,NT j),(17,BT (fndF (slR (FR.of (rx.val * rx.val)) (FR.of (d2F ((FR.of x0).val - rx.val * dirC h t.val) (r1.val - rx.val * dirS h t.val))) r1 h t) (slL (FR.of (rx.val * rx.val)) (FR.of (d2F ((FR.of x0).val - rx.val * dirC h t.val) (r1.val - rx.val * dirS h t.val))) r1 h t) x0 j))]) (fun j=>[]) (0) ?_ ?_ ?_ fun j hj a w G=>?_|refine W.ag (x:=j) (j+1) ?_ ?_ ?_ ?_|clear hK K|clear hu|exact True.intro|exact Nat.le_trans (by clear hp;omega) hp|exact Nat.le_trans (by clear hp;omega) hp.1|exact Nat.le_trans (by clear hp;omega) hp.2|(clear hp;omega)|apply And.intro|refine GI.i fun _=>?_|with_reducible rfl|decide|(simp only [List.length_cons,List.length_nil];omega))
  all_goals first
    | omega
    | (simp [e0,e2,e4,e5,e6.1,e7,e8,e9,ea,eb];done)
    | exact e1
    | exact e2
    | exact trn_of
    | rfl
    | exact ec.1
    | exact ec.2.2.2 j (by omega)
    | exact pw1k
    | exact fnd_go (by omega)
    | exact fnd_0.symm
    | exact fnd_0
    | exact fnd_end (by omega) ed
    | (exact Nat.le_trans (sB_ups (m:=2) ec.2.1) (by rw [sB2];decide))
    | (exact Nat.le_trans (sB_ups (m:=2) ec.2.1) (by rw [sB2];omega))
    | skip
theorem longSliderRational {rx t r0 r1 : FR} {h : Bool} : Con Tryz.prog 6 [RX rx,PTS [(some 3,RX t),(none,BT h)],AR 6 (some 3) ([r0,r1].map RX)] (shortF [rx,t,r0,r1] = false) (BT true):=.o3 fun hok h1 h2 h3 hp=>by
  refine St.enter (N:=149) Tryz.func6 rfl rfl rfl hok (enter3 h1 h2 h3) fun a=>?_
  repeat' (first|refine W.cbt (long1_5 hp) ?_|((with_reducible refine gS_ ?_);first|((with_reducible refine gL_ ?_);first|refine W.run ?_ fun a w G=>?_|refine W.mv fun a w G=>?_|refine W.asg fun a w G=>?_|refine W.bx fun b a w G=>?_|(refine W.nn hK ?_;clear hK K)|refine W.nl ?_|refine W.al fun b a w G=>?_|refine W.st fun w=>?_|refine W.stp fun w=>?_|refine W.ste ?_ fun w=>?_)|((with_reducible refine gC_ ?_);first|refine W.reg fun K hK=>?_|refine W.reg1 ?_|refine W.sq fun K hK=>?_|refine W.ds ?_ (fun β a w G hu=>W.fin ?_ hu) mixedOrders (by kernel_rfl)|refine W.sk ?_|refine W.cd (fun hc=>?_) (fun hc=>?_)|refine W.cb (fun hc=>?_) (fun hc=>?_)|refine W.bl ?_|refine W.ex ?_|refine W.rt ?_)|((with_reducible refine W.kn hK ?_);clear hK K)|(with_reducible first|refine W.bn ?_|refine W.xt ?_|refine W.xb ?_|refine W.xo ?_|refine W.tr ?_|refine W.br ?_)|refine W.rt1 rfl ?_|refine W.rt2 rfl ?_ ?_|refine W.rt3 rfl ?_ ?_ ?_)|clear hK K|clear hu|exact True.intro|exact Nat.le_trans (by clear hp;omega) hp|exact Nat.le_trans (by clear hp;omega) hp.1|exact Nat.le_trans (by clear hp;omega) hp.2|(clear hp;omega)|apply And.intro|refine GI.i fun _=>?_|with_reducible rfl|decide|(simp only [List.length_cons,List.length_nil];omega))
  all_goals first | exact (gi1_0 hp (by assumption)).elim | exact (gi1_1 hp (by assumption)).elim | exact (gi1_2 hp (by assumption)).elim | exact (gi1_3 hp (by assumption)).elim | exact (gi1_4 hp (by assumption)).elim | skip
theorem lawSliderRational {rx t r0 r1 : FR} {h : Bool} {w : World} {G : Gh} {v1 v2 v3 : Value} (hok : Gok w G) (h1 : (RX rx).t v1 G) (h2 : (PTS [(some 3,RX t),(none,BT h)]).t v2 G) (h3 : (AR 6 (some 3) ([r0,r1].map RX)).t v3 G) : Calls Tryz.prog 6 #[v1,v2,v3] w (Ret w G (BT true)):=by
  cases hs : shortF [rx,t,r0,r1] with
  | true =>
    have hq:=hs
    (try simp only [shortF,List.all_cons,List.all_nil,Bool.and_true,Bool.and_eq_true] at hq)
    have hcs : ((trnF h t && posR rx && r0.ok && r1.ok) = false) ∨ ((trnF h t && posR rx && r0.ok && r1.ok) = true ∧ slC (FR.of (rx.val * rx.val)) (FR.of (d2F (r0.val - rx.val * dirC h t.val) (r1.val - rx.val * dirS h t.val))) r1 ≠ 0) ∨ ((trnF h t && posR rx && r0.ok && r1.ok) = true ∧ slC (FR.of (rx.val * rx.val)) (FR.of (d2F (r0.val - rx.val * dirC h t.val) (r1.val - rx.val * dirS h t.val))) r1 = 0):=by
      cases e : (trnF h t && posR rx && r0.ok && r1.ok) with
      | false=>exact .inl rfl
      | true =>
        by_cases e2 : slC (FR.of (rx.val * rx.val)) (FR.of (d2F (r0.val - rx.val * dirC h t.val) (r1.val - rx.val * dirS h t.val))) r1 = 0
        · exact .inr (.inr ⟨rfl,e2⟩)
        · exact .inr (.inl ⟨rfl,e2⟩)
    rcases hcs with hcs | hcs | hcs
    · exact shortSliderRationalB.c3 hok (NS.h (τ':=FX 64 rx) (by (try simp only [and_true,true_and]);grind) h1) (NS.h (τ':=TRN 64 t h) (by (try simp only [and_true,true_and]);grind) h2) (NS.h (τ':=AR 6 (some 3) ([r0,r1].map (FX 64))) (by (try simp only [and_true,true_and]);grind) h3) ⟨hs,hcs⟩
    · exact shortSliderRationalC.c3 hok (NS.h (τ':=FX 64 rx) (by (try simp only [and_true,true_and]);grind) h1) (NS.h (τ':=TRN 64 t h) (by (try simp only [and_true,true_and]);grind) h2) (NS.h (τ':=AR 6 (some 3) ([r0,r1].map (FX 64))) (by (try simp only [and_true,true_and]);grind) h3) ⟨hs,hcs⟩
    · exact shortSliderRationalD.c3 hok (NS.h (τ':=FX 64 rx) (by (try simp only [and_true,true_and]);grind) h1) (NS.h (τ':=TRN 64 t h) (by (try simp only [and_true,true_and]);grind) h2) (NS.h (τ':=AR 6 (some 3) ([r0,r1].map (FX 64))) (by (try simp only [and_true,true_and]);grind) h3) ⟨hs,hcs⟩
  | false=>exact longSliderRational.c3 hok h1 h2 h3 hs
theorem lawSliderRationalA {rx t : FR} {h : Bool} {l : List FR} {w : World} {G : Gh} {v1 v2 v3 : Value} (hok : Gok w G) (h1 : (RX rx).t v1 G) (h2 : (PTS [(some 3,RX t),(none,BT h)]).t v2 G) (h3 : (AR 6 (some 3) (l.map RX)).t v3 G) (he : l.length = 2) : Calls Tryz.prog 6 #[v1,v2,v3] w (Ret w G (BT true)):=by
  match l,he with
  | [r0,r1],_=>exact lawSliderRational hok h1 h2 h3
end Go.Proofs.YtnjbcjmkkejfpaaGreat
namespace Go.Proofs.YtnjbcjmkkejfpaaGreat
open Go.RowKit (Below)
def G0of (W : World) : Gh:=fun b=>W.heap[b]?
theorem G0of_ok (W : World) : Gok W (G0of W):=fun _ _ h=>h
theorem Gc_G0 {W : World} {b i : Nat} : Gc (G0of W) b i = W.cell? ⟨b,i,none⟩:=by
  unfold Gc G0of World.cell?;cases W.heap[b]? with
  | none=>rfl
  | some o=>cases o <;> rfl
def RdA (P : Program) (W : World) (t : TypeId) (k : Option Nat) (A : MT → Prop) : Prop:=∀ (H : Type) (enc : TypeId × Value → H) (fuel : Nat) (cs : List Value) (x : DataW H × List MemPlace),
  DataW.trod enc P W 0 (fun _=>true) true fuel t cs = some x → (x.1.weights P t).all (· ≤ reachBytes) = true → ∃ (v : Value) (τ : MT),A τ ∧ v.cells.toList = cs ∧ Shaped k v ∧ τ.t v (G0of W)
section
variable {P : Program} {W : World} {t e : TypeId} {k : Option Nat} {A A' : MT → Prop}
theorem RdA.mono (h : RdA P W t k A) (hA : ∀ τ v,A τ → τ.t v (G0of W) → ∃ σ,A' σ ∧ σ.t v (G0of W)) : RdA P W t k A':=fun H enc fuel cs x hx hw=>by
  obtain ⟨v,τ,h1,h2,h3,h4⟩:=h H enc fuel cs x hx hw
  obtain ⟨σ,h5,h6⟩:=hA τ v h1 h4
  exact ⟨v,σ,h5,h2,h3,h6⟩
theorem rd_bool (ht : P.underlying t = some .bool) : RdA P W t none (fun τ=>∃ b,τ = .ex (.bool b)):=fun H enc fuel cs x hx hw=>by
  obtain ⟨b,rfl,rfl⟩:=DataW.trod_bool ht hx
  exact ⟨.bool b,_,⟨b,rfl⟩,rfl,⟨rfl,rfl⟩,rfl⟩
theorem rd_int {kk : IntKind} (ht : P.underlying t = some (.int kk)) : RdA P W t none (fun τ=>∃ z,(Lit.int kk z).wf = true ∧ τ = .ex (.int kk z)):=fun H enc fuel cs x hx hw=>by
  obtain ⟨z,rfl,rfl,h⟩:=DataW.trod_int ht hx
  exact ⟨.int kk z,_,⟨z,h,rfl⟩,rfl,⟨rfl,rfl⟩,rfl⟩
theorem rd_i64 (ht : P.underlying t = some (.int .i64)) : RdA P W t none (fun τ=>∃ z : Int,τ = .ex (.int .i64 z)):=(rd_int ht).mono fun τ v ⟨z,_,e⟩ hv=>⟨τ,⟨z,e⟩,hv⟩
theorem rd_u8 (ht : P.underlying t = some (.int .u8)) : RdA P W t none (fun τ=>∃ z : Fin 256,τ = .ex (.int .u8 ((z.val : Nat) : Int))):=(rd_int ht).mono fun τ v ⟨z,hz,e⟩ hv=>by
  have h0 : (0 : Int) ≤ z:=of_decide_eq_true (Bool.and_eq_true_iff.1 hz).1
  have h1 : z ≤ 255:=of_decide_eq_true (Bool.and_eq_true_iff.1 hz).2
  refine ⟨τ,⟨⟨z.toNat,by omega⟩,?_⟩,hv⟩
  rw [e];show _ = MT.ex (.int .u8 ((z.toNat : Nat) : Int));rw [Int.toNat_of_nonneg h0]
theorem cells_get {a : Addr} {n : Nat} {L : List Value} (h : W.cells? 0 a n = some L) : L.length = n ∧ ∀ j,j < n → W.cell? (a.add j) = L[j]?:=by
  unfold World.cells? at h
  rw [if_pos (Nat.zero_le _)] at h
  exact ⟨by simpa using mapM_some_length h,fun j hj=>mapM_some_get h j j (by simp [hj])⟩
theorem weightsAll_mem {H : Type} {es : List (DataW H)} {d : DataW H} {i : Nat} (hi : es[i]? = some d) : ∀ n ∈ d.weights P e,n ∈ DataW.weightsAll P e es:=by
  induction es generalizing i with
  | nil=>simp at hi
  | cons x r ih =>
    intro n hn
    rw [DataW.weightsAll,List.mem_append]
    cases i with
    | zero=>simp at hi;subst hi;exact .inl hn
    | succ j=>exact .inr (ih (by simpa using hi) n hn)
theorem rd_sliceB (ht : P.underlying t = some (.slice e)) (hc : P.cellsOf e = k.getD 1) (hc0 : 0 < k.getD 1) (hb : 4 ≤ P.bytesOf e) (h : RdA P W e k A) : RdA P W t none (fun τ=>∃ τs,(∀ σ ∈ τs,A σ) ∧ τs.length * P.bytesOf e ≤ 140737488351232 ∧ τ = LS k τs):=fun H enc fuel cs x hx hw=>by
  rcases DataW.trod_slice ht hx with ⟨rfl,rfl⟩ | ⟨a,len,cap,elems,rest,n,rfl,rfl,rfl,hb0,hlc,hcm,hel,hE,_,_⟩
  · exact ⟨.slice none 0 0,LS k [],⟨[],by simp,by simp,rfl⟩,rfl,⟨rfl,rfl⟩,LS.nil⟩
  · simp only [DataW.weights,ht,List.all_cons,List.all_append,Bool.and_eq_true,decide_eq_true_eq] at hw
    obtain ⟨hw1,hw2,_⟩:=hw
    have hlim : len ≤ LIM:=by
      have h1 : len * 4 ≤ ((elems.map (·.1)).length + (rest.map (·.1)).length) * P.bytesOf e:=Nat.mul_le_mul (by simp;omega) hb
      have h2 : reachBytes = 140737488351232:=rfl
      simp only [LIM];omega
    have hby : len * P.bytesOf e ≤ 140737488351232:=by
      have h1 : len * P.bytesOf e ≤ ((elems.map (·.1)).length + (rest.map (·.1)).length) * P.bytesOf e:=Nat.mul_le_mul_right _ (by simp;omega)
      have h2 : reachBytes = 140737488351232:=rfl
      omega
    have each : ∀ i,∃ (v : Value) (τ : MT),i < len → W.cells? 0 (a.add (i * k.getD 1)) (k.getD 1) = some v.cells.toList ∧ A τ ∧ Shaped k v ∧ τ.t v (G0of W):=fun i=>by
      by_cases hi : i < len
      · have h1:=hE i hi
        rw [List.getElem?_eq_getElem (by omega),Option.bind_eq_some_iff,hc] at h1
        obtain ⟨cs',h2,h3⟩:=h1
        obtain ⟨v,τ,h4,h5,h6,h7⟩:=h H enc n cs' _ h3 (List.all_eq_true.2 fun m hm=>List.all_eq_true.1 hw2 m (weightsAll_mem (i:=i) (by rw [List.getElem?_map,List.getElem?_eq_getElem (by omega)];rfl) m hm))
        exact ⟨v,τ,fun _=>⟨by rw [h5];exact h2,h4,h6,h7⟩⟩
      · exact ⟨undef,.ex undef,fun h=>absurd h hi⟩
    obtain ⟨f,g,hfg⟩ : ∃ (f : Nat → Value) (g : Nat → MT),∀ i,i < len → W.cells? 0 (a.add (i * k.getD 1)) (k.getD 1) = some (f i).cells.toList ∧ A (g i) ∧ Shaped k (f i) ∧ (g i).t (f i) (G0of W):=⟨fun i=>(each i).choose,fun i=>(each i).choose_spec.choose,fun i=>(each i).choose_spec.choose_spec⟩
    refine ⟨.slice (some a) len cap,LS k ((List.range len).map g),⟨_,fun σ hσ=>?_,by simpa using hby,rfl⟩,rfl,⟨rfl,rfl⟩,LS.of_vals (us:=(List.range len).map f) (A:=some a) (c:=cap) (by simp) (by simpa using hlc) (by simpa using hlim) ⟨by simp,fun i τ u hi hu=>?_⟩ fun i u hu=>?_⟩
    · obtain ⟨i,hi,rfl⟩:=List.mem_map.1 hσ
      exact (hfg i (by simpa using hi)).2.1
    · have hlt : i < len:=by have:=(List.getElem?_eq_some_iff.1 hi).1;simpa using this
      simp [List.getElem?_range hlt] at hi hu
      subst hi;subst hu
      exact (hfg i hlt).2.2
    · have hlt : i < len:=by have:=(List.getElem?_eq_some_iff.1 hu).1;simpa using this
      simp [List.getElem?_range hlt] at hu
      subst hu
      obtain ⟨h1,h2,h3,h4⟩:=hfg i hlt
      obtain ⟨h5,h6⟩:=cells_get h1
      obtain ⟨g5,g6⟩:=cells_get (hfg 0 (by omega)).1
      obtain ⟨b,off,spot⟩:=a
      have h7:=g6 0 hc0
      rw [List.getElem?_eq_getElem (by omega)] at h7
      have hs : spot = none:=by simpa [Addr.add] using World.cell?_spot h7
      subst hs
      refine ⟨b,off,rfl,fun j x hj=>?_⟩
      have hjl : j < k.getD 1:=by have:=(Array.getElem?_eq_some_iff.1 hj).1;rw [← h5,Array.length_toList];exact this
      have h8:=h6 j hjl
      rw [Gc_G0]
      rw [addr_add,addr_add,Array.getElem?_toList,hj] at h8
      exact h8
theorem rd_slice (ht : P.underlying t = some (.slice e)) (hc : P.cellsOf e = k.getD 1) (hc0 : 0 < k.getD 1) (hb : 4 ≤ P.bytesOf e) (h : RdA P W e k A) : RdA P W t none (fun τ=>∃ τs,(∀ σ ∈ τs,A σ) ∧ τ = LS k τs) :=
  (rd_sliceB ht hc hc0 hb h).mono fun τ v ⟨τs,h1,_,h2⟩ hv=>⟨τ,⟨τs,h1,h2⟩,hv⟩
theorem forall_map {α : Type} {T : α → MT} {τs : List MT} (h : ∀ σ ∈ τs,∃ x,σ = T x) : ∃ xs : List α,τs = xs.map T:=by
  induction τs with
  | nil=>exact ⟨[],rfl⟩
  | cons a r ih =>
    obtain ⟨l,rfl⟩:=ih fun σ h'=>h σ (List.mem_cons_of_mem _ h')
    obtain ⟨x,rfl⟩:=h a (List.mem_cons_self ..)
    exact ⟨x :: l,rfl⟩
theorem forall_map' {α : Type} {T : α → MT} {p : α → Prop} {τs : List MT} (h : ∀ σ ∈ τs,∃ x,p x ∧ σ = T x) : ∃ xs : List α,τs = xs.map T ∧ ∀ x ∈ xs,p x:=by
  induction τs with
  | nil=>exact ⟨[],rfl,by simp⟩
  | cons a r ih =>
    obtain ⟨l,rfl,hl⟩:=ih fun σ h'=>h σ (List.mem_cons_of_mem _ h')
    obtain ⟨x,hx,rfl⟩:=h a (List.mem_cons_self ..)
    exact ⟨x :: l,rfl,by simpa using ⟨hx,hl⟩⟩
theorem rd_words (ht : P.underlying t = some (.slice e)) (hu : P.underlying e = some (.int .u32)) (hc : P.cellsOf e = 1) (hb : 4 ≤ P.bytesOf e) : RdA P W t none (fun τ=>∃ l,τ = SL l):=by
  have h1 : RdA P W e none (fun τ=>∃ x : Nat,x < 4294967296 ∧ τ = .ex (u32 x)):=(rd_int hu).mono fun τ v ⟨z,hz,hτ⟩ hv=>by
    subst hτ
    have hm : IntKind.u32.min = 0:=by decide
    have hM : IntKind.u32.max = 4294967295:=by decide
    simp [Lit.wf,hm,hM] at hz
    exact ⟨_,⟨z.toNat,by omega,rfl⟩,by
      have : (z.toNat : Int) = z:=by omega
      show v = .int .u32 (z.toNat : Int);rw [this];exact hv⟩
  refine (rd_slice (k:=none) ht hc (by decide) hb h1).mono fun τ v ⟨τs,hσ,hτ⟩ hv=>?_
  subst hτ
  obtain ⟨l,hl,hlt⟩:=forall_map' hσ
  subst hl
  obtain ⟨A,c,us,h2,h3,h4,h5,h6⟩:=LS.vals hv
  rw [List.length_map] at h2 h3 h4
  refine ⟨_,⟨l,rfl⟩,A,c,h2,h3,h4,hlt,fun i x hi=>?_⟩
  have hil:=(List.getElem?_eq_some_iff.1 hi).1
  have hul : i < us.length:=by rw [h5.1,List.length_map];exact hil
  have hui : us[i]? = some us[i]:=by rw [List.getElem?_eq_getElem hul]
  have h7:=(h5.2 i (.ex (u32 x)) us[i] (by rw [List.getElem?_map,hi];rfl) hui).2
  obtain ⟨b,off,e1,h8⟩:=h6 i us[i] hui
  refine ⟨b,off,e1,?_⟩
  have h9 : us[i] = u32 x:=h7
  rw [h9] at h8
  simpa using h8 0 (u32 x) rfl
def FldOk (P : Program) (W : World) : Nat → List Field → List (Option Nat × (MT → Prop)) → Prop
  | _,[],[]=>True
  | off,f :: fs,a :: As=>f.offset = off ∧ P.cellsOf f.type = a.1.getD 1 ∧ RdA P W f.type a.1 a.2 ∧ FldOk P W (off + a.1.getD 1) fs As
  | _,_,_=>False
def Mt : List (Option Nat × (MT → Prop)) → List (Option Nat × MT) → Prop
  | [],[]=>True
  | a :: As,f :: F=>f.1 = a.1 ∧ a.2 f.2 ∧ Mt As F
  | _,_=>False
def tot (As : List (Option Nat × (MT → Prop))) : Nat:=(As.map fun a=>a.1.getD 1).sum
theorem Mt.tot : ∀ {As : List (Option Nat × (MT → Prop))} {F : List (Option Nat × MT)},Mt As F → (F.map fun f=>f.1.getD 1).sum = Go.Proofs.YtnjbcjmkkejfpaaGreat.tot As
  | [],[],_=>rfl
  | a :: As,f :: F,h=>by
    have:=Mt.tot h.2.2
    simp only [Go.Proofs.YtnjbcjmkkejfpaaGreat.tot,List.map_cons,List.sum_cons,h.1] at this ⊢
    rw [this]
  | [],_ :: _,h=>h.elim
  | _ :: _,[],h=>h.elim
theorem rd_fields {H : Type} {enc : TypeId × Value → H} {n : Nat} {cs : List Value} : ∀ (fs : List Field) (As : List (Option Nat × (MT → Prop))) (xs : List (DataW H × List MemPlace)) (off : Nat), FldOk P W off fs As → xs.length = fs.length →
    (∀ (i : Nat) (f : Field),fs[i]? = some f → DataW.trod enc P W 0 (fun _=>true) true n f.type ((cs.drop f.offset).take (P.cellsOf f.type)) = xs[i]?) → (DataW.weightsEach P (fs.map (·.type)) (xs.map (·.1))).all (· ≤ reachBytes) = true → cs.length = off + tot As →
    ∃ us F,Mt As F ∧ flat us = cs.drop off ∧ us.length = F.length ∧ ∀ (i : Nat) (f : Option Nat × MT) (u : Value),F[i]? = some f → us[i]? = some u → Shaped f.1 u ∧ f.2.t u (G0of W)
  | [],[],xs,off,_,_,_,_,hl=>⟨[],[],trivial,by rw [List.drop_eq_nil_of_le (by rw [hl];simp [tot])];rfl,rfl,fun i f u h=>by simp at h⟩
  | f :: fs,a :: As,[],off,_,hx,_,_,_=>by simp at hx
  | f :: fs,a :: As,x :: xs,off,hF,hx,hT,hw,hl=>by
    obtain ⟨h1,h2,h3,h4⟩:=hF
    simp only [List.map_cons,DataW.weightsEach,List.all_append,Bool.and_eq_true] at hw
    obtain ⟨v,τ,h5,h6,h7,h8⟩:=h3 H enc n _ x (hT 0 f rfl) hw.1
    obtain ⟨us,F,g1,g2,g3,g4⟩:=rd_fields fs As xs (off + a.1.getD 1) h4 (by simpa using hx) (fun i g hg=>by simpa using hT (i + 1) g (by simpa using hg)) hw.2 (by rw [hl];simp [tot];omega)
    refine ⟨v :: us,(a.1,τ) :: F,⟨rfl,h5,g1⟩,?_,by simp [g3],fun i f' u hf hu=>?_⟩
    · rw [flat_cons,h6,g2,h1,h2,← List.drop_drop,List.take_append_drop]
    · cases i with
      | zero=>simp at hf hu;subst hf;subst hu;exact ⟨h7,h8⟩
      | succ i=>exact g4 i f' u (by simpa using hf) (by simpa using hu)
  | [],_ :: _,_,_,h,_,_,_,_=>h.elim
  | _ :: _,[],_,_,h,_,_,_,_=>h.elim
theorem rd_struct {fs : Array Field} {As : List (Option Nat × (MT → Prop))} {n : Nat} (ht : P.underlying t = some (.struct fs)) (hn : P.cellsOf t = n) (hnA : tot As = n) (hF : FldOk P W 0 fs.toList As) : RdA P W t (some n) (fun τ=>∃ F,Mt As F ∧ τ = PTS F):=fun H enc fuel cs x hx hw=>by
  obtain ⟨xs,m,rfl,rfl,hl,hxl,hT⟩:=DataW.trod_struct ht hx
  simp only [DataW.weights,ht] at hw
  obtain ⟨us,F,h1,h2,h3,h4⟩:=rd_fields fs.toList As xs 0 hF (by simpa using hxl) (fun i f hf=>hT i f (by simpa using hf)) hw (by omega)
  have hP : (PTS F).t (.agg (flat us).toArray) (G0of W):=⟨us,rfl,h3,h4⟩
  refine ⟨.agg (flat us).toArray,PTS F,⟨F,h1,rfl⟩,by rw [h2];rfl,PTS.shaped (by unfold offs;rw [List.take_length,h1.tot,hnA]) hP,hP⟩
theorem shaped1 {u : Value} (h : Shaped none u) : u.cells = #[u]:=h.1
theorem PTS.toQR {s : Bool} {p q : List Nat} {v : Value} {G : Gh} (h : (PTS [(none,.ex (.bool s)),(none,SL p),(none,SL q)]).t v G) : (QR s p q).t v G:=by
  obtain ⟨us,rfl,hl,h⟩:=h
  match us,hl,h with
  | [u0,u1,u2],_,h =>
    obtain ⟨a0,b0⟩:=h 0 _ u0 rfl rfl
    obtain ⟨a1,b1⟩:=h 1 _ u1 rfl rfl
    obtain ⟨a2,b2⟩:=h 2 _ u2 rfl rfl
    refine ⟨u1,u2,?_,b1,b2⟩
    have e0 : u0 = .bool s:=b0
    simp only [flat,List.flatMap_cons,List.flatMap_nil,shaped1 a0,shaped1 a1,shaped1 a2]
    rw [e0];rfl
theorem rd_frac {fs : Array Field} {f0 f1 f2 : Field} {tw : TypeId} (ht : P.underlying t = some (.struct fs)) (hf : fs.toList = [f0, f1, f2]) (hn : P.cellsOf t = 3) (h0 : f0.offset = 0 ∧ P.cellsOf f0.type = 1 ∧ P.underlying f0.type = some .bool) (h1 : f1.offset = 1 ∧ f1.type = tw) (h2 : f2.offset = 2 ∧ f2.type = tw)
    (hw : P.underlying tw = some (.slice e) ∧ P.cellsOf tw = 1) (he : P.underlying e = some (.int .u32) ∧ P.cellsOf e = 1 ∧ 4 ≤ P.bytesOf e) : RdA P W t (some 3) (fun τ=>∃ r : FR,τ = QR r.s r.p r.q):=by
  have hW : RdA P W tw none (fun τ=>∃ l,τ = SL l):=rd_words hw.1 he.1 he.2.1 he.2.2
  refine (rd_struct (As:=[(none,fun τ=>∃ b,τ = .ex (.bool b)),(none,fun τ=>∃ l,τ = SL l),(none,fun τ=>∃ l,τ = SL l)]) ht hn rfl (by
    rw [hf];exact ⟨h0.1,h0.2.1,rd_bool h0.2.2,h1.1,by rw [h1.2];exact hw.2,by rw [h1.2];exact hW,h2.1,by rw [h2.2];exact hw.2,by rw [h2.2];exact hW,trivial⟩)).mono fun τ v ⟨F,hM,hτ⟩ hv=>?_
  subst hτ
  match F,hM with
  | [a,b,c],⟨a1,⟨s,a2⟩,b1,⟨p,b2⟩,c1,⟨q,c2⟩,_⟩ =>
    obtain ⟨a0,a'⟩:=a;obtain ⟨b0,b'⟩:=b;obtain ⟨c0,c'⟩:=c
    simp only at a1 a2 b1 b2 c1 c2
    subst a1;subst a2;subst b1;subst b2;subst c1;subst c2
    exact ⟨_,⟨⟨s,p,q⟩,rfl⟩,PTS.toQR hv⟩
theorem rd_list {α : Type} {T : α → MT} (ht : P.underlying t = some (.slice e)) (hc : P.cellsOf e = k.getD 1) (hc0 : 0 < k.getD 1) (hb : 4 ≤ P.bytesOf e) (h : RdA P W e k (fun τ=>∃ x,τ = T x)) : RdA P W t none (fun τ=>∃ xs : List α,τ = LS k (xs.map T)) :=
  (rd_slice ht hc hc0 hb h).mono fun τ v ⟨τs,hσ,hτ⟩ hv=>by
    obtain ⟨xs,rfl⟩:=forall_map hσ
    subst hτ
    exact ⟨_,⟨xs,rfl⟩,hv⟩
theorem rd_listB {α : Type} {T : α → MT} {c : Nat} (ht : P.underlying t = some (.slice e)) (hc : P.cellsOf e = k.getD 1) (hc0 : 0 < k.getD 1) (hb : 4 ≤ P.bytesOf e) (hbc : P.bytesOf e = c) (h : RdA P W e k (fun τ=>∃ x,τ = T x)) : RdA P W t none (fun τ=>∃ xs : { xs : List α // xs.length * c ≤ 140737488351232 },τ = LS k (xs.1.map T)) :=
  (rd_sliceB ht hc hc0 hb h).mono fun τ v ⟨τs,hσ,hl,hτ⟩ hv=>by
    obtain ⟨xs,rfl⟩:=forall_map hσ
    subst hτ
    rw [List.length_map,hbc] at hl
    exact ⟨_,⟨⟨xs,hl⟩,rfl⟩,hv⟩
theorem rd_arg {H : Type} {enc : TypeId × Value → H} {v : Value} {d : DataW H} {ps : List MemPlace} (h : RdA P W t k A) (hd : DataW.Trod enc P W 0 (fun _ => true) true t v d ps) (hw : (d.weights P t).all (· ≤ reachBytes) = true)
    (hv : match k with | none=>v.cells = #[v] | some _=>∃ cs,v = .agg cs) : ∃ τ,A τ ∧ Shaped k v ∧ τ.t v (G0of W):=by
  obtain ⟨fuel,hf⟩:=hd
  obtain ⟨u,τ,h1,h2,h3,h4⟩:=h H enc fuel _ _ hf hw
  have : u = v:=by
    cases k with
    | none =>
      have h5 : u.cells = #[u]:=h3.1
      rw [h5,hv] at h2
      simpa using h2
    | some n =>
      obtain ⟨cs,rfl⟩:=hv
      obtain ⟨cs',rfl,_⟩:=h3
      have : cs'.toList = cs.toList:=h2
      rw [Array.toList_inj.1 this]
  subst this
  exact ⟨τ,h1,h3,h4⟩
end
end Go.Proofs.YtnjbcjmkkejfpaaGreat
namespace Go.Proofs.YtnjbcjmkkejfpaaGreat
open Go.RowKit (Below)
section
variable {P : Program} {W : World} {t e : TypeId} {k : Option Nat} {A : MT → Prop}
theorem rd_elems {H : Type} {enc : TypeId × Value → H} {m : Nat} {cs : List Value} {c : Nat} (hc : P.cellsOf e = c) (hck : c = k.getD 1) (h : RdA P W e k A) : ∀ (n off : Nat) (xs : List (DataW H × List MemPlace)), xs.length = n →
    (∀ i,i < n → DataW.trod enc P W 0 (fun _=>true) true m e ((cs.drop (off + i * c)).take c) = xs[i]?) → (DataW.weightsAll P e (xs.map (·.1))).all (· ≤ reachBytes) = true → cs.length = off + n * c →
    ∃ us τs,(∀ σ ∈ τs,A σ) ∧ flat us = cs.drop off ∧ τs.length = n ∧ Els k τs us (G0of W)
  | 0,off,xs,_,_,_,hl=>⟨[],[],by simp,by rw [List.drop_eq_nil_of_le (by rw [hl];simp)];rfl,rfl,Els.nil⟩
  | n + 1,off,[],hx,_,_,_=>by simp at hx
  | n + 1,off,x :: xs,hx,hT,hw,hl=>by
    simp only [List.map_cons,DataW.weightsAll,List.all_append,Bool.and_eq_true] at hw
    obtain ⟨v,τ,h5,h6,h7,h8⟩:=h H enc m _ x (by simpa using hT 0 (by omega)) hw.1
    obtain ⟨us,τs,g1,g2,g3,g4⟩:=rd_elems hc hck h n (off + c) xs (by simpa using hx) (fun i hi=>by
      have:=hT (i + 1) (by omega)
      rw [show off + (i + 1) * c = off + c + i * c by rw [Nat.add_mul];omega] at this
      simpa using this) hw.2 (by rw [hl,Nat.add_mul];omega)
    refine ⟨v :: us,τ :: τs,fun σ hσ=>?_,?_,by simp [g3],?_⟩
    · rcases List.mem_cons.1 hσ with e1 | e1
      · rw [e1];exact h5
      · exact g1 σ e1
    · rw [flat_cons,h6,g2,← List.drop_drop,List.take_append_drop]
    · exact ⟨by simp [g4.1], fun i σ u hi hu => by
        cases i with
        | zero=>simp at hi hu;subst hi;subst hu;exact ⟨h7,h8⟩
        | succ j=>exact g4.2 j σ u (by simpa using hi) (by simpa using hu)⟩
theorem rd_array {n c : Nat} (ht : P.underlying t = some (.array n e)) (hc : P.cellsOf e = c) (hck : c = k.getD 1) (hn : P.cellsOf t = n * c) (h : RdA P W e k A) : RdA P W t (some (n * c)) (fun τ=>∃ τs,(∀ σ ∈ τs,A σ) ∧ τs.length = n ∧ τ = ARN k τs):=fun H enc fuel cs x hx hw=>by
  obtain ⟨xs,m,rfl,rfl,hl,hxl,hT⟩:=DataW.trod_array ht hx
  simp only [DataW.weights,ht] at hw
  obtain ⟨us,τs,h1,h2,h3,h4⟩:=rd_elems hc hck h n 0 xs hxl (fun i hi=>by simpa [hc] using hT i hi) hw (by omega)
  have hP : (ARN k τs).t (.agg (flat us).toArray) (G0of W):=⟨us,rfl,h4⟩
  have hs:=ARN.shaped hP
  rw [h3,← hck] at hs
  exact ⟨.agg (flat us).toArray,ARN k τs,⟨τs,h1,h3,rfl⟩,by rw [h2];rfl,hs,hP⟩
theorem okWide_array {r : Reach} {base : Nat} {v : Value} {n : Nat} (ht : P.underlying t = some (.array n e)) (h : Value.okWide P W r base t v) : ∃ cs,v = .agg cs ∧ cs.size = P.cellsOf t:=by
  simp only [Value.okWide,ht] at h
  obtain ⟨cs,h1,h2,_⟩:=h
  exact ⟨cs,h1,h2⟩
end
end Go.Proofs.YtnjbcjmkkejfpaaGreat
namespace Go.Proofs.YtnjbcjmkkejfpaaGreat
open Go.RowKit (Below)
theorem rd_arrN {P : Program} {W : World} {t e : TypeId} {k : Option Nat} {α : Type} {T : α → MT} {n c : Nat} (ht : P.underlying t = some (.array n e)) (hc : P.cellsOf e = c) (hck : c = k.getD 1) (hn : P.cellsOf t = n * c) (h : RdA P W e k (fun τ => ∃ x, τ = T x)) :
    RdA P W t (some (n * c)) (fun τ=>∃ x : { xs : List α // xs.length = n },τ = AR (n * c) k (x.1.map T)):=(rd_array ht hc hck hn h).mono fun τ v ⟨τs,h1,h2,e⟩ hv=>by
  subst e
  obtain ⟨xs,rfl⟩:=forall_map h1
  rw [List.length_map] at h2
  refine ⟨_,⟨⟨xs,h2⟩,rfl⟩,hv,?_⟩
  have:=ARN.shaped hv
  rwa [List.length_map,h2,← hck] at this
end Go.Proofs.YtnjbcjmkkejfpaaGreat
