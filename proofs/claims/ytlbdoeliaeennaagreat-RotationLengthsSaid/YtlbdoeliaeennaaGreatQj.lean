import Derived.Test.YtlbdoeliaeennaaGreatQi
set_option linter.unusedVariables false
set_option linter.unusedSimpArgs false
set_option linter.unusedVariables false
set_option linter.unusedSimpArgs false
set_option maxHeartbeats 4000000
set_option maxRecDepth 100000
set_option synthInstance.maxSize 100000
set_option synthInstance.maxHeartbeats 400000
namespace Go.Proofs.YtlbdoeliaeennaaGreat
open Go.RowKit (Below)
private theorem mixedOrders : Tryz.prog.follows .mixedOrders = true:=by kernel_rfl
attribute [local irreducible] plusF minusF joinF levI lev PW RLN tB sB timesF stepF tmF normF TOK sgL surdsF chkF gapC fullF nearF farF limL limJ
instance NR.lx {τs : List MT} {xs : List FR} [h : AsTL τs RX xs] : NR (LSC (some 3) τs) (LS (some 3) (xs.map RX)):=⟨fun hv=>h.ls hv.1⟩
instance AsT.fxr {n : Nat} {r : FR} : AsT (FX n r) RX r:=⟨fun h=>FX.toRX h⟩
theorem abs_c (x : Rat) : (!decide (cmpQ (absQ x) 1 ≤ 0)) = (decide (cmpQ x 1 > 0) || decide (cmpQ x (-1) < 0)):=by
  rw [Bool.eq_iff_iff,Bool.not_eq_true',decide_eq_false_iff_not,Bool.or_eq_true,decide_eq_true_eq,decide_eq_true_eq,cmpQ_le,cmpQ_gt0,cmpQ_lt0]
  unfold absQ
  split <;> constructor <;> grind
theorem longR {s t : Bool} (h : (s && t) = false) : ((!true || !s) || !t) = true:=by cases s <;> cases t <;> simp_all
theorem shortRr {s t : Bool} (h : (s && t) = true) : ((!true || !s) || !t) = false:=by cases s <;> cases t <;> simp_all
theorem longRotationGaps {rg ra rb rc rk : FR} : Con Tryz.prog 3 [PTS [(some 3,RX rg),(some 3,RX ra),(some 3,RX rb),(some 3,RX rc)],RX rk] ((shortF [rg,ra,rb,rc] && shortF [rk]) = false) (BT true):=.o2 fun hok h1 h2 hp=>by
  refine St.enter (N:=124) Tryz.func3 rfl rfl rfl hok (enter2 h1 h2) fun a=>?_
  repeat' (first | refine W.cbt (longR hp) ?_ | refine W.run ?_ fun a w G=>?_ | refine W.mv fun a w G=>?_ | refine W.asg fun a w G=>?_ | refine W.bx fun b a w G=>?_ | (refine W.nn hK ?_;clear hK K) | refine W.reg fun K hK=>?_ | refine W.reg1 ?_ | refine W.nl ?_ | refine W.sq fun K hK=>?_ | refine W.ds ?_ (fun β a w G hu=>W.fin ?_ hu) mixedOrders (by kernel_rfl) | refine W.sk ?_ | (refine W.kn hK ?_;clear hK K) | refine W.cd (fun hc=>?_) (fun hc=>?_) | refine W.cb (fun hc=>?_) (fun hc=>?_) | refine W.al fun b a w G=>?_ | refine W.st fun w=>?_ | refine W.stp fun w=>?_ | refine W.ste ?_ fun w=>?_ | refine W.bl ?_ | refine W.bn ?_ | refine W.ex ?_ | refine W.xt ?_ | refine W.xb ?_ | refine W.xo ?_ | refine W.rt ?_ | refine W.tr ?_ | refine W.br ?_ | refine W.rt1 rfl ?_ | refine W.rt2 rfl ?_ ?_ | refine W.rt3 rfl ?_ ?_ ?_ | clear hK K | clear hu | exact True.intro | exact Nat.le_trans (by clear hp;omega) hp | exact Nat.le_trans (by clear hp;omega) hp.1 | exact Nat.le_trans (by clear hp;omega) hp.2 | (clear hp;omega) | apply And.intro | refine GI.i fun _=>?_ | with_reducible rfl | decide | (simp only [List.length_cons,List.length_nil];omega))
  all_goals skip
theorem shortRotationGaps {rg ra rb rc rk : FR} : Con Tryz.prog 3 [QUD 64 rg ra rb rc,FX 64 rk] ((shortF [rg,ra,rb,rc] && shortF [rk]) = true) (BT true):=.o2 fun hok h1 h2 hp=>by
  refine St.enter (N:=124) Tryz.func3 rfl rfl rfl hok (enter2 h1 h2) fun a=>?_
  repeat' (first | refine W.cbf (shortRr hp) ?_ | refine W.run ?_ fun a w G=>?_ | refine W.mv fun a w G=>?_ | refine W.asg fun a w G=>?_ | refine W.bx fun b a w G=>?_ | (refine W.nn hK ?_;clear hK K) | refine W.reg fun K hK=>?_ | refine W.reg1 ?_ | refine W.nl ?_ | refine W.sq fun K hK=>?_ | refine W.ds ?_ (fun β a w G hu=>W.fin ?_ hu) mixedOrders (by kernel_rfl) | refine W.sk ?_ | (refine W.kn hK ?_;clear hK K) | refine W.cd (fun hc=>?_) (fun hc=>?_) | refine W.cb (fun hc=>?_) (fun hc=>?_) | refine W.al fun b a w G=>?_ | refine W.st fun w=>?_ | refine W.stp fun w=>?_ | refine W.ste ?_ fun w=>?_ | refine W.bl ?_ | refine W.bn ?_ | refine W.ex ?_ | refine W.xt ?_ | refine W.xb ?_ | refine W.xo ?_ | refine W.rt ?_ | refine W.tr ?_ | refine W.br ?_ | refine W.rt1 rfl ?_ | refine W.rt2 rfl ?_ ?_ | refine W.rt3 rfl ?_ ?_ ?_ | clear hK K | clear hu | exact True.intro | exact Nat.le_trans (by clear hp;omega) hp | exact Nat.le_trans (by clear hp;omega) hp.1 | exact Nat.le_trans (by clear hp;omega) hp.2 | (clear hp;omega) | apply And.intro | refine GI.i fun _=>?_ | with_reducible rfl | decide | (simp only [List.length_cons,List.length_nil];omega))
  all_goals first
    | (rw [gapC_0 (by assumption),full_bad (by assumption),if_neg (by assumption),if_neg (by assumption)];simp;done)
    | (exfalso;rw [full_ok (by assumption),decide_eq_false (by assumption)] at hc;simp at hc;done)
    | (exfalso;rw [full_ok (by assumption)] at hc;simp at hc;omega)
    | (exfalso;rw [full_ok (by assumption)] at hc;simp_all;done)
    | (rw [gapC_2 (by assumption) (by assumption)];rfl)
    | (rw [abs_c] at hc;first | (rw [gapC_3 (by assumption) (by assumption) hc];rfl) | (rw [gapC_n (by assumption) (by assumption) hc];simp;done))
    | skip
theorem lawRotationGaps {rg ra rb rc rk : FR} {w : World} {G : Gh} {v1 v2 : Value} (hok : Gok w G) (h1 : (PTS [(some 3,RX rg),(some 3,RX ra),(some 3,RX rb),(some 3,RX rc)]).t v1 G) (h2 : (RX rk).t v2 G) : Calls Tryz.prog 3 #[v1,v2] w (Ret w G (BT true)):=by
  cases hs : (shortF [rg,ra,rb,rc] && shortF [rk]) with
  | true =>
    have hq:=hs
    simp only [shortF,List.all_cons,List.all_nil,Bool.and_true,Bool.and_eq_true] at hq
    exact shortRotationGaps.c2 hok (NS.h (τ':=QUD 64 rg ra rb rc) (by (try simp only [and_true,true_and]);grind) h1) (NS.h (τ':=FX 64 rk) (by (try simp only [and_true,true_and]);grind) h2) hs
  | false=>exact longRotationGaps.c2 hok h1 h2 hs
end Go.Proofs.YtlbdoeliaeennaaGreat
set_option linter.unusedVariables false
set_option linter.unusedSimpArgs false
set_option maxHeartbeats 4000000
set_option maxRecDepth 100000
set_option synthInstance.maxSize 100000
set_option synthInstance.maxHeartbeats 400000
namespace Go.Proofs.YtlbdoeliaeennaaGreat
open Go.RowKit (Below)
instance : DecidableEq FR:=fun r s=>decidable_of_iff (r.s = s.s ∧ r.p = s.p ∧ r.q = s.q) ⟨fun h=>by obtain ⟨a,b,c⟩:=r;obtain ⟨d,e,f⟩:=s;simp only at h;obtain ⟨rfl,rfl,rfl⟩:=h;rfl,fun h=>by subst h;exact ⟨rfl,rfl,rfl⟩⟩
theorem FR.eq_dec {r s : FR} : ((r.s == s.s) && decide (r.p = s.p) && decide (r.q = s.q)) = decide (r = s):=by
  rw [Bool.eq_iff_iff,Bool.and_eq_true,Bool.and_eq_true,decide_eq_true_eq,decide_eq_true_eq,decide_eq_true_eq,beq_iff_eq]
  obtain ⟨a,b,c⟩:=r;obtain ⟨d,e,f⟩:=s;simp [and_assoc]
theorem FR.of_inj {x y : Rat} (h : FR.of x = FR.of y) : x = y:=by rw [← FR.of_val (x:=x),h,FR.of_val]
section
variable {α : Type} {l k : List α} {j : Nat}
theorem eq_ln [DecidableEq α] (h : decide (((l.length : Nat) : Int) ≠ ((k.length : Nat) : Int)) = true) : false = decide (l = k):=by
  rw [decide_eq_true_eq] at h;exact (decide_eq_false fun e=>h (by rw [e])).symm
theorem eq_at [Inhabited α] [DecidableEq α] (hj : j < l.length) (hl : l.length = k.length) (h : l.getD j default ≠ k.getD j default) : false = decide (l = k):=(decide_eq_false fun e=>h (by rw [e])).symm
theorem eq_nx [Inhabited α] (hj : j < l.length) (hl : l.length = k.length) (h : l.take j = k.take j) (e : l.getD j default = k.getD j default) : l.take (j + 1) = k.take (j + 1):=by
  rw [List.getD_eq_getElem?_getD,List.getD_eq_getElem?_getD,List.getElem?_eq_getElem hj,List.getElem?_eq_getElem (by omega)] at e
  rw [List.take_add_one,List.take_add_one,h,List.getElem?_eq_getElem hj,List.getElem?_eq_getElem (by omega)]
  simp only [Option.getD_some] at e;rw [e]
theorem eq_en [DecidableEq α] (hj : ¬ j < l.length) (hl : l.length = k.length) (h : l.take j = k.take j) : true = decide (l = k):=by
  rw [List.take_of_length_le (by omega),List.take_of_length_le (by omega)] at h
  exact (decide_eq_true h).symm
end
theorem dig_getD (l : List Nat) (j : Nat) : dig l j = l.getD j default:=rfl
theorem w140 {l k : List Nat} : Con Tryz.prog 140 [SL l,SL k] (True) (BT (decide (l = k))):=.o2 fun hok h1 h2 hp=>by
  refine St.enter (N:=26) Tryz.func140 rfl rfl rfl hok (enter2 h1 h2) fun a=>?_
  have hlim:=SL.lim h1
  have hlim2:=SL.lim h2
  simp only [LIM] at hlim hlim2
  repeat' (first | refine W.run ?_ fun a w G=>?_ | refine W.mv fun a w G=>?_ | refine W.asg fun a w G=>?_ | refine W.bx fun b a w G=>?_ | (refine W.nn hK ?_;clear hK K) | refine W.reg fun K hK=>?_ | refine W.reg1 ?_ | refine W.nl ?_ | refine W.sq fun K hK=>?_ | refine W.ds ?_ (fun β a w G hu=>W.fin ?_ hu) mixedOrders (by kernel_rfl) | refine W.sk ?_ | (refine W.kn hK ?_;clear hK K) | refine W.cd (fun hc=>?_) (fun hc=>?_) | refine W.cb (fun hc=>?_) (fun hc=>?_) | refine W.al fun b a w G=>?_ | refine W.st fun w=>?_ | refine W.stp fun w=>?_ | refine W.ste ?_ fun w=>?_ | refine W.bl ?_ | refine W.bn ?_ | refine W.ex ?_ | refine W.xt ?_ | refine W.xb ?_ | refine W.xo ?_ | refine W.rt ?_ | refine W.tr ?_ | refine W.br ?_ | refine W.rt1 rfl ?_ | refine W.rt2 rfl ?_ ?_ | refine W.rt3 rfl ?_ ?_ ?_ | refine W.lp 11 (α:=Nat) (fun j=>l.length - j) (fun j=>j ≤ l.length ∧ l.take j = k.take j) [4,5,11,12,13,14,15,16,17,18,19,20,21,22,23,24,25] (fun j=>[(5,NT j)]) (fun j=>[]) (0) ?_ ?_ ?_ fun j hj a w G=>?_ | refine W.ag (x:=j) (j+1) ?_ ?_ ?_ ?_ | clear hK K | clear hu | exact True.intro | exact Nat.le_trans (by clear hp;omega) hp | exact Nat.le_trans (by clear hp;omega) hp.1 | exact Nat.le_trans (by clear hp;omega) hp.2 | (clear hp;omega) | apply And.intro | refine GI.i fun _=>?_ | with_reducible rfl | decide | (simp only [List.length_cons,List.length_nil];omega))
  all_goals first
    | exact eq_ln (decide_eq_true hc)
    | (simp;done)
    | (exact (decide_eq_false fun e=>hc (by rw [e])).symm)
    | (have hle : l.length = k.length := by (have h0 : ¬ ((l.length : Nat) : Int) ≠ ((k.length : Nat) : Int) := by assumption); omega
       first
       | omega
       | exact eq_en (by omega) hle hj.2
       | ((simp only [Int.toNat_natCast,dig_getD] at *);first
         | exact eq_at (by omega) hle (by assumption)
         | exact eq_nx (by omega) hle hj.2 (Classical.not_not.1 (by assumption))))
    | skip
instance {l k : List Nat} {τ1 : MT} [j1 : NL τ1 (SL l)] {τ2 : MT} [j2 : NL τ2 (SL k)] : Con Tryz.prog 140 [τ1,τ2] (True) (BT (decide (l = k))):=.o2 fun hok h1 h2 hp=>w140.c2 hok (j1.h h1) (j2.h h2) hp
theorem w105 {r s : FR} : Con Tryz.prog 105 [RX r,RX s] (True) (BT (decide (r = s))):=.o2 fun hok h1 h2 hp=>by
  refine St.enter (N:=24) Tryz.func105 rfl rfl rfl hok (enter2 h1 h2) fun a=>?_
  repeat' (first | refine W.run ?_ fun a w G=>?_ | refine W.mv fun a w G=>?_ | refine W.asg fun a w G=>?_ | refine W.bx fun b a w G=>?_ | (refine W.nn hK ?_;clear hK K) | refine W.reg fun K hK=>?_ | refine W.reg1 ?_ | refine W.nl ?_ | refine W.sq fun K hK=>?_ | refine W.ds ?_ (fun β a w G hu=>W.fin ?_ hu) mixedOrders (by kernel_rfl) | refine W.sk ?_ | (refine W.kn hK ?_;clear hK K) | refine W.cd (fun hc=>?_) (fun hc=>?_) | refine W.cb (fun hc=>?_) (fun hc=>?_) | refine W.al fun b a w G=>?_ | refine W.st fun w=>?_ | refine W.stp fun w=>?_ | refine W.ste ?_ fun w=>?_ | refine W.bl ?_ | refine W.bn ?_ | refine W.ex ?_ | refine W.xt ?_ | refine W.xb ?_ | refine W.xo ?_ | refine W.rt ?_ | refine W.tr ?_ | refine W.br ?_ | refine W.rt1 rfl ?_ | refine W.rt2 rfl ?_ ?_ | refine W.rt3 rfl ?_ ?_ ?_ | clear hK K | clear hu | exact True.intro | exact Nat.le_trans (by clear hp;omega) hp | exact Nat.le_trans (by clear hp;omega) hp.1 | exact Nat.le_trans (by clear hp;omega) hp.2 | (clear hp;omega) | apply And.intro | refine GI.i fun _=>?_ | with_reducible rfl | decide | (simp only [List.length_cons,List.length_nil];omega))
  all_goals first | exact FR.eq_dec | skip
instance {r s : FR} {τ1 : MT} [j1 : NR τ1 (RX r)] {τ2 : MT} [j2 : NR τ2 (RX s)] : Con Tryz.prog 105 [τ1,τ2] (True) (BT (decide (r = s))):=.o2 fun hok h1 h2 hp=>w105.c2 hok (j1.h h1) (j2.h h2) hp
theorem w61 {xs ys : List FR} : Con Tryz.prog 61 [LS (some 3) (xs.map RX),LS (some 3) (ys.map RX)] (True) (BT (decide (xs = ys))):=.o2 fun hok h1 h2 hp=>by
  refine St.enter (N:=27) Tryz.func61 rfl rfl rfl hok (enter2 h1 h2) fun a=>?_
  have hlim:=LS.lenM h1
  have hlim2:=LS.lenM h2
  simp only [LIM] at hlim hlim2
  repeat' (first | refine W.run ?_ fun a w G=>?_ | refine W.mv fun a w G=>?_ | refine W.asg fun a w G=>?_ | refine W.bx fun b a w G=>?_ | (refine W.nn hK ?_;clear hK K) | refine W.reg fun K hK=>?_ | refine W.reg1 ?_ | refine W.nl ?_ | refine W.sq fun K hK=>?_ | refine W.ds ?_ (fun β a w G hu=>W.fin ?_ hu) mixedOrders (by kernel_rfl) | refine W.sk ?_ | (refine W.kn hK ?_;clear hK K) | refine W.cd (fun hc=>?_) (fun hc=>?_) | refine W.cb (fun hc=>?_) (fun hc=>?_) | refine W.al fun b a w G=>?_ | refine W.st fun w=>?_ | refine W.stp fun w=>?_ | refine W.ste ?_ fun w=>?_ | refine W.bl ?_ | refine W.bn ?_ | refine W.ex ?_ | refine W.xt ?_ | refine W.xb ?_ | refine W.xo ?_ | refine W.rt ?_ | refine W.tr ?_ | refine W.br ?_ | refine W.rt1 rfl ?_ | refine W.rt2 rfl ?_ ?_ | refine W.rt3 rfl ?_ ?_ ?_ | refine W.lp 11 (α:=Nat) (fun j=>xs.length - j) (fun j=>j ≤ xs.length ∧ xs.take j = ys.take j) [4,5,11,12,13,14,15,16,17,18,19,20,21,22,23,24,25,26] (fun j=>[(5,NT j)]) (fun j=>[]) (0) ?_ ?_ ?_ fun j hj a w G=>?_ | refine W.ag (x:=j) (j+1) ?_ ?_ ?_ ?_ | clear hK K | clear hu | exact True.intro | exact Nat.le_trans (by clear hp;omega) hp | exact Nat.le_trans (by clear hp;omega) hp.1 | exact Nat.le_trans (by clear hp;omega) hp.2 | (clear hp;omega) | apply And.intro | refine GI.i fun _=>?_ | with_reducible rfl | decide | (simp only [List.length_cons,List.length_nil];omega))
  all_goals first
    | exact eq_ln (decide_eq_true hc)
    | (simp;done)
    | (exact (decide_eq_false fun e=>hc (by rw [e])).symm)
    | (have hle : xs.length = ys.length := by (have h0 : ¬ ((xs.length : Nat) : Int) ≠ ((ys.length : Nat) : Int) := by assumption); omega
       first
       | omega
       | exact eq_en (by omega) hle hj.2
       | (first
         | (refine eq_at (j:=j) (by omega) hle ?_;simp only [Bool.not_eq_true',decide_eq_false_iff_not] at hc;exact hc)
         | exact eq_nx (by omega) hle hj.2 (by simpa using hc)))
    | skip
instance {xs ys : List FR} {τ1 : MT} [j1 : NR τ1 (LS (some 3) (xs.map RX))] {τ2 : MT} [j2 : NR τ2 (LS (some 3) (ys.map RX))] : Con Tryz.prog 61 [τ1,τ2] (True) (BT (decide (xs = ys))):=.o2 fun hok h1 h2 hp=>w61.c2 hok (j1.h h1) (j2.h h2) hp
abbrev LFR (l : List FR) : MT:=LS (some 3) (l.map RX)
instance {l : List FR} : AsT (LS (some 3) (l.map RX)) LFR l:=⟨fun h=>h⟩
theorem NM.lfr {n : Nat} {l : List Rat} {v : Value} {G : Gh} (h : (NM n l).t v G) : (LFR (l.map FR.of)).t v G:=LS.convM (T:=QC n) (U:=RX) (f:=FR.of) h (by simp) fun x hx v G hv=>FX.toRX (QC.toFX hv (QC.one hv))
instance NR.nm {n : Nat} {l : List Rat} : NR (LS (some 3) (l.map (QC n))) (LS (some 3) ((l.map FR.of).map RX)):=⟨NM.lfr⟩
instance NR.rts {n : Nat} {rs : List (List Rat)} : NR (LS none (rs.map (NM n))) (LS none ((rs.map (List.map FR.of)).map LFR)):=⟨fun h=>LS.convM (T:=NM n) (U:=LFR) (f:=List.map FR.of) h (by simp) fun x hx v G hv=>NM.lfr hv⟩
theorem mof_inj {l k : List Rat} (h : l.map FR.of = k.map FR.of) : l = k:=by
  induction l generalizing k with
  | nil=>cases k with
    | nil=>rfl
    | cons y k=>cases h
  | cons x l ih=>cases k with
    | nil=>cases h
    | cons y k=>simp only [List.map_cons,List.cons.injEq] at h;rw [FR.of_inj h.1,ih h.2]
theorem mmof_inj {l k : List (List Rat)} (h : l.map (List.map FR.of) = k.map (List.map FR.of)) : l = k:=by
  induction l generalizing k with
  | nil=>cases k with
    | nil=>rfl
    | cons y k=>cases h
  | cons x l ih=>cases k with
    | nil=>cases h
    | cons y k=>simp only [List.map_cons,List.cons.injEq] at h;rw [mof_inj h.1,ih h.2]
theorem mof_dec {l k : List Rat} : decide (l.map FR.of = k.map FR.of) = decide (l = k):=decide_eq_decide.2 ⟨mof_inj,fun h=>by rw [h]⟩
theorem mmof_dec {l k : List (List Rat)} : decide (l.map (List.map FR.of) = k.map (List.map FR.of)) = decide (l = k):=decide_eq_decide.2 ⟨mmof_inj,fun h=>by rw [h]⟩
theorem w24 {xs ys : List FR} : Con Tryz.prog 24 [LS (some 3) (xs.map RX),LS (some 3) (ys.map RX)] (True) (BT (decide (xs = ys))):=.o2 fun hok h1 h2 hp=>by
  refine St.enter (N:=8) Tryz.func24 rfl rfl rfl hok (enter2 h1 h2) fun a=>?_
  repeat' (first | refine W.run ?_ fun a w G=>?_ | refine W.mv fun a w G=>?_ | refine W.asg fun a w G=>?_ | refine W.bx fun b a w G=>?_ | (refine W.nn hK ?_;clear hK K) | refine W.reg fun K hK=>?_ | refine W.reg1 ?_ | refine W.nl ?_ | refine W.sq fun K hK=>?_ | refine W.ds ?_ (fun β a w G hu=>W.fin ?_ hu) mixedOrders (by kernel_rfl) | refine W.sk ?_ | (refine W.kn hK ?_;clear hK K) | refine W.cd (fun hc=>?_) (fun hc=>?_) | refine W.cb (fun hc=>?_) (fun hc=>?_) | refine W.al fun b a w G=>?_ | refine W.st fun w=>?_ | refine W.stp fun w=>?_ | refine W.ste ?_ fun w=>?_ | refine W.bl ?_ | refine W.bn ?_ | refine W.ex ?_ | refine W.xt ?_ | refine W.xb ?_ | refine W.xo ?_ | refine W.rt ?_ | refine W.tr ?_ | refine W.br ?_ | refine W.rt1 rfl ?_ | refine W.rt2 rfl ?_ ?_ | refine W.rt3 rfl ?_ ?_ ?_ | clear hK K | clear hu | exact True.intro | exact Nat.le_trans (by clear hp;omega) hp | exact Nat.le_trans (by clear hp;omega) hp.1 | exact Nat.le_trans (by clear hp;omega) hp.2 | (clear hp;omega) | apply And.intro | refine GI.i fun _=>?_ | with_reducible rfl | decide | (simp only [List.length_cons,List.length_nil];omega))
instance {xs ys : List FR} {τ1 : MT} [j1 : NR τ1 (LS (some 3) (xs.map RX))] {τ2 : MT} [j2 : NR τ2 (LS (some 3) (ys.map RX))] : Con Tryz.prog 24 [τ1,τ2] (True) (BT (decide (xs = ys))):=.o2 fun hok h1 h2 hp=>w24.c2 hok (j1.h h1) (j2.h h2) hp
theorem PTS.lenL {α : Type} {T : α → MT} {xs : List α} {v : Value} {G : Gh} (h : (PTS [(none,LS none (xs.map T))]).t v G) : xs.length ≤ LIM:=by
  obtain ⟨us,_,hl,hE⟩:=h
  match us,hl with
  | u :: us,_=>exact LS.lenM (hE 0 _ u rfl rfl).2
theorem w22 {xs ys : List (List FR)} : Con Tryz.prog 22 [PTS [(none,LS none (xs.map LFR))],PTS [(none,LS none (ys.map LFR))]] (True) (BT (decide (xs = ys))):=.o2 fun hok h1 h2 hp=>by
  refine St.enter (N:=32) Tryz.func22 rfl rfl rfl hok (enter2 h1 h2) fun a=>?_
  have hlim:=PTS.lenL h1
  have hlim2:=PTS.lenL h2
  simp only [LIM] at hlim hlim2
  repeat' (first | refine W.run ?_ fun a w G=>?_ | refine W.mv fun a w G=>?_ | refine W.asg fun a w G=>?_ | refine W.bx fun b a w G=>?_ | (refine W.nn hK ?_;clear hK K) | refine W.reg fun K hK=>?_ | refine W.reg1 ?_ | refine W.nl ?_ | refine W.sq fun K hK=>?_ | refine W.ds ?_ (fun β a w G hu=>W.fin ?_ hu) mixedOrders (by kernel_rfl) | refine W.sk ?_ | (refine W.kn hK ?_;clear hK K) | refine W.cd (fun hc=>?_) (fun hc=>?_) | refine W.cb (fun hc=>?_) (fun hc=>?_) | refine W.al fun b a w G=>?_ | refine W.st fun w=>?_ | refine W.stp fun w=>?_ | refine W.ste ?_ fun w=>?_ | refine W.bl ?_ | refine W.bn ?_ | refine W.ex ?_ | refine W.xt ?_ | refine W.xb ?_ | refine W.xo ?_ | refine W.rt ?_ | refine W.tr ?_ | refine W.br ?_ | refine W.rt1 rfl ?_ | refine W.rt2 rfl ?_ ?_ | refine W.rt3 rfl ?_ ?_ ?_ | refine W.lp 13 (α:=Nat) (fun j=>xs.length - j) (fun j=>j ≤ xs.length ∧ xs.take j = ys.take j) [4,5,13,14,15,16,17,18,19,20,21,22,23,24,25,26,27,28,29,30,31] (fun j=>[(5,NT j)]) (fun j=>[]) (0) ?_ ?_ ?_ fun j hj a w G=>?_ | refine W.ag (x:=j) (j+1) ?_ ?_ ?_ ?_ | clear hK K | clear hu | exact True.intro | exact Nat.le_trans (by clear hp;omega) hp | exact Nat.le_trans (by clear hp;omega) hp.1 | exact Nat.le_trans (by clear hp;omega) hp.2 | (clear hp;omega) | apply And.intro | refine GI.i fun _=>?_ | with_reducible rfl | decide | (simp only [List.length_cons,List.length_nil];omega))
  all_goals first
    | exact eq_ln (decide_eq_true hc)
    | (simp;done)
    | (exact (decide_eq_false fun e=>hc (by rw [e])).symm)
    | (have hle : xs.length = ys.length := by (have h0 : ¬ ((xs.length : Nat) : Int) ≠ ((ys.length : Nat) : Int) := by assumption); omega
       first
       | omega
       | exact eq_en (by omega) hle hj.2
       | (first
         | (refine eq_at (j:=j) (by omega) hle ?_;simp only [Bool.not_eq_true',decide_eq_false_iff_not] at hc;exact hc)
         | exact eq_nx (by omega) hle hj.2 (by simpa using hc)))
    | skip
instance {xs ys : List (List FR)} {τ1 : MT} [j1 : NR τ1 (PTS [(none,LS none (xs.map LFR))])] {τ2 : MT} [j2 : NR τ2 (PTS [(none,LS none (ys.map LFR))])] : Con Tryz.prog 22 [τ1,τ2] (True) (BT (decide (xs = ys))):=.o2 fun hok h1 h2 hp=>w22.c2 hok (j1.h h1) (j2.h h2) hp
instance (priority:=1100) {n m : Nat} {l k : List Rat} {τ1 τ2 : MT} [j1 : NU τ1 (NM n l)] [j2 : NU τ2 (NM m k)] : Con Tryz.prog 61 [τ1,τ2] True (BT (decide (l = k))):=.o2 fun hok h1 h2 hp=>by
  have:=(inferInstance : Con Tryz.prog 61 [NM n l,NM m k] _ _).c2 hok (j1.h h1) (j2.h h2) hp
  rwa [mof_dec] at this
instance (priority:=1100) {n m : Nat} {l k : List Rat} {τ1 τ2 : MT} [j1 : NU τ1 (NM n l)] [j2 : NU τ2 (NM m k)] : Con Tryz.prog 24 [τ1,τ2] True (BT (decide (l = k))):=.o2 fun hok h1 h2 hp=>by
  have:=(inferInstance : Con Tryz.prog 24 [NM n l,NM m k] _ _).c2 hok (j1.h h1) (j2.h h2) hp
  rwa [mof_dec] at this
instance (priority:=1100) {n m : Nat} {l k : List (List Rat)} {τ1 τ2 : MT} [j1 : NU τ1 (TWR n l)] [j2 : NU τ2 (TWR m k)] : Con Tryz.prog 22 [τ1,τ2] True (BT (decide (l = k))):=.o2 fun hok h1 h2 hp=>by
  have:=(inferInstance : Con Tryz.prog 22 [TWR n l,TWR m k] _ _).c2 hok (j1.h h1) (j2.h h2) hp
  rwa [mmof_dec] at this
end Go.Proofs.YtlbdoeliaeennaaGreat
set_option linter.unusedVariables false
set_option linter.unusedSimpArgs false
set_option maxHeartbeats 4000000
set_option maxRecDepth 100000
set_option synthInstance.maxSize 100000
set_option synthInstance.maxHeartbeats 400000
namespace Go.Proofs.YtlbdoeliaeennaaGreat
open Go.RowKit (Below)
abbrev QVP (p : Nat × Rat) : MT:=QV p.1 p.2
instance AsT.qvp {n : Nat} {z : Rat} : AsT (QV n z) QVP (n,z):=⟨fun h=>h⟩
instance AsT.qvz : AsT (FX 1 default) QVP (1,0):=⟨fun h=>FX.toQV h⟩
class NP (τ : MT) (τ' : outParam MT) : Prop where
  h : ∀ {v : Value} {G : Gh},τ.t v G → τ'.t v G
instance NP.p {τ1 τ2 : MT} {n m : Nat} {x y : Rat} [h1 : NQ τ1 (QV n x)] [h2 : NQ τ2 (QV m y)] : NP (LSC (some 3) [τ1,τ2]) (LS (some 3) (([(n,x),(m,y)] : List (Nat × Rat)).map QVP)):=⟨fun h=>LS.els h.1 rfl fun i τ σ e1 e2 _ hv=>by
  match i,e1,e2 with
  | 0,e1,e2=>cases e1;cases e2;exact h1.h hv
  | 1,e1,e2=>cases e1;cases e2;exact h2.h hv⟩
instance Op1.ixLi {P : Program} {L : List (Nat × MT)} {B : List BX} {t : TypeId} {x y : Operand} {τs : List MT} {xs : List Nat} {j : Nat} {u v : List Nat} [s : SlE P t none] [h : Opd L x (LSC none τs) u] [l : AsTL τs NT xs] [h2 : Opd L y (NT j) v] : Op1 P L B (.indexAddr t x y) (j < xs.length) (PE none (NT (xs.getD j default))) (u ++ v):=⟨fun ho hok e hB hp=>by
  obtain ⟨e',h3,h4⟩:=s.h
  exact .ixM hok ho h3 h4 (l.ls (h.h e.l).1) (h2.h e.r) (i:=j) rfl hp⟩
instance {ps : List (Nat × Rat)} : Con Tryz.prog 123 [LS (some 3) (ps.map QVP)] (ps.length = 2 ∧ (ps.getD 0 default).1 + (ps.getD 1 default).1 + 1 ≤ BIG) (MT.tup2 (QC ((ps.getD 0 default).1 + (ps.getD 1 default).1 + 1) ((ps.getD 0 default).2 + (ps.getD 1 default).2)) (QC ((ps.getD 0 default).1 + (ps.getD 1 default).1) ((ps.getD 0 default).2 * (ps.getD 1 default).2))):=.o1 fun hok h1 hp=>by
  refine St.enter (N:=18) Tryz.func123 rfl rfl rfl hok (enter1 h1) fun a=>?_
  repeat' (first | refine W.run ?_ fun a w G=>?_ | refine W.mv fun a w G=>?_ | refine W.asg fun a w G=>?_ | refine W.bx fun b a w G=>?_ | (refine W.nn hK ?_;clear hK K) | refine W.reg fun K hK=>?_ | refine W.reg1 ?_ | refine W.nl ?_ | refine W.sq fun K hK=>?_ | refine W.ds ?_ (fun β a w G hu=>W.fin ?_ hu) mixedOrders (by kernel_rfl) | refine W.sk ?_ | (refine W.kn hK ?_;clear hK K) | refine W.cd (fun hc=>?_) (fun hc=>?_) | refine W.cb (fun hc=>?_) (fun hc=>?_) | refine W.al fun b a w G=>?_ | refine W.st fun w=>?_ | refine W.stp fun w=>?_ | refine W.ste ?_ fun w=>?_ | refine W.bl ?_ | refine W.bn ?_ | refine W.ex ?_ | refine W.xt ?_ | refine W.xb ?_ | refine W.xo ?_ | refine W.rt ?_ | refine W.tr ?_ | refine W.br ?_ | refine W.rt1 rfl ?_ | refine W.rt2 rfl ?_ ?_ | refine W.rt3 rfl ?_ ?_ ?_ | clear hK K | clear hu | exact True.intro | exact Nat.le_trans (by clear hp;omega) hp | exact Nat.le_trans (by clear hp;omega) hp.1 | exact Nat.le_trans (by clear hp;omega) hp.2 | (clear hp;omega) | apply And.intro | refine GI.i fun _=>?_ | with_reducible rfl | decide | (simp only [List.length_cons,List.length_nil];omega))
  all_goals first | omega | rfl | skip
theorem w125 {n m k : Nat} {x d f : Rat} : Con Tryz.prog 125 [QV n x,QV m d,QV k f] (8 * n + 8 * m + 8 * k + 1000 ≤ BIG) (IT (rootsF x d f)):=.o3 fun hok h1 h2 h3 hp=>by
  refine St.enter (N:=36) Tryz.func125 rfl rfl rfl hok (enter3 h1 h2 h3) fun a=>?_
  repeat' (first | refine W.run ?_ fun a w G=>?_ | refine W.mv fun a w G=>?_ | refine W.asg fun a w G=>?_ | refine W.bx fun b a w G=>?_ | (refine W.nn hK ?_;clear hK K) | refine W.reg fun K hK=>?_ | refine W.reg1 ?_ | refine W.nl ?_ | refine W.sq fun K hK=>?_ | refine W.ds ?_ (fun β a w G hu=>W.fin ?_ hu) mixedOrders (by kernel_rfl) | refine W.sk ?_ | (refine W.kn hK ?_;clear hK K) | refine W.cd (fun hc=>?_) (fun hc=>?_) | refine W.cb (fun hc=>?_) (fun hc=>?_) | refine W.al fun b a w G=>?_ | refine W.st fun w=>?_ | refine W.stp fun w=>?_ | refine W.ste ?_ fun w=>?_ | refine W.bl ?_ | refine W.bn ?_ | refine W.ex ?_ | refine W.xt ?_ | refine W.xb ?_ | refine W.xo ?_ | refine W.rt ?_ | refine W.tr ?_ | refine W.br ?_ | refine W.rt1 rfl ?_ | refine W.rt2 rfl ?_ ?_ | refine W.rt3 rfl ?_ ?_ ?_ | clear hK K | clear hu | exact True.intro | exact Nat.le_trans (by clear hp;omega) hp | exact Nat.le_trans (by clear hp;omega) hp.1 | exact Nat.le_trans (by clear hp;omega) hp.2 | (clear hp;omega) | apply And.intro | refine GI.i fun _=>?_ | with_reducible rfl | decide | (simp only [List.length_cons,List.length_nil];omega))
  all_goals first
    | omega
    | (unfold rootsF;rw [if_pos (by assumption)])
    | (unfold rootsF;rw [if_neg (by assumption)])
    | skip
instance {n m k : Nat} {x d f : Rat} {τ1 : MT} [j1 : NQ τ1 (QV n x)] {τ2 : MT} [j2 : NQ τ2 (QV m d)] {τ3 : MT} [j3 : NQ τ3 (QV k f)] : Con Tryz.prog 125 [τ1,τ2,τ3] (8 * n + 8 * m + 8 * k + 1000 ≤ BIG) (IT (rootsF x d f)):=.o3 fun hok h1 h2 h3 hp=>w125.c3 hok (j1.h h1) (j2.h h2) (j3.h h3) hp
instance {n1 n2 : Nat} {p q : Rat} : Con Tryz.prog 124 [LS (some 3) (([(n1,p),(n2,q)] : List (Nat × Rat)).map QVP)] (True) (LS (some 3) (([(n1,p),(n2,q)] : List (Nat × Rat)).map QVP)):=.o1 fun hok h1 hp=>by
  refine St.enter (N:=11) Tryz.func124 rfl rfl rfl hok (enter1 h1) fun a=>?_
  have own6 : OwnAt 6:=⟨⟩
  repeat' (first | refine W.run ?_ fun a w G=>?_ | refine W.mv fun a w G=>?_ | refine W.asg fun a w G=>?_ | refine W.bx fun b a w G=>?_ | (refine W.nn hK ?_;clear hK K) | refine W.reg fun K hK=>?_ | refine W.reg1 ?_ | refine W.nl ?_ | refine W.sq fun K hK=>?_ | refine W.ds ?_ (fun β a w G hu=>W.fin ?_ hu) mixedOrders (by kernel_rfl) | refine W.sk ?_ | (refine W.kn hK ?_;clear hK K) | refine W.cd (fun hc=>?_) (fun hc=>?_) | refine W.cb (fun hc=>?_) (fun hc=>?_) | refine W.al fun b a w G=>?_ | refine W.st fun w=>?_ | refine W.stp fun w=>?_ | refine W.ste ?_ fun w=>?_ | refine W.bl ?_ | refine W.bn ?_ | refine W.ex ?_ | refine W.xt ?_ | refine W.xb ?_ | refine W.xo ?_ | refine W.rt ?_ | refine W.tr ?_ | refine W.br ?_ | refine W.rt1 rfl ?_ | refine W.rt2 rfl ?_ ?_ | refine W.rt3 rfl ?_ ?_ ?_ | refine W.bso QVP ?_ fun b a w G=>?_ | refine W.cp ?_ fun a w G=>?_ | refine W.fz 2 ?_ fun G=>?_ | clear hK K | clear hu | exact True.intro | exact Nat.le_trans (by clear hp;omega) hp | exact Nat.le_trans (by clear hp;omega) hp.1 | exact Nat.le_trans (by clear hp;omega) hp.2 | (clear hp;omega) | apply And.intro | refine GI.i fun _=>?_ | with_reducible rfl | decide | (simp only [List.length_cons,List.length_nil];omega))
  all_goals first | omega | rfl | skip
theorem w84 {n1 n2 n3 n4 : Nat} {p q r s : Rat} : Con Tryz.prog 84 [LS (some 3) (([(n1,p),(n2,q)] : List (Nat × Rat)).map QVP),LS (some 3) (([(n3,r),(n4,s)] : List (Nat × Rat)).map QVP)] (50 * (n1 + n2 + n3 + n4) + 2000 ≤ BIG) (IT (compareF [p,q] [r,s])):=.o2 fun hok h1 h2 hp=>by
  refine St.enter (N:=27) Tryz.func84 rfl rfl rfl hok (enter2 h1 h2) fun a=>?_
  repeat' (first | refine W.run ?_ fun a w G=>?_ | refine W.mv fun a w G=>?_ | refine W.asg fun a w G=>?_ | refine W.bx fun b a w G=>?_ | (refine W.nn hK ?_;clear hK K) | refine W.reg fun K hK=>?_ | refine W.reg1 ?_ | refine W.nl ?_ | refine W.sq fun K hK=>?_ | refine W.ds ?_ (fun β a w G hu=>W.fin ?_ hu) mixedOrders (by kernel_rfl) | refine W.sk ?_ | (refine W.kn hK ?_;clear hK K) | refine W.cd (fun hc=>?_) (fun hc=>?_) | refine W.cb (fun hc=>?_) (fun hc=>?_) | refine W.al fun b a w G=>?_ | refine W.st fun w=>?_ | refine W.stp fun w=>?_ | refine W.ste ?_ fun w=>?_ | refine W.bl ?_ | refine W.bn ?_ | refine W.ex ?_ | refine W.xt ?_ | refine W.xb ?_ | refine W.xo ?_ | refine W.rt ?_ | refine W.tr ?_ | refine W.br ?_ | refine W.rt1 rfl ?_ | refine W.rt2 rfl ?_ ?_ | refine W.rt3 rfl ?_ ?_ ?_ | clear hK K | clear hu | exact True.intro | exact Nat.le_trans (by clear hp;omega) hp | exact Nat.le_trans (by clear hp;omega) hp.1 | exact Nat.le_trans (by clear hp;omega) hp.2 | (clear hp;omega) | apply And.intro | refine GI.i fun _=>?_ | with_reducible rfl | decide | (simp only [List.length_cons,List.length_nil];omega))
  all_goals first | omega | (simp only [List.getD_cons_zero,List.getD_cons_succ];omega) | rfl | skip
instance {n1 n2 n3 n4 : Nat} {p q r s : Rat} {τ1 : MT} [j1 : NP τ1 (LS (some 3) (([(n1,p),(n2,q)] : List (Nat × Rat)).map QVP))] {τ2 : MT} [j2 : NP τ2 (LS (some 3) (([(n3,r),(n4,s)] : List (Nat × Rat)).map QVP))] : Con Tryz.prog 84 [τ1,τ2] (50 * (n1 + n2 + n3 + n4) + 2000 ≤ BIG) (IT (compareF [p,q] [r,s])):=.o2 fun hok h1 h2 hp=>w84.c2 hok (j1.h h1) (j2.h h2) hp
theorem w85 {n : Nat} {rg ra rb rc : FR} : Con Tryz.prog 85 [QUD n rg ra rb rc] (1000 * n + 3000 ≤ BIG) (IT (excF [rg,ra,rb,rc])):=.o1 fun hok h1 hp=>by
  refine St.enter (N:=36) Tryz.func85 rfl rfl rfl hok (enter1 h1) fun a=>?_
  repeat' (first | refine W.run ?_ fun a w G=>?_ | refine W.mv fun a w G=>?_ | refine W.asg fun a w G=>?_ | refine W.bx fun b a w G=>?_ | (refine W.nn hK ?_;clear hK K) | refine W.reg fun K hK=>?_ | refine W.reg1 ?_ | refine W.nl ?_ | refine W.sq fun K hK=>?_ | refine W.ds ?_ (fun β a w G hu=>W.fin ?_ hu) mixedOrders (by kernel_rfl) | refine W.sk ?_ | (refine W.kn hK ?_;clear hK K) | refine W.cd (fun hc=>?_) (fun hc=>?_) | refine W.cb (fun hc=>?_) (fun hc=>?_) | refine W.al fun b a w G=>?_ | refine W.st fun w=>?_ | refine W.stp fun w=>?_ | refine W.ste ?_ fun w=>?_ | refine W.bl ?_ | refine W.bn ?_ | refine W.ex ?_ | refine W.xt ?_ | refine W.xb ?_ | refine W.xo ?_ | refine W.rt ?_ | refine W.tr ?_ | refine W.br ?_ | refine W.rt1 rfl ?_ | refine W.rt2 rfl ?_ ?_ | refine W.rt3 rfl ?_ ?_ ?_ | clear hK K | clear hu | exact True.intro | exact Nat.le_trans (by clear hp;omega) hp | exact Nat.le_trans (by clear hp;omega) hp.1 | exact Nat.le_trans (by clear hp;omega) hp.2 | (clear hp;omega) | apply And.intro | refine GI.i fun _=>?_ | with_reducible rfl | decide | (simp only [List.length_cons,List.length_nil];omega))
  all_goals (try simp only [List.length_cons,List.length_nil] at *)
  all_goals (have ho0:=orderF_lt ([rg,ra,rb,rc].map FR.val) 0;have ho1:=orderF_lt ([rg,ra,rb,rc].map FR.val) 1;have ho2:=orderF_lt ([rg,ra,rb,rc].map FR.val) 2;have ho3:=orderF_lt ([rg,ra,rb,rc].map FR.val) 3;have hol:=orderF_len ([rg,ra,rb,rc].map FR.val))
  all_goals first | omega | rfl | skip
instance {n : Nat} {rg ra rb rc : FR} {τ1 : MT} [j1 : NF τ1 (QUD n rg ra rb rc)] : Con Tryz.prog 85 [τ1] (1000 * n + 3000 ≤ BIG) (IT (excF [rg,ra,rb,rc])):=.o1 fun hok h1 hp=>w85.c1 hok (j1.h h1) hp
theorem w39 {n : Nat} {rg ra rb rc : FR} : Con Tryz.prog 39 [QUD n rg ra rb rc] (1000 * n + 3000 ≤ BIG) (MT.tup2 (IT (clsF [rg,ra,rb,rc])) (.ex (errV 42 (chkF [rg,ra,rb,rc])))):=.o1 fun hok h1 hp=>by
  refine St.enter (N:=24) Tryz.func39 rfl rfl rfl hok (enter1 h1) fun a=>?_
  have hn1:=qud_pos h1
  repeat' (first | refine W.run ?_ fun a w G=>?_ | refine W.mv fun a w G=>?_ | refine W.asg fun a w G=>?_ | refine W.bx fun b a w G=>?_ | (refine W.nn hK ?_;clear hK K) | refine W.reg fun K hK=>?_ | refine W.reg1 ?_ | refine W.nl ?_ | refine W.sq fun K hK=>?_ | refine W.ds ?_ (fun β a w G hu=>W.fin ?_ hu) mixedOrders (by kernel_rfl) | refine W.sk ?_ | (refine W.kn hK ?_;clear hK K) | refine W.cd (fun hc=>?_) (fun hc=>?_) | refine W.cb (fun hc=>?_) (fun hc=>?_) | refine W.al fun b a w G=>?_ | refine W.st fun w=>?_ | refine W.stp fun w=>?_ | refine W.ste ?_ fun w=>?_ | refine W.bl ?_ | refine W.bn ?_ | refine W.ex ?_ | refine W.xt ?_ | refine W.xb ?_ | refine W.xo ?_ | refine W.rt ?_ | refine W.tr ?_ | refine W.br ?_ | refine W.rt1 rfl ?_ | refine W.rt2 rfl ?_ ?_ | refine W.rt3 rfl ?_ ?_ ?_ | clear hK K | clear hu | exact True.intro | exact Nat.le_trans (by clear hp;omega) hp | exact Nat.le_trans (by clear hp;omega) hp.1 | exact Nat.le_trans (by clear hp;omega) hp.2 | (clear hp;omega) | apply And.intro | refine GI.i fun _=>?_ | with_reducible rfl | decide | (simp only [List.length_cons,List.length_nil];omega))
  all_goals (try simp only [List.length_cons,List.length_nil] at *)
  all_goals (have ho0:=orderF_lt ([rg,ra,rb,rc].map FR.val) 0;have ho1:=orderF_lt ([rg,ra,rb,rc].map FR.val) 1;have ho2:=orderF_lt ([rg,ra,rb,rc].map FR.val) 2;have ho3:=orderF_lt ([rg,ra,rb,rc].map FR.val) 3;have hol:=orderF_len ([rg,ra,rb,rc].map FR.val))
  all_goals first
    | omega
    | (unfold clsF;rw [if_neg (by assumption)])
    | (unfold clsF;rw [if_pos (by omega),if_pos (by assumption)])
    | (unfold clsF;rw [if_pos (by omega),if_neg (by assumption),if_pos (by assumption)])
    | (unfold clsF;rw [if_pos (by omega),if_neg (by assumption),if_neg (by assumption)])
    | skip
instance {n : Nat} {rg ra rb rc : FR} {τ1 : MT} [j1 : NF τ1 (QUD n rg ra rb rc)] : Con Tryz.prog 39 [τ1] (1000 * n + 3000 ≤ BIG) (MT.tup2 (IT (clsF [rg,ra,rb,rc])) (.ex (errV 42 (chkF [rg,ra,rb,rc])))):=.o1 fun hok h1 hp=>w39.c1 hok (j1.h h1) hp
instance Op1.remI {P : Program} {L : List (Nat × MT)} {B : List BX} {t t' : TypeId} {x y : Operand} {z : Int} {m : Nat} {z' : Int} {u v : List Nat} [h : Opd L x (IT z) u] [h2 : Opd L y (IT z') v] [l' : LitN z' m] : Op1 P L B (.binOp .rem t x y t') (m ≠ 0 ∧ 0 ≤ z) (NT (z.toNat % m)) (u ++ v):=⟨fun ho hok e hB hp=>by
  have h3:=h.h e.l
  have h4:=h2.h e.r
  obtain ⟨k,rfl⟩:=Int.eq_ofNat_of_zero_le hp.2
  have l3:=l'.h
  subst l3
  exact OpR.nrem hok ho h3 h4 hp.1 rfl⟩
theorem rotI {l : List FR} {k : Int} (h0 : 0 ≤ k) : (k + 3).toNat = k.toNat + 3 ∧ (k + 1).toNat = k.toNat + 1 ∧ (k + 2).toNat = k.toNat + 2:=by omega
theorem rot_fin {l : List FR} {k : Int} (h : ¬ chkF l ≠ 0) (hk : ¬ (decide (k < 0) || decide (k > 3)) = true) : (decide (compareF [(l.getD k.toNat default).val,(l.getD ((k + 3).toNat % 4) default).val] [(l.getD ((k + 1).toNat % 4) default).val,(l.getD ((k + 2).toNat % 4) default).val] ≤ 0) &&
  decide (compareF [maxQ (l.getD k.toNat default).val (l.getD ((k + 3).toNat % 4) default).val,minQ (l.getD ((k + 1).toNat % 4) default).val (l.getD ((k + 2).toNat % 4) default).val] [minQ (l.getD k.toNat default).val (l.getD ((k + 3).toNat % 4) default).val,maxQ (l.getD ((k + 1).toNat % 4) default).val (l.getD ((k + 2).toNat % 4) default).val] ≥ 0)) = rotF l k ∧ (0 : Int) = rotCode l k:=by
  simp only [Bool.or_eq_true,decide_eq_true_eq,not_or] at hk
  obtain ⟨e1,e2,e3⟩:=rotI (l:=l) (k:=k) (by omega)
  rw [rotF_ok h (by omega),rotC_ok h (by omega),e1,e2,e3]
  exact ⟨rfl,rfl⟩
theorem w38 {n : Nat} {rg ra rb rc : FR} {k : Int} : Con Tryz.prog 38 [QUD n rg ra rb rc,IT k] (1000 * n + 3000 ≤ BIG ∧ I64 k) (MT.tup2 (BT (rotF [rg,ra,rb,rc] k)) (.ex (errV 42 (rotCode [rg,ra,rb,rc] k)))):=.o2 fun hok h1 h2 hp=>by
  refine St.enter (N:=82) Tryz.func38 rfl rfl rfl hok (enter2 h1 h2) fun a=>?_
  have hn1:=qud_pos h1
  repeat' (first | refine W.run ?_ fun a w G=>?_ | refine W.mv fun a w G=>?_ | refine W.asg fun a w G=>?_ | refine W.bx fun b a w G=>?_ | (refine W.nn hK ?_;clear hK K) | refine W.reg fun K hK=>?_ | refine W.reg1 ?_ | refine W.nl ?_ | refine W.sq fun K hK=>?_ | refine W.ds ?_ (fun β a w G hu=>W.fin ?_ hu) mixedOrders (by kernel_rfl) | refine W.sk ?_ | (refine W.kn hK ?_;clear hK K) | refine W.cd (fun hc=>?_) (fun hc=>?_) | refine W.cb (fun hc=>?_) (fun hc=>?_) | refine W.al fun b a w G=>?_ | refine W.st fun w=>?_ | refine W.stp fun w=>?_ | refine W.ste ?_ fun w=>?_ | refine W.bl ?_ | refine W.bn ?_ | refine W.ex ?_ | refine W.xt ?_ | refine W.xb ?_ | refine W.xo ?_ | refine W.rt ?_ | refine W.tr ?_ | refine W.br ?_ | refine W.rt1 rfl ?_ | refine W.rt2 rfl ?_ ?_ | refine W.rt3 rfl ?_ ?_ ?_ | clear hK K | clear hu | exact True.intro | exact Nat.le_trans (by clear hp;omega) hp | exact Nat.le_trans (by clear hp;omega) hp.1 | exact Nat.le_trans (by clear hp;omega) hp.2 | (clear hp;omega) | apply And.intro | refine GI.i fun _=>?_ | with_reducible rfl | decide | (simp only [List.length_cons,List.length_nil];omega))
  all_goals (try simp only [List.length_cons,List.length_nil] at *)
  all_goals (try have hk3 : ¬ (decide (k < 0) || decide (k > 3)) = true:=by (first | assumption | (rw [Bool.not_eq_true];assumption)))
  all_goals first
    | omega
    | exact rotF_0 (by assumption)
    | exact rotC_0 (by assumption)
    | exact rotF_9 (by assumption) (by simp only [Bool.or_eq_true,decide_eq_true_eq] at hc;omega)
    | exact (rotC_9 (by assumption) (by simp only [Bool.or_eq_true,decide_eq_true_eq] at hc;omega)).symm
    | (simp only [Bool.or_eq_true,decide_eq_true_eq,not_or] at hk3;first | omega | (unfold I64;omega))
    | exact (rot_fin (by assumption) hk3).1
    | exact (rot_fin (by assumption) hk3).2
    | exact (rot_fin (by assumption) hk3).2.symm
    | skip
instance {n : Nat} {rg ra rb rc : FR} {k : Int} {τ1 : MT} [j1 : NF τ1 (QUD n rg ra rb rc)] : Con Tryz.prog 38 [τ1,IT k] (1000 * n + 3000 ≤ BIG ∧ I64 k) (MT.tup2 (BT (rotF [rg,ra,rb,rc] k)) (.ex (errV 42 (rotCode [rg,ra,rb,rc] k)))):=.o2 fun hok h1 h2 hp=>w38.c2 hok (j1.h h1) h2 hp
end Go.Proofs.YtlbdoeliaeennaaGreat
namespace Go.Proofs.YtlbdoeliaeennaaGreat
def perms4 : List (List Nat):=[[0,1,2,3],[0,1,3,2],[0,2,1,3],[0,2,3,1],[0,3,1,2],[0,3,2,1],[1,0,2,3],[1,0,3,2],[1,2,0,3],[1,2,3,0],[1,3,0,2],[1,3,2,0],[2,0,1,3],[2,0,3,1],[2,1,0,3],[2,1,3,0],[2,3,0,1],[2,3,1,0],[3,0,1,2],[3,0,2,1],[3,1,0,2],[3,1,2,0],[3,2,0,1],[3,2,1,0]]
theorem perm4 {i j k m : Nat} (h : [i,j,k,m].Perm [0,1,2,3]) : [i,j,k,m] ∈ perms4:=by
  have hm : ∀ x ∈ [i,j,k,m],x < 4:=fun x hx=>by
    have:=h.mem_iff.1 hx
    simp at this;omega
  have all : ∀ i,i < 4 → ∀ j,j < 4 → ∀ k,k < 4 → ∀ m,m < 4 → [i,j,k,m].isPerm [0,1,2,3] = true → perms4.contains [i,j,k,m] = true:=by decide +kernel
  have:=all i (hm i (by simp)) j (hm j (by simp)) k (hm k (by simp)) m (hm m (by simp)) (List.isPerm_iff.2 h)
  simpa using this
end Go.Proofs.YtlbdoeliaeennaaGreat
namespace Go.Proofs.YtlbdoeliaeennaaGreat
open Go.RowKit (Below)
theorem fin_s {R C : Prop} {E : Int} (h : R ↔ E ≤ 0) (hC : C) : (E > 0 → ¬ R) ∧ (E < 0 → (R ↔ C)):=⟨fun e r=>by have:=h.1 r;omega,fun e=>⟨fun _=>hC,fun _=>h.2 (by omega)⟩⟩
theorem fin_n {R C : Prop} {E : Int} (h : R → E = 0) (hC : ¬ C) : (E > 0 → ¬ R) ∧ (E < 0 → (R ↔ C)):=⟨fun e r=>by have:=h r;omega,fun e=>⟨fun r=>by have:=h r;omega,fun c=>absurd c hC⟩⟩
attribute [local irreducible] rotQ compareF befR
set_option maxHeartbeats 4000000 in
theorem turn_law {xs : List Rat} (hn : ∀ j, 0 ≤ xs.getD j default) {i j k m : Nat} (hp : [i, j, k, m].Perm [0, 1, 2, 3]) (b1 : befR xs i j) (b2 : befR xs j k) (b3 : befR xs k m) {t : Nat} (ht : t < 4) :
    (compareF [xs.getD i default,xs.getD m default] [xs.getD j default,xs.getD k default] > 0 → ¬ rotQ (xs.getD t default) (xs.getD ((t + 3) % 4) default) (xs.getD ((t + 1) % 4) default) (xs.getD ((t + 2) % 4) default)) ∧
    (compareF [xs.getD i default,xs.getD m default] [xs.getD j default,xs.getD k default] < 0 → (rotQ (xs.getD t default) (xs.getD ((t + 3) % 4) default) (xs.getD ((t + 1) % 4) default) (xs.getD ((t + 2) % 4) default) ↔ (t = i ∨ (t + 3) % 4 = i))):=by
  have h0:=hn i;have h1:=bef_le b1;have h2:=bef_le b2;have h3:=bef_le b3
  have hm:=perm4 hp
  simp only [perms4,List.mem_cons,List.not_mem_nil,or_false,List.cons.injEq,and_true] at hm
  clear hp b1 b2 b3
  rcases hm with ⟨rfl,rfl,rfl,rfl⟩ | ⟨rfl,rfl,rfl,rfl⟩ | ⟨rfl,rfl,rfl,rfl⟩ | ⟨rfl,rfl,rfl,rfl⟩ | ⟨rfl,rfl,rfl,rfl⟩ | ⟨rfl,rfl,rfl,rfl⟩ | ⟨rfl,rfl,rfl,rfl⟩ | ⟨rfl,rfl,rfl,rfl⟩ | ⟨rfl,rfl,rfl,rfl⟩ | ⟨rfl,rfl,rfl,rfl⟩ | ⟨rfl,rfl,rfl,rfl⟩ | ⟨rfl,rfl,rfl,rfl⟩ | ⟨rfl,rfl,rfl,rfl⟩ | ⟨rfl,rfl,rfl,rfl⟩ | ⟨rfl,rfl,rfl,rfl⟩ | ⟨rfl,rfl,rfl,rfl⟩ | ⟨rfl,rfl,rfl,rfl⟩ | ⟨rfl,rfl,rfl,rfl⟩ | ⟨rfl,rfl,rfl,rfl⟩ | ⟨rfl,rfl,rfl,rfl⟩ | ⟨rfl,rfl,rfl,rfl⟩ | ⟨rfl,rfl,rfl,rfl⟩ | ⟨rfl,rfl,rfl,rfl⟩ | ⟨rfl,rfl,rfl,rfl⟩
  all_goals
    match t,ht with
    | 0, _ => first
        | exact fin_s (rot_sp h0 h1 h2 h3) (by decide)
        | exact fin_s ((rotQ_swap1 (hn _) (hn _) (hn _) (hn _)).trans (rot_sp h0 h1 h2 h3)) (by decide)
        | exact fin_s ((rotQ_swap2 (hn _) (hn _) (hn _) (hn _)).trans (rot_sp h0 h1 h2 h3)) (by decide)
        | exact fin_s ((rotQ_swap1 (hn _) (hn _) (hn _) (hn _)).trans ((rotQ_swap2 (hn _) (hn _) (hn _) (hn _)).trans (rot_sp h0 h1 h2 h3))) (by decide)
        | exact fin_s (rot_sq h0 h1 h2 h3) (by decide)
        | exact fin_s ((rotQ_swap1 (hn _) (hn _) (hn _) (hn _)).trans (rot_sq h0 h1 h2 h3)) (by decide)
        | exact fin_s ((rotQ_swap2 (hn _) (hn _) (hn _) (hn _)).trans (rot_sq h0 h1 h2 h3)) (by decide)
        | exact fin_s ((rotQ_swap1 (hn _) (hn _) (hn _) (hn _)).trans ((rotQ_swap2 (hn _) (hn _) (hn _) (hn _)).trans (rot_sq h0 h1 h2 h3))) (by decide)
        | exact fin_s (rot_sm h0 h1 h2 h3) (by decide)
        | exact fin_s ((rotQ_swap1 (hn _) (hn _) (hn _) (hn _)).trans (rot_sm h0 h1 h2 h3)) (by decide)
        | exact fin_s ((rotQ_swap2 (hn _) (hn _) (hn _) (hn _)).trans (rot_sm h0 h1 h2 h3)) (by decide)
        | exact fin_s ((rotQ_swap1 (hn _) (hn _) (hn _) (hn _)).trans ((rotQ_swap2 (hn _) (hn _) (hn _) (hn _)).trans (rot_sm h0 h1 h2 h3))) (by decide)
        | exact fin_n (fun r=>rot_pq h0 h1 h2 h3 r) (by decide)
        | exact fin_n (fun r=>rot_pq h0 h1 h2 h3 ((rotQ_swap1 (hn _) (hn _) (hn _) (hn _)).1 r)) (by decide)
        | exact fin_n (fun r=>rot_pq h0 h1 h2 h3 ((rotQ_swap2 (hn _) (hn _) (hn _) (hn _)).1 r)) (by decide)
        | exact fin_n (fun r=>rot_pq h0 h1 h2 h3 ((rotQ_swap2 (hn _) (hn _) (hn _) (hn _)).1 ((rotQ_swap1 (hn _) (hn _) (hn _) (hn _)).1 r))) (by decide)
        | exact fin_n (fun r=>rot_pm h0 h1 h2 h3 r) (by decide)
        | exact fin_n (fun r=>rot_pm h0 h1 h2 h3 ((rotQ_swap1 (hn _) (hn _) (hn _) (hn _)).1 r)) (by decide)
        | exact fin_n (fun r=>rot_pm h0 h1 h2 h3 ((rotQ_swap2 (hn _) (hn _) (hn _) (hn _)).1 r)) (by decide)
        | exact fin_n (fun r=>rot_pm h0 h1 h2 h3 ((rotQ_swap2 (hn _) (hn _) (hn _) (hn _)).1 ((rotQ_swap1 (hn _) (hn _) (hn _) (hn _)).1 r))) (by decide)
        | exact fin_n (fun r=>rot_qm h0 h1 h2 h3 r) (by decide)
        | exact fin_n (fun r=>rot_qm h0 h1 h2 h3 ((rotQ_swap1 (hn _) (hn _) (hn _) (hn _)).1 r)) (by decide)
        | exact fin_n (fun r=>rot_qm h0 h1 h2 h3 ((rotQ_swap2 (hn _) (hn _) (hn _) (hn _)).1 r)) (by decide)
        | exact fin_n (fun r=>rot_qm h0 h1 h2 h3 ((rotQ_swap2 (hn _) (hn _) (hn _) (hn _)).1 ((rotQ_swap1 (hn _) (hn _) (hn _) (hn _)).1 r))) (by decide)
    | 1, _ => first
        | exact fin_s (rot_sp h0 h1 h2 h3) (by decide)
        | exact fin_s ((rotQ_swap1 (hn _) (hn _) (hn _) (hn _)).trans (rot_sp h0 h1 h2 h3)) (by decide)
        | exact fin_s ((rotQ_swap2 (hn _) (hn _) (hn _) (hn _)).trans (rot_sp h0 h1 h2 h3)) (by decide)
        | exact fin_s ((rotQ_swap1 (hn _) (hn _) (hn _) (hn _)).trans ((rotQ_swap2 (hn _) (hn _) (hn _) (hn _)).trans (rot_sp h0 h1 h2 h3))) (by decide)
        | exact fin_s (rot_sq h0 h1 h2 h3) (by decide)
        | exact fin_s ((rotQ_swap1 (hn _) (hn _) (hn _) (hn _)).trans (rot_sq h0 h1 h2 h3)) (by decide)
        | exact fin_s ((rotQ_swap2 (hn _) (hn _) (hn _) (hn _)).trans (rot_sq h0 h1 h2 h3)) (by decide)
        | exact fin_s ((rotQ_swap1 (hn _) (hn _) (hn _) (hn _)).trans ((rotQ_swap2 (hn _) (hn _) (hn _) (hn _)).trans (rot_sq h0 h1 h2 h3))) (by decide)
        | exact fin_s (rot_sm h0 h1 h2 h3) (by decide)
        | exact fin_s ((rotQ_swap1 (hn _) (hn _) (hn _) (hn _)).trans (rot_sm h0 h1 h2 h3)) (by decide)
        | exact fin_s ((rotQ_swap2 (hn _) (hn _) (hn _) (hn _)).trans (rot_sm h0 h1 h2 h3)) (by decide)
        | exact fin_s ((rotQ_swap1 (hn _) (hn _) (hn _) (hn _)).trans ((rotQ_swap2 (hn _) (hn _) (hn _) (hn _)).trans (rot_sm h0 h1 h2 h3))) (by decide)
        | exact fin_n (fun r=>rot_pq h0 h1 h2 h3 r) (by decide)
        | exact fin_n (fun r=>rot_pq h0 h1 h2 h3 ((rotQ_swap1 (hn _) (hn _) (hn _) (hn _)).1 r)) (by decide)
        | exact fin_n (fun r=>rot_pq h0 h1 h2 h3 ((rotQ_swap2 (hn _) (hn _) (hn _) (hn _)).1 r)) (by decide)
        | exact fin_n (fun r=>rot_pq h0 h1 h2 h3 ((rotQ_swap2 (hn _) (hn _) (hn _) (hn _)).1 ((rotQ_swap1 (hn _) (hn _) (hn _) (hn _)).1 r))) (by decide)
        | exact fin_n (fun r=>rot_pm h0 h1 h2 h3 r) (by decide)
        | exact fin_n (fun r=>rot_pm h0 h1 h2 h3 ((rotQ_swap1 (hn _) (hn _) (hn _) (hn _)).1 r)) (by decide)
        | exact fin_n (fun r=>rot_pm h0 h1 h2 h3 ((rotQ_swap2 (hn _) (hn _) (hn _) (hn _)).1 r)) (by decide)
        | exact fin_n (fun r=>rot_pm h0 h1 h2 h3 ((rotQ_swap2 (hn _) (hn _) (hn _) (hn _)).1 ((rotQ_swap1 (hn _) (hn _) (hn _) (hn _)).1 r))) (by decide)
        | exact fin_n (fun r=>rot_qm h0 h1 h2 h3 r) (by decide)
        | exact fin_n (fun r=>rot_qm h0 h1 h2 h3 ((rotQ_swap1 (hn _) (hn _) (hn _) (hn _)).1 r)) (by decide)
        | exact fin_n (fun r=>rot_qm h0 h1 h2 h3 ((rotQ_swap2 (hn _) (hn _) (hn _) (hn _)).1 r)) (by decide)
        | exact fin_n (fun r=>rot_qm h0 h1 h2 h3 ((rotQ_swap2 (hn _) (hn _) (hn _) (hn _)).1 ((rotQ_swap1 (hn _) (hn _) (hn _) (hn _)).1 r))) (by decide)
    | 2, _ => first
        | exact fin_s (rot_sp h0 h1 h2 h3) (by decide)
        | exact fin_s ((rotQ_swap1 (hn _) (hn _) (hn _) (hn _)).trans (rot_sp h0 h1 h2 h3)) (by decide)
        | exact fin_s ((rotQ_swap2 (hn _) (hn _) (hn _) (hn _)).trans (rot_sp h0 h1 h2 h3)) (by decide)
        | exact fin_s ((rotQ_swap1 (hn _) (hn _) (hn _) (hn _)).trans ((rotQ_swap2 (hn _) (hn _) (hn _) (hn _)).trans (rot_sp h0 h1 h2 h3))) (by decide)
        | exact fin_s (rot_sq h0 h1 h2 h3) (by decide)
        | exact fin_s ((rotQ_swap1 (hn _) (hn _) (hn _) (hn _)).trans (rot_sq h0 h1 h2 h3)) (by decide)
        | exact fin_s ((rotQ_swap2 (hn _) (hn _) (hn _) (hn _)).trans (rot_sq h0 h1 h2 h3)) (by decide)
        | exact fin_s ((rotQ_swap1 (hn _) (hn _) (hn _) (hn _)).trans ((rotQ_swap2 (hn _) (hn _) (hn _) (hn _)).trans (rot_sq h0 h1 h2 h3))) (by decide)
        | exact fin_s (rot_sm h0 h1 h2 h3) (by decide)
        | exact fin_s ((rotQ_swap1 (hn _) (hn _) (hn _) (hn _)).trans (rot_sm h0 h1 h2 h3)) (by decide)
        | exact fin_s ((rotQ_swap2 (hn _) (hn _) (hn _) (hn _)).trans (rot_sm h0 h1 h2 h3)) (by decide)
        | exact fin_s ((rotQ_swap1 (hn _) (hn _) (hn _) (hn _)).trans ((rotQ_swap2 (hn _) (hn _) (hn _) (hn _)).trans (rot_sm h0 h1 h2 h3))) (by decide)
        | exact fin_n (fun r=>rot_pq h0 h1 h2 h3 r) (by decide)
        | exact fin_n (fun r=>rot_pq h0 h1 h2 h3 ((rotQ_swap1 (hn _) (hn _) (hn _) (hn _)).1 r)) (by decide)
        | exact fin_n (fun r=>rot_pq h0 h1 h2 h3 ((rotQ_swap2 (hn _) (hn _) (hn _) (hn _)).1 r)) (by decide)
        | exact fin_n (fun r=>rot_pq h0 h1 h2 h3 ((rotQ_swap2 (hn _) (hn _) (hn _) (hn _)).1 ((rotQ_swap1 (hn _) (hn _) (hn _) (hn _)).1 r))) (by decide)
        | exact fin_n (fun r=>rot_pm h0 h1 h2 h3 r) (by decide)
        | exact fin_n (fun r=>rot_pm h0 h1 h2 h3 ((rotQ_swap1 (hn _) (hn _) (hn _) (hn _)).1 r)) (by decide)
        | exact fin_n (fun r=>rot_pm h0 h1 h2 h3 ((rotQ_swap2 (hn _) (hn _) (hn _) (hn _)).1 r)) (by decide)
        | exact fin_n (fun r=>rot_pm h0 h1 h2 h3 ((rotQ_swap2 (hn _) (hn _) (hn _) (hn _)).1 ((rotQ_swap1 (hn _) (hn _) (hn _) (hn _)).1 r))) (by decide)
        | exact fin_n (fun r=>rot_qm h0 h1 h2 h3 r) (by decide)
        | exact fin_n (fun r=>rot_qm h0 h1 h2 h3 ((rotQ_swap1 (hn _) (hn _) (hn _) (hn _)).1 r)) (by decide)
        | exact fin_n (fun r=>rot_qm h0 h1 h2 h3 ((rotQ_swap2 (hn _) (hn _) (hn _) (hn _)).1 r)) (by decide)
        | exact fin_n (fun r=>rot_qm h0 h1 h2 h3 ((rotQ_swap2 (hn _) (hn _) (hn _) (hn _)).1 ((rotQ_swap1 (hn _) (hn _) (hn _) (hn _)).1 r))) (by decide)
    | 3, _ => first
        | exact fin_s (rot_sp h0 h1 h2 h3) (by decide)
        | exact fin_s ((rotQ_swap1 (hn _) (hn _) (hn _) (hn _)).trans (rot_sp h0 h1 h2 h3)) (by decide)
        | exact fin_s ((rotQ_swap2 (hn _) (hn _) (hn _) (hn _)).trans (rot_sp h0 h1 h2 h3)) (by decide)
        | exact fin_s ((rotQ_swap1 (hn _) (hn _) (hn _) (hn _)).trans ((rotQ_swap2 (hn _) (hn _) (hn _) (hn _)).trans (rot_sp h0 h1 h2 h3))) (by decide)
        | exact fin_s (rot_sq h0 h1 h2 h3) (by decide)
        | exact fin_s ((rotQ_swap1 (hn _) (hn _) (hn _) (hn _)).trans (rot_sq h0 h1 h2 h3)) (by decide)
        | exact fin_s ((rotQ_swap2 (hn _) (hn _) (hn _) (hn _)).trans (rot_sq h0 h1 h2 h3)) (by decide)
        | exact fin_s ((rotQ_swap1 (hn _) (hn _) (hn _) (hn _)).trans ((rotQ_swap2 (hn _) (hn _) (hn _) (hn _)).trans (rot_sq h0 h1 h2 h3))) (by decide)
        | exact fin_s (rot_sm h0 h1 h2 h3) (by decide)
        | exact fin_s ((rotQ_swap1 (hn _) (hn _) (hn _) (hn _)).trans (rot_sm h0 h1 h2 h3)) (by decide)
        | exact fin_s ((rotQ_swap2 (hn _) (hn _) (hn _) (hn _)).trans (rot_sm h0 h1 h2 h3)) (by decide)
        | exact fin_s ((rotQ_swap1 (hn _) (hn _) (hn _) (hn _)).trans ((rotQ_swap2 (hn _) (hn _) (hn _) (hn _)).trans (rot_sm h0 h1 h2 h3))) (by decide)
        | exact fin_n (fun r=>rot_pq h0 h1 h2 h3 r) (by decide)
        | exact fin_n (fun r=>rot_pq h0 h1 h2 h3 ((rotQ_swap1 (hn _) (hn _) (hn _) (hn _)).1 r)) (by decide)
        | exact fin_n (fun r=>rot_pq h0 h1 h2 h3 ((rotQ_swap2 (hn _) (hn _) (hn _) (hn _)).1 r)) (by decide)
        | exact fin_n (fun r=>rot_pq h0 h1 h2 h3 ((rotQ_swap2 (hn _) (hn _) (hn _) (hn _)).1 ((rotQ_swap1 (hn _) (hn _) (hn _) (hn _)).1 r))) (by decide)
        | exact fin_n (fun r=>rot_pm h0 h1 h2 h3 r) (by decide)
        | exact fin_n (fun r=>rot_pm h0 h1 h2 h3 ((rotQ_swap1 (hn _) (hn _) (hn _) (hn _)).1 r)) (by decide)
        | exact fin_n (fun r=>rot_pm h0 h1 h2 h3 ((rotQ_swap2 (hn _) (hn _) (hn _) (hn _)).1 r)) (by decide)
        | exact fin_n (fun r=>rot_pm h0 h1 h2 h3 ((rotQ_swap2 (hn _) (hn _) (hn _) (hn _)).1 ((rotQ_swap1 (hn _) (hn _) (hn _) (hn _)).1 r))) (by decide)
        | exact fin_n (fun r=>rot_qm h0 h1 h2 h3 r) (by decide)
        | exact fin_n (fun r=>rot_qm h0 h1 h2 h3 ((rotQ_swap1 (hn _) (hn _) (hn _) (hn _)).1 r)) (by decide)
        | exact fin_n (fun r=>rot_qm h0 h1 h2 h3 ((rotQ_swap2 (hn _) (hn _) (hn _) (hn _)).1 r)) (by decide)
        | exact fin_n (fun r=>rot_qm h0 h1 h2 h3 ((rotQ_swap2 (hn _) (hn _) (hn _) (hn _)).1 ((rotQ_swap1 (hn _) (hn _) (hn _) (hn _)).1 r))) (by decide)
end Go.Proofs.YtlbdoeliaeennaaGreat
namespace Go.Proofs.YtlbdoeliaeennaaGreat
open Go.RowKit (Below)
theorem vget (l : List FR) (j : Nat) : (l.map FR.val).getD j default = (l.getD j default).val:=by
  rw [List.getD_eq_getElem?_getD,List.getD_eq_getElem?_getD,List.getElem?_map]
  cases l[j]? with
  | none=>exact val_default.symm
  | some z=>rfl
theorem rotL_iff {l : List FR} {t : Nat} : rotL l t = true ↔ rotQ ((l.map FR.val).getD t default) ((l.map FR.val).getD ((t + 3) % 4) default) ((l.map FR.val).getD ((t + 1) % 4) default) ((l.map FR.val).getD ((t + 2) % 4) default):=by
  simp only [vget]
  unfold rotL rotQ
  rw [Bool.and_eq_true,decide_eq_true_iff,decide_eq_true_iff]
theorem lk_get (l : List FR) (j : Nat) : lk l j = (l.map FR.val).getD ((orderF (l.map FR.val)).getD j default) default:=by rw [vget];rfl
theorem turns {l : List FR} (h : l.all posR = true) {t : Nat} (ht : t < 4) : (excF l > 0 → rotL l t = false) ∧ (excF l < 0 → (rotL l t = true ↔ (t = (orderF (l.map FR.val)).getD 0 default ∨ (t + 3) % 4 = (orderF (l.map FR.val)).getD 0 default))):=by
  obtain ⟨i,j,k,m,e,hp,b1,b2,b3⟩:=order_ok (l.map FR.val)
  have hE : excF l = compareF [(l.map FR.val).getD i default,(l.map FR.val).getD m default] [(l.map FR.val).getD j default,(l.map FR.val).getD k default]:=by
    unfold excF;simp only [lk_get,e];rfl
  have hl:=turn_law (xs:=l.map FR.val) (fun q=>by rw [vget];exact vals_pos h q) hp b1 b2 b3 ht
  rw [← hE] at hl
  rw [e]
  refine ⟨fun h1=>?_,fun h1=>rotL_iff.trans (hl.2 h1)⟩
  cases hr : rotL l t with
  | false=>rfl
  | true=>exact absurd (rotL_iff.1 hr) (hl.1 h1)
def leastI (xs : List Rat) (b i : Nat) : Prop:=b < 4 ∧ (b < i ∨ (i = 0 ∧ b = 0)) ∧ ∀ j,j < i → j = b ∨ befR xs b j
theorem least_0 (xs : List Rat) : leastI xs 0 0:=⟨by decide,.inr ⟨rfl,rfl⟩,fun j hj=>absurd hj (Nat.not_lt_zero _)⟩
theorem least_t {l : List FR} {b i : Nat} (h : leastI (l.map FR.val) b i) (hi : i < 4) (hc : cmpQ (l.getD i default).val (l.getD b default).val < 0) : leastI (l.map FR.val) i (i + 1):=by
  rw [← vget,← vget] at hc
  refine ⟨hi,.inl (by omega),fun j hj=>?_⟩
  rcases Nat.lt_or_ge j i with h1 | h1
  · right
    have hb : befR (l.map FR.val) i b:=by
      rcases h.2.1 with h2 | ⟨h2,h3⟩
      · exact bef_t h2 hc
      · omega
    rcases h.2.2 j h1 with h2 | h2
    · rw [h2];exact hb
    · exact bef_trans hb h2
  · left;omega
theorem least_f {l : List FR} {b i : Nat} (h : leastI (l.map FR.val) b i) (hc : ¬ cmpQ (l.getD i default).val (l.getD b default).val < 0) : leastI (l.map FR.val) b (i + 1):=by
  rw [← vget,← vget] at hc
  refine ⟨h.1,.inl (by rcases h.2.1 with h2 | ⟨h2,h3⟩ <;> omega),fun j hj=>?_⟩
  rcases Nat.lt_or_ge j i with h1 | h1
  · exact h.2.2 j h1
  · obtain rfl : j = i:=by omega
    rcases h.2.1 with h2 | ⟨h2,h3⟩
    · exact .inr (bef_f h2 hc)
    · left;omega
theorem least_end {xs : List Rat} {b : Nat} (h : leastI xs b 4) : b = (orderF xs).getD 0 default:=by
  obtain ⟨i,j,k,m,e,hp,b1,b2,b3⟩:=order_ok xs
  rw [e]
  show b = i
  have hb : b ∈ [i,j,k,m]:=hp.mem_iff.2 (by have:=h.1;simp;omega)
  have hi4 : i < 4:=by have:=hp.mem_iff.1 (show i ∈ [i,j,k,m] by simp);simp at this;omega
  rcases h.2.2 i hi4 with h1 | h1
  · exact h1.symm
  · simp only [List.mem_cons,List.not_mem_nil,or_false] at hb
    rcases hb with h2 | h2 | h2 | h2
    · exact h2
    · subst h2;exact (bef_asymm h1 b1).elim
    · subst h2;exact (bef_asymm h1 (bef_trans b1 b2)).elim
    · subst h2;exact (bef_asymm h1 (bef_trans (bef_trans b1 b2) b3)).elim
theorem excRes_ok {l : List FR} (h : chkF l = 0) : excRes l = excF l:=by unfold excRes;rw [if_pos h]
theorem rotF_in {l : List FR} {i : Nat} (h : chkF l = 0) (hi : i < 4) : rotF l ((i : Nat) : Int) = rotL l i:=by rw [rotF_ok (by omega) (by omega)];simp
theorem sh_eq1 {r : Bool} {t o c : Nat} (h : r = true ↔ (t = o ∨ (t + 3) % 4 = o)) (hc : c = o) (ht : t = c) : (!(r == true)) = false:=by
  rw [h.2 (.inl (ht.trans hc))];rfl
theorem sh_eq2 {r : Bool} {t o c : Nat} (h : r = true ↔ (t = o ∨ (t + 3) % 4 = o)) (hc : c = o) (ht : ¬ t = c) : (!(r == decide ((t + 3) % 4 = c))) = false:=by
  subst hc
  by_cases h2 : (t + 3) % 4 = c
  · rw [h.2 (.inr h2),decide_eq_true h2];rfl
  · rw [decide_eq_false h2]
    cases r with
    | false=>rfl
    | true => rcases h.1 rfl with h3 | h3
              · exact absurd h3 ht
              · exact absurd h3 h2
end Go.Proofs.YtlbdoeliaeennaaGreat
namespace Go.Proofs.YtlbdoeliaeennaaGreat
open Go.RowKit (Below)
theorem md4_lt (k : Int) : md4 k < 4:=by
  have h : md4 k = (k % 4).toNat:=rfl
  omega
theorem tmod4 (k : Int) : k.tmod 4 = k % 4 ∨ (k.tmod 4 = k % 4 - 4 ∧ k % 4 ≠ 0):=by
  rw [Int.tmod_eq_emod]
  split
  · left;omega
  · rename_i h
    right
    have h2 : ¬ (4 : Int) ∣ k:=fun h3=>h (.inr h3)
    refine ⟨by simp,fun h3=>h2 (Int.dvd_of_emod_eq_zero h3)⟩
theorem tmod4_bd (k : Int) : -9223372036854775808 ≤ k.tmod 4 + 4 ∧ k.tmod 4 + 4 ≤ 9223372036854775807:=by
  have:=tmod4 k;omega
theorem md4_eq (k : Int) : (k.tmod 4 + 4).tmod 4 = ((md4 k : Nat) : Int):=by
  have h:=tmod4 k
  have h1 : (k.tmod 4 + 4).tmod 4 = (k.tmod 4 + 4) % 4:=Int.tmod_eq_emod_of_nonneg (by omega)
  rw [h1]
  have h2 : ((md4 k : Nat) : Int) = k % 4:=by unfold md4;exact Int.toNat_of_nonneg (Int.emod_nonneg k (by decide))
  rw [h2]
  omega
def invL (l : List FR) (m n : Nat) : List FR:=(List.range n).map fun j=>FR.of ((l.getD ((j + m) % 4) default).val)
theorem inv_next {l : List FR} {m n : Nat} : invL l m n ++ [FR.of ((l.getD ((n + m) % 4) default).val)] = invL l m (n + 1):=by unfold invL;rw [List.range_succ,List.map_append];rfl
theorem inv_len {l : List FR} {m n : Nat} : (invL l m n).length = n:=by unfold invL;simp
theorem inv_at {l : List FR} {k : Int} {j : Nat} (h : chkF l = 0) (hj : j < 4) : (invL l (md4 k) 4).getD j default = invF l k j:=by
  unfold invF invL;rw [if_pos h]
  rw [List.getD_eq_getElem?_getD,List.getElem?_map,List.getElem?_range hj];rfl
theorem inv_bad {l : List FR} {k : Int} {j : Nat} (h : chkF l ≠ 0) : default = invF l k j:=by unfold invF;rw [if_neg h]
end Go.Proofs.YtlbdoeliaeennaaGreat
namespace Go.Proofs.YtlbdoeliaeennaaGreat
open Go.RowKit (Below)
def svF (xs : List Rat) : List Rat:=(orderF xs).map fun j=>xs.getD j default
theorem sv_perm {a b c d : Rat} : (svF [a,b,c,d]).Perm [a,b,c,d]:=by
  obtain ⟨i,j,k,m,e,hp,_⟩:=order_ok [a,b,c,d]
  unfold svF;rw [e]
  exact (hp.map _ : ([i,j,k,m].map fun j=>[a,b,c,d].getD j default).Perm ([0,1,2,3].map fun j=>[a,b,c,d].getD j default))
theorem sv_sorted (xs : List Rat) : (svF xs).Pairwise (· ≤ ·):=by
  obtain ⟨i,j,k,m,e,hp,b1,b2,b3⟩:=order_ok xs
  unfold svF;rw [e]
  have h1:=bef_le b1;have h2:=bef_le b2;have h3:=bef_le b3
  simp only [List.map_cons,List.map_nil,List.pairwise_cons,List.mem_cons,List.not_mem_nil,or_false,forall_eq_or_imp,forall_eq,List.Pairwise.nil,and_true]
  refine ⟨⟨h1,?_,?_⟩,⟨h2,?_⟩,h3,by simp⟩ <;> grind
theorem sv_eq {xs ys : List Rat} (h : (svF xs).Perm (svF ys)) : svF xs = svF ys :=
  h.eq_of_pairwise (le:=(· ≤ ·)) (fun a b _ _ h k=>by grind) (sv_sorted xs) (sv_sorted ys)
theorem sv_get {xs : List Rat} {j : Nat} (hj : j < 4) : (svF xs).getD j default = xs.getD ((orderF xs).getD j default) default:=by
  unfold svF
  have:=orderF_len xs
  rw [List.getD_eq_getElem?_getD,List.getD_eq_getElem?_getD (l:=orderF xs),List.getElem?_map,List.getElem?_eq_getElem (by omega)]
  rfl
theorem lk_sv {l : List FR} {j : Nat} (hj : j < 4) : lk l j = (svF (l.map FR.val)).getD j default:=by rw [lk_get,sv_get hj]
def invQ (l : List FR) (k : Int) : List FR:=[invF l k 0,invF l k 1,invF l k 2,invF l k 3]
theorem invQ_vals {ra rb rc rd : FR} {k : Int} (h : chkF [ra,rb,rc,rd] = 0) : (invQ [ra,rb,rc,rd] k).map FR.val = [([ra,rb,rc,rd].getD ((0 + md4 k) % 4) default).val,([ra,rb,rc,rd].getD ((1 + md4 k) % 4) default).val,([ra,rb,rc,rd].getD ((2 + md4 k) % 4) default).val,([ra,rb,rc,rd].getD ((3 + md4 k) % 4) default).val]:=by
  unfold invQ invF;simp only [if_pos h,List.map_cons,List.map_nil,FR.of_val]
theorem inv_perm {ra rb rc rd : FR} {k : Int} (h : chkF [ra,rb,rc,rd] = 0) : ((invQ [ra,rb,rc,rd] k).map FR.val).Perm ([ra,rb,rc,rd].map FR.val):=by
  rw [invQ_vals h]
  have hm:=md4_lt k
  generalize md4 k = m at hm
  match m,hm with
  | 0,_=>exact List.Perm.refl _
  | 1,_=>exact List.perm_append_comm (l₁:=[rb.val,rc.val,rd.val]) (l₂:=[ra.val])
  | 2,_=>exact List.perm_append_comm (l₁:=[rc.val,rd.val]) (l₂:=[ra.val,rb.val])
  | 3,_=>exact List.perm_append_comm (l₁:=[rd.val]) (l₂:=[ra.val,rb.val,rc.val])
theorem inv_sv {ra rb rc rd : FR} {k : Int} (h : chkF [ra,rb,rc,rd] = 0) : svF ((invQ [ra,rb,rc,rd] k).map FR.val) = svF ([ra,rb,rc,rd].map FR.val) :=
  sv_eq (sv_perm.trans ((inv_perm h).trans sv_perm.symm))
theorem inv_lk {ra rb rc rd : FR} {k : Int} (h : chkF [ra,rb,rc,rd] = 0) {j : Nat} (hj : j < 4) : lk (invQ [ra,rb,rc,rd] k) j = lk [ra,rb,rc,rd] j:=by rw [lk_sv hj,lk_sv hj,inv_sv h]
theorem inv_exc {ra rb rc rd : FR} {k : Int} (h : chkF [ra,rb,rc,rd] = 0) : excF (invQ [ra,rb,rc,rd] k) = excF [ra,rb,rc,rd]:=by
  unfold excF
  rw [inv_lk h (by decide),inv_lk h (by decide),inv_lk h (by decide),inv_lk h (by decide)]
theorem inv_pos {l : List FR} {k : Int} (h : chkF l = 0) (hl : l.length = 4) : (invQ l k).all posR = true:=by
  have hp:=chk_pos h
  have : ∀ j,posR (invF l k j) = true:=fun j=>by
    unfold invF;rw [if_pos h,posR_of4]
    have hlt : (j + md4 k) % 4 < l.length:=by rw [hl];exact Nat.mod_lt _ (by decide)
    refine decide_eq_true (posR_val (List.all_eq_true.1 hp _ ?_))
    rw [List.getD_eq_getElem?_getD,List.getElem?_eq_getElem hlt];exact List.getElem_mem hlt
  unfold invQ;simp [this]
theorem inv_chk {ra rb rc rd : FR} {k : Int} (h : chkF [ra,rb,rc,rd] = 0) : chkF (invQ [ra,rb,rc,rd] k) = 0:=by
  have h2:=h
  unfold chkF at h ⊢
  rw [inv_pos h2 rfl,inv_lk h2 (by decide),inv_lk h2 (by decide),inv_lk h2 (by decide),inv_lk h2 (by decide)]
  rw [chk_pos h2] at h
  exact h
theorem exc_strict {s p q m : Rat} (h0 : 0 ≤ s) (h1 : s ≤ p) (h2 : p ≤ q) (h3 : q ≤ m) (hE : compareF [s,m] [p,q] < 0) : s < p:=by
  rcases Classical.em (s < p) with h | h
  · exact h
  · have e : s = p:=by grind
    subst e
    have hq:=rt_le (show 0 ≤ q by grind) h3
    rw [cmp4 h0 (by grind) h0 (by grind)] at hE
    have : sgR (rt s + rt m - (rt s + rt q)) ≥ 0:=sgR_ge.2 (RR.add_le_add (RR.le_refl _) hq)
    omega
def hd4 (l : List FR) : Nat:=(orderF (l.map FR.val)).getD 0 default
theorem inv_hd {ra rb rc rd : FR} {k : Int} (h : chkF [ra,rb,rc,rd] = 0) (hE : excF [ra,rb,rc,rd] < 0) : (hd4 (invQ [ra,rb,rc,rd] k) + md4 k) % 4 = hd4 [ra,rb,rc,rd]:=by
  have hv : ((invQ [ra,rb,rc,rd] k).map FR.val).getD (hd4 (invQ [ra,rb,rc,rd] k)) default = ([ra,rb,rc,rd].map FR.val).getD (hd4 [ra,rb,rc,rd]) default:=by
    have:=inv_lk (k:=k) h (j:=0) (by decide)
    rw [lk_get,lk_get] at this
    exact this
  have hlt : hd4 (invQ [ra,rb,rc,rd] k) < 4:=orderF_lt _ 0
  have hg : ((invQ [ra,rb,rc,rd] k).map FR.val).getD (hd4 (invQ [ra,rb,rc,rd] k)) default = ([ra,rb,rc,rd].map FR.val).getD ((hd4 (invQ [ra,rb,rc,rd] k) + md4 k) % 4) default:=by
    rw [invQ_vals h,vget]
    generalize hd4 (invQ [ra,rb,rc,rd] k) = q at hlt
    match q,hlt with
    | 0,_=>rfl
    | 1,_=>rfl
    | 2,_=>rfl
    | 3,_=>rfl
  rw [hg] at hv
  have hq : (hd4 (invQ [ra,rb,rc,rd] k) + md4 k) % 4 < 4:=Nat.mod_lt _ (by decide)
  generalize (hd4 (invQ [ra,rb,rc,rd] k) + md4 k) % 4 = q at hv hq
  obtain ⟨i,j,k',m,e,hp,b1,b2,b3⟩:=order_ok ([ra,rb,rc,rd].map FR.val)
  have hpos:=chk_pos h
  have hh : hd4 [ra,rb,rc,rd] = i:=by unfold hd4;rw [e];rfl
  rw [hh] at hv ⊢
  have hE' : excF [ra,rb,rc,rd] = compareF [([ra,rb,rc,rd].map FR.val).getD i default,([ra,rb,rc,rd].map FR.val).getD m default] [([ra,rb,rc,rd].map FR.val).getD j default,([ra,rb,rc,rd].map FR.val).getD k' default]:=by
    unfold excF;simp only [lk_get,e];rfl
  rw [hE'] at hE
  have l1:=bef_le b1;have l2:=bef_le b2;have l3:=bef_le b3
  have hs:=exc_strict (by rw [vget];exact vals_pos hpos _) l1 l2 l3 hE
  have hm : q ∈ [i,j,k',m]:=hp.mem_iff.2 (by simp;omega)
  simp only [List.mem_cons,List.not_mem_nil,or_false] at hm
  rcases hm with h2 | h2 | h2 | h2
  · exact h2
  all_goals (subst h2;exfalso;grind)
end Go.Proofs.YtlbdoeliaeennaaGreat
namespace Go.Proofs.YtlbdoeliaeennaaGreat
theorem md4_mod (k : Nat) : md4 ((k % 4 : Nat) : Int) = k % 4:=by
  have h : md4 ((k % 4 : Nat) : Int) = (((k % 4 : Nat) : Int) % 4).toNat:=rfl
  omega
theorem cmp_bd (l m : List Rat) (hl : ∀ q ∈ l,0 ≤ q) (hm : ∀ q ∈ m,0 ≤ q) : compareF l m = -1 ∨ compareF l m = 0 ∨ compareF l m = 1:=by
  rw [compareF_sg hl hm]
  rcases sgR_cases (rs l - rs m) with h | h | h <;> simp [h.2]
theorem exc_bd {ra rb rc rd : FR} (h : chkF [ra,rb,rc,rd] = 0) : excF [ra,rb,rc,rd] = -1 ∨ excF [ra,rb,rc,rd] = 0 ∨ excF [ra,rb,rc,rd] = 1:=by
  have hp : ∀ j,0 ≤ lk [ra,rb,rc,rd] j:=fun j=>by
    unfold lk;exact vals_pos (chk_pos h) _
  unfold excF
  exact cmp_bd _ _ (by simp [hp]) (by simp [hp])
def lnk (j : Nat) : Nat:=([1,0,2,3] : List Nat).getD j default
theorem lnk_lnk {j : Nat} (h : j < 4) : ([1,0,2,3] : List Nat).getD (lnk j) default = j:=by
  match j,h with
  | 0,_=>rfl
  | 1,_=>rfl
  | 2,_=>rfl
  | 3,_=>rfl
theorem lnk_lt (j : Nat) : lnk j < 4:=by
  unfold lnk
  match j with
  | 0=>decide
  | 1=>decide
  | 2=>decide
  | 3=>decide
  | j + 4=>exact (show 0 < 4 by decide)
theorem hd4_lt (l : List FR) : hd4 l < 4:=orderF_lt _ 0
theorem cls_up {ra rb rc rd : FR} (h : chkF [ra,rb,rc,rd] = 0) (hE : excF [ra,rb,rc,rd] ≥ 0) : clsF [ra,rb,rc,rd] = if excF [ra,rb,rc,rd] > 0 then 4 else 5:=by
  unfold clsF;rw [if_pos h]
  rcases exc_bd h with e | e | e
  · omega
  · rw [e];rfl
  · rw [e];rfl
theorem cls_dn {ra rb rc rd : FR} (h : chkF [ra,rb,rc,rd] = 0) (hE : excF [ra,rb,rc,rd] < 0) : clsF [ra,rb,rc,rd] = ((lnk (hd4 [ra,rb,rc,rd]) : Nat) : Int):=by
  unfold clsF;rw [if_pos h,if_neg (by omega),if_neg (by omega)];rfl
theorem cls_bd {ra rb rc rd : FR} (h : chkF [ra,rb,rc,rd] = 0) : 0 ≤ clsF [ra,rb,rc,rd] ∧ clsF [ra,rb,rc,rd] ≤ 5:=by
  rcases Int.lt_or_le (excF [ra,rb,rc,rd]) 0 with e | e
  · rw [cls_dn h e];have:=lnk_lt (hd4 [ra,rb,rc,rd]);omega
  · rw [cls_up h e];split <;> omega
theorem inv_hd2 {ra rb rc rd : FR} {k : Nat} (h : chkF [ra,rb,rc,rd] = 0) (hE : excF [ra,rb,rc,rd] < 0) : (hd4 (invQ [ra,rb,rc,rd] ((k % 4 : Nat) : Int)) + k % 4) % 4 = hd4 [ra,rb,rc,rd]:=by
  have:=inv_hd (k:=((k % 4 : Nat) : Int)) h hE
  rwa [md4_mod] at this
end Go.Proofs.YtlbdoeliaeennaaGreat
