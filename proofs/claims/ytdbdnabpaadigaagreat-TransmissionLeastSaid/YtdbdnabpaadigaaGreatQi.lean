import Derived.Test.YtdbdnabpaadigaaGreatQh
set_option linter.unusedVariables false
set_option linter.unusedSimpArgs false
set_option linter.unusedVariables false
set_option linter.unusedSimpArgs false
set_option maxHeartbeats 4000000
set_option maxRecDepth 100000
set_option synthInstance.maxSize 100000
set_option synthInstance.maxHeartbeats 400000
namespace Go.Proofs.YtdbdnabpaadigaaGreat
open Go.RowKit (Below)
attribute [local irreducible] Go.Code.wp Go.wpList Go.bodyPost
private theorem gS_ {W0 : World} {G0 : Gh} {N : Nat} {L : List (Nat × MT)} {B : List BX} {a : Act} {w : World} {G : Gh} {q : Prop} (h : St W0 G0 N L B a w G → q) : St W0 G0 N L B a w G → q:=h
private theorem gL_ {p : Prop} {P : Program} {arr : Array Oper} {Q : Exit → Act → World → Prop} {l : List Oper} {a : Act} {w : World} (h : p → wpList P arr Q l a w) : p → wpList P arr Q l a w:=h
private theorem gC_ {p : Prop} {P : Program} {c : Code} {Q : Exit → Act → World → Prop} {a : Act} {w : World} (h : p → c.wp P Q a w) : p → c.wp P Q a w:=h
private theorem mixedOrders : Tryz.prog.follows .mixedOrders = true:=by kernel_rfl
instance : DecidableEq FR:=fun r s=>decidable_of_iff (r.s = s.s ∧ r.p = s.p ∧ r.q = s.q) ⟨fun h=>by obtain ⟨a,b,c⟩:=r;obtain ⟨d,e,f⟩:=s;simp only at h;obtain ⟨rfl,rfl,rfl⟩:=h;rfl,fun h=>by subst h;exact ⟨rfl,rfl,rfl⟩⟩
theorem FR.eq_dec {r s : FR} : ((r.s == s.s) && decide (r.p = s.p) && decide (r.q = s.q)) = decide (r = s):=by
  rw [Bool.eq_iff_iff,Bool.and_eq_true,Bool.and_eq_true,decide_eq_true_eq,decide_eq_true_eq,decide_eq_true_eq,beq_iff_eq]
  obtain ⟨a,b,c⟩:=r;obtain ⟨d,e,f⟩:=s;simp [and_assoc]
theorem FR.of_inj {x y : Rat} (h : FR.of x = FR.of y) : x = y:=by rw [← FR.of_val (x:=x),h,FR.of_val]
section
variable {α : Type} {l k : List α} {j : Nat}
theorem eq_ln [DecidableEq α] (h : decide (((l.length : Nat) : Int) ≠ ((k.length : Nat) : Int)) = true) : false = decide (l = k):=by
  rw [decide_eq_true_eq] at h;exact (decide_eq_false fun e=>h (by rw [e])).symm
theorem eq_at [Inhabited α] [DecidableEq α] (hj : j < l.length) (hl : l.length = k.length) (h : l.getD j default ≠ k.getD j default) : false = decide (l = k):=(decide_eq_false fun e=>h (by rw [e])).symm
theorem eq_nx [Inhabited α] (hj : j < l.length) (hl : l.length = k.length) (h : l.take j = k.take j) (e : l.getD j default = k.getD j default) : l.take (j + 1) = k.take (j + 1):=by
  rw [List.getD_eq_getElem?_getD,List.getD_eq_getElem?_getD,List.getElem?_eq_getElem hj,List.getElem?_eq_getElem (by omega)] at e
  rw [List.take_add_one,List.take_add_one,h,List.getElem?_eq_getElem hj,List.getElem?_eq_getElem (by omega)]
  simp only [Option.getD_some] at e;rw [e]
theorem eq_en [DecidableEq α] (hj : ¬ j < l.length) (hl : l.length = k.length) (h : l.take j = k.take j) : true = decide (l = k):=by
  rw [List.take_of_length_le (by omega),List.take_of_length_le (by omega)] at h
  exact (decide_eq_true h).symm
end
theorem dig_getD (l : List Nat) (j : Nat) : dig l j = l.getD j default:=rfl
theorem w193 {l k : List Nat} : Con Tryz.prog 193 [SL l,SL k] (True) (BT (decide (l = k))):=.o2 fun hok h1 h2 hp=>by
  refine St.enter (N:=26) Tryz.func193 rfl rfl rfl hok (enter2 h1 h2) fun a=>?_
  have hlim:=SL.lim h1
  have hlim2:=SL.lim h2
  simp only [LIM] at hlim hlim2
  repeat' (first|((with_reducible refine gS_ ?_);first|((with_reducible refine gL_ ?_);first|refine W.run ?_ fun a w G=>?_|refine W.mv fun a w G=>?_|refine W.asg fun a w G=>?_|refine W.bx fun b a w G=>?_|(refine W.nn hK ?_;clear hK K)|refine W.nl ?_|refine W.al fun b a w G=>?_|refine W.st fun w=>?_|refine W.stp fun w=>?_|refine W.ste ?_ fun w=>?_)|((with_reducible refine gC_ ?_);first|refine W.reg fun K hK=>?_|refine W.reg1 ?_|refine W.sq fun K hK=>?_|refine W.ds ?_ (fun β a w G hu=>W.fin ?_ hu) mixedOrders (by kernel_rfl)|refine W.sk ?_|refine W.cd (fun hc=>?_) (fun hc=>?_)|refine W.cb (fun hc=>?_) (fun hc=>?_)|refine W.bl ?_|refine W.ex ?_|refine W.rt ?_)|((with_reducible refine W.kn hK ?_);clear hK K)|(with_reducible first|refine W.bn ?_|refine W.xt ?_|refine W.xb ?_|refine W.xo ?_|refine W.tr ?_|refine W.br ?_)|refine W.rt1 rfl ?_|refine W.rt2 rfl ?_ ?_|refine W.rt3 rfl ?_ ?_ ?_)|refine W.lp 11 (α:=Nat) (fun j=>l.length - j) (fun j=>j ≤ l.length ∧ l.take j = k.take j) [4,5,11,12,13,14,15,16,17,18,19,20,21,22,23,24,25] (fun j=>[(5,NT j)]) (fun j=>[]) (0) ?_ ?_ ?_ fun j hj a w G=>?_|refine W.ag (x:=j) (j+1) ?_ ?_ ?_ ?_|clear hK K|clear hu|exact True.intro|exact Nat.le_trans (by clear hp;omega) hp|exact Nat.le_trans (by clear hp;omega) hp.1|exact Nat.le_trans (by clear hp;omega) hp.2|(clear hp;omega)|apply And.intro|refine GI.i fun _=>?_|with_reducible rfl|decide|(simp only [List.length_cons,List.length_nil];omega))
  all_goals first
    | exact eq_ln (decide_eq_true hc)
    | (simp;done)
    | (exact (decide_eq_false fun e=>hc (by rw [e])).symm)
    | (have hle : l.length = k.length := by (have h0 : ¬ ((l.length : Nat) : Int) ≠ ((k.length : Nat) : Int) := by assumption); omega
       first
       | omega
       | exact eq_en (by omega) hle hj.2
       | ((simp only [Int.toNat_natCast,dig_getD] at *);first
         | exact eq_at (by omega) hle (by assumption)
         | exact eq_nx (by omega) hle hj.2 (Classical.not_not.1 (by assumption))))
    | skip
instance {l k : List Nat} {τ1 : MT} [j1 : NL τ1 (SL l)] {τ2 : MT} [j2 : NL τ2 (SL k)] : Con Tryz.prog 193 [τ1,τ2] (True) (BT (decide (l = k))):=.o2 fun hok h1 h2 hp=>w193.c2 hok (j1.h h1) (j2.h h2) hp
theorem w148 {r s : FR} : Con Tryz.prog 148 [RX r,RX s] (True) (BT (decide (r = s))):=.o2 fun hok h1 h2 hp=>by
  refine St.enter (N:=24) Tryz.func148 rfl rfl rfl hok (enter2 h1 h2) fun a=>?_
  repeat' (first|((with_reducible refine gS_ ?_);first|((with_reducible refine gL_ ?_);first|refine W.run ?_ fun a w G=>?_|refine W.mv fun a w G=>?_|refine W.asg fun a w G=>?_|refine W.bx fun b a w G=>?_|(refine W.nn hK ?_;clear hK K)|refine W.nl ?_|refine W.al fun b a w G=>?_|refine W.st fun w=>?_|refine W.stp fun w=>?_|refine W.ste ?_ fun w=>?_)|((with_reducible refine gC_ ?_);first|refine W.reg fun K hK=>?_|refine W.reg1 ?_|refine W.sq fun K hK=>?_|refine W.ds ?_ (fun β a w G hu=>W.fin ?_ hu) mixedOrders (by kernel_rfl)|refine W.sk ?_|refine W.cd (fun hc=>?_) (fun hc=>?_)|refine W.cb (fun hc=>?_) (fun hc=>?_)|refine W.bl ?_|refine W.ex ?_|refine W.rt ?_)|((with_reducible refine W.kn hK ?_);clear hK K)|(with_reducible first|refine W.bn ?_|refine W.xt ?_|refine W.xb ?_|refine W.xo ?_|refine W.tr ?_|refine W.br ?_)|refine W.rt1 rfl ?_|refine W.rt2 rfl ?_ ?_|refine W.rt3 rfl ?_ ?_ ?_)|clear hK K|clear hu|exact True.intro|exact Nat.le_trans (by clear hp;omega) hp|exact Nat.le_trans (by clear hp;omega) hp.1|exact Nat.le_trans (by clear hp;omega) hp.2|(clear hp;omega)|apply And.intro|refine GI.i fun _=>?_|with_reducible rfl|decide|(simp only [List.length_cons,List.length_nil];omega))
  all_goals first | exact FR.eq_dec | skip
instance {r s : FR} {τ1 : MT} [j1 : NR τ1 (RX r)] {τ2 : MT} [j2 : NR τ2 (RX s)] : Con Tryz.prog 148 [τ1,τ2] (True) (BT (decide (r = s))):=.o2 fun hok h1 h2 hp=>w148.c2 hok (j1.h h1) (j2.h h2) hp
theorem w88 {xs ys : List FR} : Con Tryz.prog 88 [LS (some 3) (xs.map RX),LS (some 3) (ys.map RX)] (True) (BT (decide (xs = ys))):=.o2 fun hok h1 h2 hp=>by
  refine St.enter (N:=27) Tryz.func88 rfl rfl rfl hok (enter2 h1 h2) fun a=>?_
  have hlim:=LS.lenM h1
  have hlim2:=LS.lenM h2
  simp only [LIM] at hlim hlim2
  repeat' (first|((with_reducible refine gS_ ?_);first|((with_reducible refine gL_ ?_);first|refine W.run ?_ fun a w G=>?_|refine W.mv fun a w G=>?_|refine W.asg fun a w G=>?_|refine W.bx fun b a w G=>?_|(refine W.nn hK ?_;clear hK K)|refine W.nl ?_|refine W.al fun b a w G=>?_|refine W.st fun w=>?_|refine W.stp fun w=>?_|refine W.ste ?_ fun w=>?_)|((with_reducible refine gC_ ?_);first|refine W.reg fun K hK=>?_|refine W.reg1 ?_|refine W.sq fun K hK=>?_|refine W.ds ?_ (fun β a w G hu=>W.fin ?_ hu) mixedOrders (by kernel_rfl)|refine W.sk ?_|refine W.cd (fun hc=>?_) (fun hc=>?_)|refine W.cb (fun hc=>?_) (fun hc=>?_)|refine W.bl ?_|refine W.ex ?_|refine W.rt ?_)|((with_reducible refine W.kn hK ?_);clear hK K)|(with_reducible first|refine W.bn ?_|refine W.xt ?_|refine W.xb ?_|refine W.xo ?_|refine W.tr ?_|refine W.br ?_)|refine W.rt1 rfl ?_|refine W.rt2 rfl ?_ ?_|refine W.rt3 rfl ?_ ?_ ?_)|refine W.lp 11 (α:=Nat) (fun j=>xs.length - j) (fun j=>j ≤ xs.length ∧ xs.take j = ys.take j) [4,5,11,12,13,14,15,16,17,18,19,20,21,22,23,24,25,26] (fun j=>[(5,NT j)]) (fun j=>[]) (0) ?_ ?_ ?_ fun j hj a w G=>?_|refine W.ag (x:=j) (j+1) ?_ ?_ ?_ ?_|clear hK K|clear hu|exact True.intro|exact Nat.le_trans (by clear hp;omega) hp|exact Nat.le_trans (by clear hp;omega) hp.1|exact Nat.le_trans (by clear hp;omega) hp.2|(clear hp;omega)|apply And.intro|refine GI.i fun _=>?_|with_reducible rfl|decide|(simp only [List.length_cons,List.length_nil];omega))
  all_goals first
    | exact eq_ln (decide_eq_true hc)
    | (simp;done)
    | (exact (decide_eq_false fun e=>hc (by rw [e])).symm)
    | (have hle : xs.length = ys.length := by (have h0 : ¬ ((xs.length : Nat) : Int) ≠ ((ys.length : Nat) : Int) := by assumption); omega
       first
       | omega
       | exact eq_en (by omega) hle hj.2
       | (first
         | (refine eq_at (j:=j) (by omega) hle ?_;simp only [Bool.not_eq_true',decide_eq_false_iff_not] at hc;exact hc)
         | exact eq_nx (by omega) hle hj.2 (by simpa using hc)))
    | skip
instance {xs ys : List FR} {τ1 : MT} [j1 : NR τ1 (LS (some 3) (xs.map RX))] {τ2 : MT} [j2 : NR τ2 (LS (some 3) (ys.map RX))] : Con Tryz.prog 88 [τ1,τ2] (True) (BT (decide (xs = ys))):=.o2 fun hok h1 h2 hp=>w88.c2 hok (j1.h h1) (j2.h h2) hp
abbrev LFR (l : List FR) : MT:=LS (some 3) (l.map RX)
instance {l : List FR} : AsT (LS (some 3) (l.map RX)) LFR l:=⟨fun h=>h⟩
theorem NM.lfr {n : Nat} {l : List Rat} {v : Value} {G : Gh} (h : (NM n l).t v G) : (LFR (l.map FR.of)).t v G:=LS.convM (T:=QC n) (U:=RX) (f:=FR.of) h (by simp) fun x hx v G hv=>FX.toRX (QC.toFX hv (QC.one hv))
instance NR.nm {n : Nat} {l : List Rat} : NR (LS (some 3) (l.map (QC n))) (LS (some 3) ((l.map FR.of).map RX)):=⟨NM.lfr⟩
instance NR.rts {n : Nat} {rs : List (List Rat)} : NR (LS none (rs.map (NM n))) (LS none ((rs.map (List.map FR.of)).map LFR)):=⟨fun h=>LS.convM (T:=NM n) (U:=LFR) (f:=List.map FR.of) h (by simp) fun x hx v G hv=>NM.lfr hv⟩
theorem mof_inj {l k : List Rat} (h : l.map FR.of = k.map FR.of) : l = k:=by
  induction l generalizing k with
  | nil=>cases k with
    | nil=>rfl
    | cons y k=>cases h
  | cons x l ih=>cases k with
    | nil=>cases h
    | cons y k=>simp only [List.map_cons,List.cons.injEq] at h;rw [FR.of_inj h.1,ih h.2]
theorem mmof_inj {l k : List (List Rat)} (h : l.map (List.map FR.of) = k.map (List.map FR.of)) : l = k:=by
  induction l generalizing k with
  | nil=>cases k with
    | nil=>rfl
    | cons y k=>cases h
  | cons x l ih=>cases k with
    | nil=>cases h
    | cons y k=>simp only [List.map_cons,List.cons.injEq] at h;rw [mof_inj h.1,ih h.2]
theorem mof_dec {l k : List Rat} : decide (l.map FR.of = k.map FR.of) = decide (l = k):=decide_eq_decide.2 ⟨mof_inj,fun h=>by rw [h]⟩
theorem mmof_dec {l k : List (List Rat)} : decide (l.map (List.map FR.of) = k.map (List.map FR.of)) = decide (l = k):=decide_eq_decide.2 ⟨mmof_inj,fun h=>by rw [h]⟩
theorem w26 {xs ys : List FR} : Con Tryz.prog 26 [LS (some 3) (xs.map RX),LS (some 3) (ys.map RX)] (True) (BT (decide (xs = ys))):=.o2 fun hok h1 h2 hp=>by
  refine St.enter (N:=8) Tryz.func26 rfl rfl rfl hok (enter2 h1 h2) fun a=>?_
  repeat' (first|((with_reducible refine gS_ ?_);first|((with_reducible refine gL_ ?_);first|refine W.run ?_ fun a w G=>?_|refine W.mv fun a w G=>?_|refine W.asg fun a w G=>?_|refine W.bx fun b a w G=>?_|(refine W.nn hK ?_;clear hK K)|refine W.nl ?_|refine W.al fun b a w G=>?_|refine W.st fun w=>?_|refine W.stp fun w=>?_|refine W.ste ?_ fun w=>?_)|((with_reducible refine gC_ ?_);first|refine W.reg fun K hK=>?_|refine W.reg1 ?_|refine W.sq fun K hK=>?_|refine W.ds ?_ (fun β a w G hu=>W.fin ?_ hu) mixedOrders (by kernel_rfl)|refine W.sk ?_|refine W.cd (fun hc=>?_) (fun hc=>?_)|refine W.cb (fun hc=>?_) (fun hc=>?_)|refine W.bl ?_|refine W.ex ?_|refine W.rt ?_)|((with_reducible refine W.kn hK ?_);clear hK K)|(with_reducible first|refine W.bn ?_|refine W.xt ?_|refine W.xb ?_|refine W.xo ?_|refine W.tr ?_|refine W.br ?_)|refine W.rt1 rfl ?_|refine W.rt2 rfl ?_ ?_|refine W.rt3 rfl ?_ ?_ ?_)|clear hK K|clear hu|exact True.intro|exact Nat.le_trans (by clear hp;omega) hp|exact Nat.le_trans (by clear hp;omega) hp.1|exact Nat.le_trans (by clear hp;omega) hp.2|(clear hp;omega)|apply And.intro|refine GI.i fun _=>?_|with_reducible rfl|decide|(simp only [List.length_cons,List.length_nil];omega))
instance {xs ys : List FR} {τ1 : MT} [j1 : NR τ1 (LS (some 3) (xs.map RX))] {τ2 : MT} [j2 : NR τ2 (LS (some 3) (ys.map RX))] : Con Tryz.prog 26 [τ1,τ2] (True) (BT (decide (xs = ys))):=.o2 fun hok h1 h2 hp=>w26.c2 hok (j1.h h1) (j2.h h2) hp
theorem PTS.lenL {α : Type} {T : α → MT} {xs : List α} {v : Value} {G : Gh} (h : (PTS [(none,LS none (xs.map T))]).t v G) : xs.length ≤ LIM:=by
  obtain ⟨us,_,hl,hE⟩:=h
  match us,hl with
  | u :: us,_=>exact LS.lenM (hE 0 _ u rfl rfl).2
theorem w24 {xs ys : List (List FR)} : Con Tryz.prog 24 [PTS [(none,LS none (xs.map LFR))],PTS [(none,LS none (ys.map LFR))]] (True) (BT (decide (xs = ys))):=.o2 fun hok h1 h2 hp=>by
  refine St.enter (N:=32) Tryz.func24 rfl rfl rfl hok (enter2 h1 h2) fun a=>?_
  have hlim:=PTS.lenL h1
  have hlim2:=PTS.lenL h2
  simp only [LIM] at hlim hlim2
  repeat' (first|((with_reducible refine gS_ ?_);first|((with_reducible refine gL_ ?_);first|refine W.run ?_ fun a w G=>?_|refine W.mv fun a w G=>?_|refine W.asg fun a w G=>?_|refine W.bx fun b a w G=>?_|(refine W.nn hK ?_;clear hK K)|refine W.nl ?_|refine W.al fun b a w G=>?_|refine W.st fun w=>?_|refine W.stp fun w=>?_|refine W.ste ?_ fun w=>?_)|((with_reducible refine gC_ ?_);first|refine W.reg fun K hK=>?_|refine W.reg1 ?_|refine W.sq fun K hK=>?_|refine W.ds ?_ (fun β a w G hu=>W.fin ?_ hu) mixedOrders (by kernel_rfl)|refine W.sk ?_|refine W.cd (fun hc=>?_) (fun hc=>?_)|refine W.cb (fun hc=>?_) (fun hc=>?_)|refine W.bl ?_|refine W.ex ?_|refine W.rt ?_)|((with_reducible refine W.kn hK ?_);clear hK K)|(with_reducible first|refine W.bn ?_|refine W.xt ?_|refine W.xb ?_|refine W.xo ?_|refine W.tr ?_|refine W.br ?_)|refine W.rt1 rfl ?_|refine W.rt2 rfl ?_ ?_|refine W.rt3 rfl ?_ ?_ ?_)|refine W.lp 13 (α:=Nat) (fun j=>xs.length - j) (fun j=>j ≤ xs.length ∧ xs.take j = ys.take j) [4,5,13,14,15,16,17,18,19,20,21,22,23,24,25,26,27,28,29,30,31] (fun j=>[(5,NT j)]) (fun j=>[]) (0) ?_ ?_ ?_ fun j hj a w G=>?_|refine W.ag (x:=j) (j+1) ?_ ?_ ?_ ?_|clear hK K|clear hu|exact True.intro|exact Nat.le_trans (by clear hp;omega) hp|exact Nat.le_trans (by clear hp;omega) hp.1|exact Nat.le_trans (by clear hp;omega) hp.2|(clear hp;omega)|apply And.intro|refine GI.i fun _=>?_|with_reducible rfl|decide|(simp only [List.length_cons,List.length_nil];omega))
  all_goals first
    | exact eq_ln (decide_eq_true hc)
    | (simp;done)
    | (exact (decide_eq_false fun e=>hc (by rw [e])).symm)
    | (have hle : xs.length = ys.length := by (have h0 : ¬ ((xs.length : Nat) : Int) ≠ ((ys.length : Nat) : Int) := by assumption); omega
       first
       | omega
       | exact eq_en (by omega) hle hj.2
       | (first
         | (refine eq_at (j:=j) (by omega) hle ?_;simp only [Bool.not_eq_true',decide_eq_false_iff_not] at hc;exact hc)
         | exact eq_nx (by omega) hle hj.2 (by simpa using hc)))
    | skip
instance {xs ys : List (List FR)} {τ1 : MT} [j1 : NR τ1 (PTS [(none,LS none (xs.map LFR))])] {τ2 : MT} [j2 : NR τ2 (PTS [(none,LS none (ys.map LFR))])] : Con Tryz.prog 24 [τ1,τ2] (True) (BT (decide (xs = ys))):=.o2 fun hok h1 h2 hp=>w24.c2 hok (j1.h h1) (j2.h h2) hp
instance (priority:=1100) {n m : Nat} {l k : List Rat} {τ1 τ2 : MT} [j1 : NU τ1 (NM n l)] [j2 : NU τ2 (NM m k)] : Con Tryz.prog 88 [τ1,τ2] True (BT (decide (l = k))):=.o2 fun hok h1 h2 hp=>by
  have:=(inferInstance : Con Tryz.prog 88 [NM n l,NM m k] _ _).c2 hok (j1.h h1) (j2.h h2) hp
  rwa [mof_dec] at this
instance (priority:=1100) {n m : Nat} {l k : List Rat} {τ1 τ2 : MT} [j1 : NU τ1 (NM n l)] [j2 : NU τ2 (NM m k)] : Con Tryz.prog 26 [τ1,τ2] True (BT (decide (l = k))):=.o2 fun hok h1 h2 hp=>by
  have:=(inferInstance : Con Tryz.prog 26 [NM n l,NM m k] _ _).c2 hok (j1.h h1) (j2.h h2) hp
  rwa [mof_dec] at this
instance (priority:=1100) {n m : Nat} {l k : List (List Rat)} {τ1 τ2 : MT} [j1 : NU τ1 (TWR n l)] [j2 : NU τ2 (TWR m k)] : Con Tryz.prog 24 [τ1,τ2] True (BT (decide (l = k))):=.o2 fun hok h1 h2 hp=>by
  have:=(inferInstance : Con Tryz.prog 24 [TWR n l,TWR m k] _ _).c2 hok (j1.h h1) (j2.h h2) hp
  rwa [mmof_dec] at this
end Go.Proofs.YtdbdnabpaadigaaGreat
set_option linter.unusedVariables false
set_option linter.unusedSimpArgs false
namespace Go.Proofs.YtdbdnabpaadigaaGreat
open Go.RowKit (Below)
def MT.tup4 (a b c d : MT) : MT:=⟨fun v G=>∃ x y z u,v = .tuple #[x,y,z,u] ∧ a.t x G ∧ b.t y G ∧ c.t z G ∧ d.t u G,fun hle ⟨x,y,z,u,h,h1,h2,h3,h4⟩=>⟨x,y,z,u,h,a.mono hle h1,b.mono hle h2,c.mono hle h3,d.mono hle h4⟩⟩
def MT.tup5 (a b c d e : MT) : MT:=⟨fun v G=>∃ x y z u s,v = .tuple #[x,y,z,u,s] ∧ a.t x G ∧ b.t y G ∧ c.t z G ∧ d.t u G ∧ e.t s G,fun hle ⟨x,y,z,u,s,h,h1,h2,h3,h4,h5⟩=>⟨x,y,z,u,s,h,a.mono hle h1,b.mono hle h2,c.mono hle h3,d.mono hle h4,e.mono hle h5⟩⟩
section
variable {P : Program} {L : List (Nat × MT)} {B : List BX} {x : Operand} {τ1 τ2 τ3 τ4 τ5 : MT} {u : List Nat}
instance Op1.ex40 [h : Opd L x (.tup4 τ1 τ2 τ3 τ4) u] : Op1 P L B (.extract x 0) True τ1 u:=⟨fun ho hok e _ _=>by
  obtain ⟨a,b,c,d,h,h1,h2,h3,h4⟩:=h.h e
  exact .run hok (by simp [execOp,ho,h,Instr.extract]) h1⟩
instance Op1.ex41 [h : Opd L x (.tup4 τ1 τ2 τ3 τ4) u] : Op1 P L B (.extract x 1) True τ2 u:=⟨fun ho hok e _ _=>by
  obtain ⟨a,b,c,d,h,h1,h2,h3,h4⟩:=h.h e
  exact .run hok (by simp [execOp,ho,h,Instr.extract]) h2⟩
instance Op1.ex42 [h : Opd L x (.tup4 τ1 τ2 τ3 τ4) u] : Op1 P L B (.extract x 2) True τ3 u:=⟨fun ho hok e _ _=>by
  obtain ⟨a,b,c,d,h,h1,h2,h3,h4⟩:=h.h e
  exact .run hok (by simp [execOp,ho,h,Instr.extract]) h3⟩
instance Op1.ex43 [h : Opd L x (.tup4 τ1 τ2 τ3 τ4) u] : Op1 P L B (.extract x 3) True τ4 u:=⟨fun ho hok e _ _=>by
  obtain ⟨a,b,c,d,h,h1,h2,h3,h4⟩:=h.h e
  exact .run hok (by simp [execOp,ho,h,Instr.extract]) h4⟩
instance Op1.ex50 [h : Opd L x (.tup5 τ1 τ2 τ3 τ4 τ5) u] : Op1 P L B (.extract x 0) True τ1 u:=⟨fun ho hok e _ _=>by
  obtain ⟨a,b,c,d,f,h,h1,h2,h3,h4,h5⟩:=h.h e
  exact .run hok (by simp [execOp,ho,h,Instr.extract]) h1⟩
instance Op1.ex51 [h : Opd L x (.tup5 τ1 τ2 τ3 τ4 τ5) u] : Op1 P L B (.extract x 1) True τ2 u:=⟨fun ho hok e _ _=>by
  obtain ⟨a,b,c,d,f,h,h1,h2,h3,h4,h5⟩:=h.h e
  exact .run hok (by simp [execOp,ho,h,Instr.extract]) h2⟩
instance Op1.ex52 [h : Opd L x (.tup5 τ1 τ2 τ3 τ4 τ5) u] : Op1 P L B (.extract x 2) True τ3 u:=⟨fun ho hok e _ _=>by
  obtain ⟨a,b,c,d,f,h,h1,h2,h3,h4,h5⟩:=h.h e
  exact .run hok (by simp [execOp,ho,h,Instr.extract]) h3⟩
instance Op1.ex53 [h : Opd L x (.tup5 τ1 τ2 τ3 τ4 τ5) u] : Op1 P L B (.extract x 3) True τ4 u:=⟨fun ho hok e _ _=>by
  obtain ⟨a,b,c,d,f,h,h1,h2,h3,h4,h5⟩:=h.h e
  exact .run hok (by simp [execOp,ho,h,Instr.extract]) h4⟩
instance Op1.ex54 [h : Opd L x (.tup5 τ1 τ2 τ3 τ4 τ5) u] : Op1 P L B (.extract x 4) True τ5 u:=⟨fun ho hok e _ _=>by
  obtain ⟨a,b,c,d,f,h,h1,h2,h3,h4,h5⟩:=h.h e
  exact .run hok (by simp [execOp,ho,h,Instr.extract]) h5⟩
end
theorem rv_4 {fn : Func} {r r2 r3 r4 : ResultVar} (hr : fn.results = #[r,r2,r3,r4]) {tmps : Array Value} {P : Program} {w : World} {v v2 v3 v4 : Value} (h : (rvRun r tmps).run P w = .ok v w) (h2 : (rvRun r2 tmps).run P w = .ok v2 w) (h3 : (rvRun r3 tmps).run P w = .ok v3 w) (h4 : (rvRun r4 tmps).run P w = .ok v4 w) : (results fn tmps).run P w = .ok (.tuple #[v,v2,v3,v4]) w:=by
  rw [results_rv];simp [hr,h,h2,h3,h4]
theorem rv_5 {fn : Func} {r r2 r3 r4 r5 : ResultVar} (hr : fn.results = #[r,r2,r3,r4,r5]) {tmps : Array Value} {P : Program} {w : World} {v v2 v3 v4 v5 : Value} (h : (rvRun r tmps).run P w = .ok v w) (h2 : (rvRun r2 tmps).run P w = .ok v2 w) (h3 : (rvRun r3 tmps).run P w = .ok v3 w) (h4 : (rvRun r4 tmps).run P w = .ok v4 w) (h5 : (rvRun r5 tmps).run P w = .ok v5 w) : (results fn tmps).run P w = .ok (.tuple #[v,v2,v3,v4,v5]) w:=by
  rw [results_rv];simp [hr,h,h2,h3,h4,h5]
section
variable {P : Program} {B : List BX} {L : List (Nat × MT)} {W0 : World} {G0 : Gh} {N : Nat} {a : Act} {w : World} {G : Gh} {fn : Func} {τ1 τ2 τ3 τ4 τ5 ρ1 ρ2 ρ3 ρ4 ρ5 : MT} {p1 p2 p3 p4 p5 : Prop}
theorem W.rt4 {r r2 r3 r4 : ResultVar} (hr : fn.results = #[r,r2,r3,r4]) [h : Rs1 P L B r τ1] [c : Cv τ1 ρ1 p1] [h2 : Rs1 P L B r2 τ2] [c2 : Cv τ2 ρ2 p2] [h3 : Rs1 P L B r3 τ3] [c3 : Cv τ3 ρ3 p3] [h4 : Rs1 P L B r4 τ4] [c4 : Cv τ4 ρ4 p4] (q1 : p1) (q2 : p2) (q3 : p3) (q4 : p4) : St W0 G0 N L B a w G → bodyPost P fn (Ret W0 G0 (.tup4 ρ1 ρ2 ρ3 ρ4)) .ret a w:=fun S=>by
  obtain ⟨v,f1,e1⟩:=h.h (fun u=>S.env u) (fun u=>S.bok u)
  obtain ⟨v2,f2,e2⟩:=h2.h (fun u=>S.env u) (fun u=>S.bok u)
  obtain ⟨v3,f3,e3⟩:=h3.h (fun u=>S.env u) (fun u=>S.bok u)
  obtain ⟨v4,f4,e4⟩:=h4.h (fun u=>S.env u) (fun u=>S.bok u)
  exact bodyPost_ret (rv_4 hr e1 e2 e3 e4) S.dfr ⟨_,G,rfl,⟨v,v2,v3,v4,rfl,c.h q1 f1,c2.h q2 f2,c3.h q3 f3,c4.h q4 f4⟩,S.nxt⟩
theorem W.rt5 {r r2 r3 r4 r5 : ResultVar} (hr : fn.results = #[r,r2,r3,r4,r5]) [h : Rs1 P L B r τ1] [c : Cv τ1 ρ1 p1] [h2 : Rs1 P L B r2 τ2] [c2 : Cv τ2 ρ2 p2] [h3 : Rs1 P L B r3 τ3] [c3 : Cv τ3 ρ3 p3] [h4 : Rs1 P L B r4 τ4] [c4 : Cv τ4 ρ4 p4] [h5 : Rs1 P L B r5 τ5] [c5 : Cv τ5 ρ5 p5] (q1 : p1) (q2 : p2) (q3 : p3) (q4 : p4) (q5 : p5) : St W0 G0 N L B a w G → bodyPost P fn (Ret W0 G0 (.tup5 ρ1 ρ2 ρ3 ρ4 ρ5)) .ret a w:=fun S=>by
  obtain ⟨v,f1,e1⟩:=h.h (fun u=>S.env u) (fun u=>S.bok u)
  obtain ⟨v2,f2,e2⟩:=h2.h (fun u=>S.env u) (fun u=>S.bok u)
  obtain ⟨v3,f3,e3⟩:=h3.h (fun u=>S.env u) (fun u=>S.bok u)
  obtain ⟨v4,f4,e4⟩:=h4.h (fun u=>S.env u) (fun u=>S.bok u)
  obtain ⟨v5,f5,e5⟩:=h5.h (fun u=>S.env u) (fun u=>S.bok u)
  exact bodyPost_ret (rv_5 hr e1 e2 e3 e4 e5) S.dfr ⟨_,G,rfl,⟨v,v2,v3,v4,v5,rfl,c.h q1 f1,c2.h q2 f2,c3.h q3 f3,c4.h q4 f4,c5.h q5 f5⟩,S.nxt⟩
end
end Go.Proofs.YtdbdnabpaadigaaGreat
set_option linter.unusedVariables false
set_option linter.unusedSimpArgs false
namespace Go.Proofs.YtdbdnabpaadigaaGreat
open Go.RowKit (Below)
class Drp (L : List (Nat × MT)) (ws : List Nat) (L' : outParam (List (Nat × MT))) : Prop where
  h : ∀ p ∈ L',p ∈ L
instance Drp.nil {ws : List Nat} : Drp [] ws []:=⟨fun _ h=>h⟩
instance Drp.hd {L L' : List (Nat × MT)} {ws : List Nat} {t : Nat} {τ : MT} [In ws t] [h : Drp L ws L'] : Drp ((t,τ) :: L) ws L':=⟨fun p hp=>.tail _ (h.h p hp)⟩
instance (priority:=500) Drp.tl {L L' : List (Nat × MT)} {ws : List Nat} {x : Nat × MT} [h : Drp L ws L'] : Drp (x :: L) ws (x :: L'):=⟨fun p hp=>by
  rcases List.mem_cons.1 hp with e | e
  · subst e;exact .head _
  · exact .tail _ (h.h p e)⟩
class GcT (f id : Nat) (k : Bool) (t : outParam Nat) (ws : outParam (List Nat)) : Prop
section
variable {P : Program} {B : List BX} {L L' : List (Nat × MT)} {W0 : World} {G0 : Gh} {N : Nat} {a : Act} {w : World} {G : Gh} {Q : Exit → Act → World → Prop} {c c1 : Code} {τ0 : MT} {bd : Bool} {l : Array Oper}
theorem W.gc (id t : Nat) (ws : List Nat) [Lk L t τ0] [d : Drp L (t :: ws) L'] (h : St W0 G0 N L' B a w G → (Code.seq (.region id l bd) c).wp P Q a w) : St W0 G0 N L B a w G → (Code.seq (.region id l bd) c).wp P Q a w:=fun S=>h (S.only d.h)
theorem W.gcc (f : Nat) {id t : Nat} {ws : List Nat} [g : GcT f id false t ws] [Lk L t τ0] [d : Drp L (t :: ws) L'] (h : St W0 G0 N L' B a w G → (Code.seq (.region id l bd) c).wp P Q a w) : St W0 G0 N L B a w G → (Code.seq (.region id l bd) c).wp P Q a w:=fun S=>h (S.only d.h)
theorem W.gcd (f : Nat) {id t : Nat} {ws : List Nat} [g : GcT f id true t ws] [Lk L t τ0] [d : Drp L (t :: ws) L'] (h : St W0 G0 N L' B a w G → (Code.seq (.block id c1) c).wp P Q a w) : St W0 G0 N L B a w G → (Code.seq (.block id c1) c).wp P Q a w:=fun S=>h (S.only d.h)
end
end Go.Proofs.YtdbdnabpaadigaaGreat
set_option linter.unusedVariables false
set_option linter.unusedSimpArgs false
set_option maxHeartbeats 4000000
set_option maxRecDepth 100000
set_option synthInstance.maxSize 100000
set_option synthInstance.maxHeartbeats 400000
namespace Go.Proofs.YtdbdnabpaadigaaGreat
open Go.RowKit (Below)
attribute [local irreducible] Go.Code.wp Go.wpList Go.bodyPost
theorem vl1 {p x y : Rat} : vlL [[p]] [x,y] = RR.of x + RR.of y * rt p:=by
  rw [El.vl_at (k:=1) (l:=[x,y]) (by decide) (Nat.le_refl 2)]
  rfl
theorem sg1 {p x y : Rat} (hp : 0 ≤ p) : sgL [[p]] [x,y] = surdF x y p:=by
  unfold sgL;rw [vl1,surd_sg hp]
theorem tok1 {p : Rat} (hp : 0 ≤ p) : TOK [[p]]:=by
  refine ⟨show 1 ≤ 5 by decide,fun j hj=>?_,fun j hj=>?_⟩
  · match j,hj with
    | 0,_=>rfl
  · match j,hj with
    | 0,_ =>
      show 0 ≤ vlL [[p]] [p]
      rw [El.vl_at (k:=0) (l:=[p]) (by decide) (Nat.le_refl 1)]
      exact RR.of_le (p:=0) |>.2 hp
theorem pw2 {k : Nat} (h : 1 ≤ k) {x y : Rat} : PW k [x,y]:=.inr ⟨1,h,rfl⟩
theorem pw1k {k : Nat} {x : Rat} : PW k [x]:=.inr ⟨0,Nat.zero_le _,rfl⟩
theorem sB1 {x r : Nat} : sB 1 x r = 4 * x + r + 1:=by simp only [sB,tB];omega
def sinA (g a b c : FR) (k : Rat) : Rat:=((b.val + c.val - (g.val + a.val)) * (b.val + c.val - (g.val + a.val)) + k * k * (4 * (a.val * g.val))) / (4 * (b.val * c.val))
def sinB (g a b c : FR) (k : Rat) : Rat:=(b.val + c.val - (g.val + a.val)) * k / (b.val * c.val)
def sinL (g a b c : FR) (k : Rat) : List Rat:=[1 - sinA g a b c k,-sinB g a b c k]
def sinC (g a b c k : FR) : Int:=if gapC g a b c k = 0 then (if nearF g a b c k.val < 0 ∨ farF g a b c k.val < 0 then 16 else 0) else gapC g a b c k
def midF (g a b c : FR) : Rat:=b.val + c.val - (g.val + a.val)
def atF (g a b c : FR) : Int:=if (midF g a b c).num.sign < 0 then -1 else 1
def rgtF (g a b c : FR) : Bool:=decide (cmpQ (midF g a b c * midF g a b c) (4 * (a.val * g.val)) ≤ 0)
def fulC (g a b c : FR) : Int:=if chkF [g,a,b,c] = 0 then (if fullF g a b c then 0 else 16) else chkF [g,a,b,c]
def leaL (g a b c : FR) : List Rat:=if fulC g a b c = 0 then sinL g a b c ((atF g a b c : Int) : Rat) else []
def mosL (g a b c : FR) : List Rat:=if fulC g a b c = 0 then (if rgtF g a b c then [1,0] else sinL g a b c ((-atF g a b c : Int) : Rat)) else []
def twoA (g a b c : FR) : List (List Rat):=if fulC g a b c = 0 then [[a.val * g.val]] else []
def alsC (g a b c m : FR) : Int:=if chkF [g,a,b,c] = 0 then (if m.ok then fulC g a b c else 2) else chkF [g,a,b,c]
noncomputable def alsF (g a b c m : FR) : Bool:=decide (alsC g a b c m = 0) && decide (sgL [[a.val * g.val]] (plusF (leaL g a b c) (minusF (shoF [m.val]))) ≥ 0)
theorem ag_posX {g a b c : FR} (h : [g,a,b,c].all posR = true) : 0 < a.val * g.val:=by
  simp only [List.all_cons,List.all_nil,Bool.and_true,Bool.and_eq_true] at h
  exact Rat.mul_pos (posR_val h.2.1) (posR_val h.1)
theorem bc_ne {g a b c : FR} (h : [g,a,b,c].all posR = true) : b.val * c.val ≠ 0 ∧ 4 * (b.val * c.val) ≠ 0:=by
  simp only [List.all_cons,List.all_nil,Bool.and_true,Bool.and_eq_true] at h
  have h1:=posR_val h.2.2.1;have h2:=posR_val h.2.2.2
  have h3:=Rat.mul_pos h1 h2
  exact ⟨fun e=>by grind,fun e=>by grind⟩
def rigF (g a b c : FR) : Int:=if fulC g a b c = 0 then (if rgtF g a b c then 0 else (midF g a b c).num.sign) else 0
theorem gap_chk {g a b c k : FR} (h : gapC g a b c k = 0) : chkF [g,a,b,c] = 0:=by
  unfold gapC at h
  split at h
  · assumption
  · omega
theorem sin_e1 {g a b c k : FR} (h : gapC g a b c k ≠ 0) : sinC g a b c k = gapC g a b c k:=by unfold sinC;rw [if_neg h]
theorem sin_e2 {g a b c k : FR} (h : ¬ gapC g a b c k ≠ 0) (hc : (decide ((if gapC g a b c k = 0 then nearF g a b c k.val else 0) < 0) || decide ((if gapC g a b c k = 0 then farF g a b c k.val else 0) < 0)) = true) : sinC g a b c k = 16:=by
  have h0 : gapC g a b c k = 0:=by omega
  rw [if_pos h0,if_pos h0,Bool.or_eq_true,decide_eq_true_eq,decide_eq_true_eq] at hc
  unfold sinC;rw [if_pos h0,if_pos hc]
theorem sin_e3 {g a b c k : FR} (h : ¬ gapC g a b c k ≠ 0) (hc : (decide ((if gapC g a b c k = 0 then nearF g a b c k.val else 0) < 0) || decide ((if gapC g a b c k = 0 then farF g a b c k.val else 0) < 0)) = false) : sinC g a b c k = 0:=by
  have h0 : gapC g a b c k = 0:=by omega
  rw [if_pos h0,if_pos h0,Bool.or_eq_false_iff,decide_eq_false_iff_not,decide_eq_false_iff_not] at hc
  unfold sinC;rw [if_pos h0,if_neg (by omega)]
theorem ful_1 {g a b c : FR} (hc : (decide (chkF [g,a,b,c] = 0) && !fullF g a b c) = true) : fulC g a b c = 16:=by
  rw [Bool.and_eq_true,decide_eq_true_eq,Bool.not_eq_true'] at hc
  unfold fulC;rw [if_pos hc.1,hc.2];rfl
theorem ful_2 {g a b c : FR} (hc : (decide (chkF [g,a,b,c] = 0) && !fullF g a b c) = false) : fulC g a b c = chkF [g,a,b,c]:=by
  unfold fulC
  by_cases h : chkF [g,a,b,c] = 0
  · rw [decide_eq_true h,Bool.true_and,Bool.not_eq_false'] at hc
    rw [if_pos h,hc,h];rfl
  · rw [if_neg h]
theorem ful_chk {g a b c : FR} (h : fulC g a b c = 0) : chkF [g,a,b,c] = 0 ∧ fullF g a b c = true:=by
  unfold fulC at h
  split at h
  · refine ⟨by assumption,?_⟩
    split at h
    · assumption
    · cases h
  · omega
theorem ful_all {g a b c : FR} (h : fulC g a b c = 0) : [g,a,b,c].all posR = true:=chk_pos (ful_chk h).1
theorem at_1 {g a b c : FR} (h : ¬ (midF g a b c).num.sign < 0) : atF g a b c = 1:=if_neg h
theorem at_m {g a b c : FR} (h : (midF g a b c).num.sign < 0) : atF g a b c = -1:=if_pos h
theorem twoA_0 {g a b c : FR} (h : fulC g a b c ≠ 0) : twoA g a b c = [] ∧ leaL g a b c = [] ∧ mosL g a b c = []:=⟨if_neg h,if_neg h,if_neg h⟩
theorem twoA_1 {g a b c : FR} (h : ¬ fulC g a b c ≠ 0) : twoA g a b c = [[a.val * g.val]] ∧ leaL g a b c = sinL g a b c ((atF g a b c : Int) : Rat) ∧ mosL g a b c = (if rgtF g a b c then [1,0] else sinL g a b c ((-atF g a b c : Int) : Rat)):=⟨if_pos (by omega),if_pos (by omega),if_pos (by omega)⟩
theorem pw_sho {k : Nat} {x : Rat} : PW k (shoF [x]):=by
  by_cases h : x = 0
  · subst h;rw [show shoF [0] = [] by decide +kernel];exact .inl rfl
  · rw [show shoF [x] = [x] from sho_of (k:=0) (by decide) (.inr ⟨0,Nat.le_refl _,rfl⟩) (.inr (.inl ⟨rfl,h⟩))];exact .inr ⟨0,Nat.zero_le _,rfl⟩
theorem als_sg {g a b c m : FR} (h0 : ¬ chkF [g,a,b,c] ≠ 0) (h1 : (!m.ok) = false) (h : ¬ fulC g a b c ≠ 0) : alsF g a b c m = decide (sgL (twoA g a b c) (plusF (leaL g a b c) (minusF (shoF [m.val]))) ≥ 0) ∧ alsC g a b c m = 0:=by
  have e : alsC g a b c m = 0:=by unfold alsC;rw [if_pos (by omega),if_pos (by simpa using h1)];omega
  refine ⟨?_,e⟩
  unfold alsF twoA;rw [decide_eq_true e,if_pos (by omega),Bool.true_and]
theorem rig_0 {g a b c : FR} (h : fulC g a b c ≠ 0) : rigF g a b c = 0:=if_neg h
theorem rig_1 {g a b c : FR} (h : ¬ fulC g a b c ≠ 0) (hr : rgtF g a b c = true) : rigF g a b c = 0:=by unfold rigF;rw [if_pos (by omega),if_pos hr]
theorem rig_2 {g a b c : FR} (h : ¬ fulC g a b c ≠ 0) (hr : rgtF g a b c = false) : rigF g a b c = (midF g a b c).num.sign:=by unfold rigF;rw [if_pos (by omega),if_neg (by rw [hr];decide)]
theorem als_1 {g a b c m : FR} (h : chkF [g,a,b,c] ≠ 0) : alsC g a b c m = chkF [g,a,b,c]:=if_neg h
theorem als_2 {g a b c m : FR} (h : ¬ chkF [g,a,b,c] ≠ 0) (h2 : (!m.ok) = true) : alsC g a b c m = 2:=by unfold alsC;rw [if_pos (by omega),if_neg (by simpa using h2)]
theorem als_3 {g a b c m : FR} (h : ¬ chkF [g,a,b,c] ≠ 0) (h2 : (!m.ok) = false) : alsC g a b c m = fulC g a b c:=by unfold alsC;rw [if_pos (by omega),if_pos (by simpa using h2)]
theorem alsF_0 {g a b c m : FR} (h : alsC g a b c m ≠ 0) : alsF g a b c m = false:=by unfold alsF;rw [decide_eq_false h];rfl
attribute [local irreducible] plusF minusF joinF levI lev PW RLN tB sB timesF stepF tmF normF shoF TOK sgL surdsF surdF chkF gapC fullF nearF farF
theorem w73 {n : Nat} {rg ra rb rc : FR} : Con Tryz.prog 73 [QUD n rg ra rb rc] (1000 * n + 100000 ≤ BIG) (TWR (n + n) [[ra.val * rg.val]]):=.o1 fun hok h1 hp=>by
  refine St.enter (N:=11) Tryz.func73 rfl rfl rfl hok (enter1 h1) fun a=>?_
  have hn1:=qud_pos h1
  repeat' (first|((with_reducible refine gS_ ?_);first|((with_reducible refine gL_ ?_);first|refine W.run ?_ fun a w G=>?_|refine W.mv fun a w G=>?_|refine W.asg fun a w G=>?_|refine W.bx fun b a w G=>?_|(refine W.nn hK ?_;clear hK K)|refine W.nl ?_|refine W.al fun b a w G=>?_|refine W.st fun w=>?_|refine W.stp fun w=>?_|refine W.ste ?_ fun w=>?_)|((with_reducible refine gC_ ?_);first|refine W.reg fun K hK=>?_|refine W.reg1 ?_|refine W.sq fun K hK=>?_|refine W.ds ?_ (fun β a w G hu=>W.fin ?_ hu) mixedOrders (by kernel_rfl)|refine W.sk ?_|refine W.cd (fun hc=>?_) (fun hc=>?_)|refine W.cb (fun hc=>?_) (fun hc=>?_)|refine W.bl ?_|refine W.ex ?_|refine W.rt ?_)|((with_reducible refine W.kn hK ?_);clear hK K)|(with_reducible first|refine W.bn ?_|refine W.xt ?_|refine W.xb ?_|refine W.xo ?_|refine W.tr ?_|refine W.br ?_)|refine W.rt1 rfl ?_|refine W.rt2 rfl ?_ ?_|refine W.rt3 rfl ?_ ?_ ?_)|clear hK K|clear hu|exact True.intro|exact Nat.le_trans (by clear hp;omega) hp|exact Nat.le_trans (by clear hp;omega) hp.1|exact Nat.le_trans (by clear hp;omega) hp.2|(clear hp;omega)|apply And.intro|refine GI.i fun _=>?_|with_reducible rfl|decide|(simp only [List.length_cons,List.length_nil];omega))
instance {n : Nat} {rg ra rb rc : FR} {τ1 : MT} [j1 : NF τ1 (QUD n rg ra rb rc)] : Con Tryz.prog 73 [τ1] (1000 * n + 100000 ≤ BIG) (TWR (n + n) [[ra.val * rg.val]]):=.o1 fun hok h1 hp=>w73.c1 hok (j1.h h1) hp
theorem w70 {n : Nat} {rg ra rb rc : FR} : Con Tryz.prog 70 [QUD n rg ra rb rc] (1000 * n + 100000 ≤ BIG) (QC (4 * n + 3) (midF rg ra rb rc)):=.o1 fun hok h1 hp=>by
  refine St.enter (N:=14) Tryz.func70 rfl rfl rfl hok (enter1 h1) fun a=>?_
  have hn1:=qud_pos h1
  repeat' (first|((with_reducible refine gS_ ?_);first|((with_reducible refine gL_ ?_);first|refine W.run ?_ fun a w G=>?_|refine W.mv fun a w G=>?_|refine W.asg fun a w G=>?_|refine W.bx fun b a w G=>?_|(refine W.nn hK ?_;clear hK K)|refine W.nl ?_|refine W.al fun b a w G=>?_|refine W.st fun w=>?_|refine W.stp fun w=>?_|refine W.ste ?_ fun w=>?_)|((with_reducible refine gC_ ?_);first|refine W.reg fun K hK=>?_|refine W.reg1 ?_|refine W.sq fun K hK=>?_|refine W.ds ?_ (fun β a w G hu=>W.fin ?_ hu) mixedOrders (by kernel_rfl)|refine W.sk ?_|refine W.cd (fun hc=>?_) (fun hc=>?_)|refine W.cb (fun hc=>?_) (fun hc=>?_)|refine W.bl ?_|refine W.ex ?_|refine W.rt ?_)|((with_reducible refine W.kn hK ?_);clear hK K)|(with_reducible first|refine W.bn ?_|refine W.xt ?_|refine W.xb ?_|refine W.xo ?_|refine W.tr ?_|refine W.br ?_)|refine W.rt1 rfl ?_|refine W.rt2 rfl ?_ ?_|refine W.rt3 rfl ?_ ?_ ?_)|clear hK K|clear hu|exact True.intro|exact Nat.le_trans (by clear hp;omega) hp|exact Nat.le_trans (by clear hp;omega) hp.1|exact Nat.le_trans (by clear hp;omega) hp.2|(clear hp;omega)|apply And.intro|refine GI.i fun _=>?_|with_reducible rfl|decide|(simp only [List.length_cons,List.length_nil];omega))
  all_goals first | omega | rfl | skip
instance {n : Nat} {rg ra rb rc : FR} {τ1 : MT} [j1 : NF τ1 (QUD n rg ra rb rc)] : Con Tryz.prog 70 [τ1] (1000 * n + 100000 ≤ BIG) (QC (4 * n + 3) (midF rg ra rb rc)):=.o1 fun hok h1 hp=>w70.c1 hok (j1.h h1) hp
theorem w135 {n : Nat} {x : Rat} : Con Tryz.prog 135 [QV n x] (n + n ≤ BIG) (QC (n + n) (x * x)):=.o1 fun hok h1 hp=>by
  refine St.enter (N:=6) Tryz.func135 rfl rfl rfl hok (enter1 h1) fun a=>?_
  repeat' (first|((with_reducible refine gS_ ?_);first|((with_reducible refine gL_ ?_);first|refine W.run ?_ fun a w G=>?_|refine W.mv fun a w G=>?_|refine W.asg fun a w G=>?_|refine W.bx fun b a w G=>?_|(refine W.nn hK ?_;clear hK K)|refine W.nl ?_|refine W.al fun b a w G=>?_|refine W.st fun w=>?_|refine W.stp fun w=>?_|refine W.ste ?_ fun w=>?_)|((with_reducible refine gC_ ?_);first|refine W.reg fun K hK=>?_|refine W.reg1 ?_|refine W.sq fun K hK=>?_|refine W.ds ?_ (fun β a w G hu=>W.fin ?_ hu) mixedOrders (by kernel_rfl)|refine W.sk ?_|refine W.cd (fun hc=>?_) (fun hc=>?_)|refine W.cb (fun hc=>?_) (fun hc=>?_)|refine W.bl ?_|refine W.ex ?_|refine W.rt ?_)|((with_reducible refine W.kn hK ?_);clear hK K)|(with_reducible first|refine W.bn ?_|refine W.xt ?_|refine W.xb ?_|refine W.xo ?_|refine W.tr ?_|refine W.br ?_)|refine W.rt1 rfl ?_|refine W.rt2 rfl ?_ ?_|refine W.rt3 rfl ?_ ?_ ?_)|clear hK K|clear hu|exact True.intro|exact Nat.le_trans (by clear hp;omega) hp|exact Nat.le_trans (by clear hp;omega) hp.1|exact Nat.le_trans (by clear hp;omega) hp.2|(clear hp;omega)|apply And.intro|refine GI.i fun _=>?_|with_reducible rfl|decide|(simp only [List.length_cons,List.length_nil];omega))
instance {n : Nat} {x : Rat} {τ1 : MT} [j1 : NQ τ1 (QV n x)] : Con Tryz.prog 135 [τ1] (n + n ≤ BIG) (QC (n + n) (x * x)):=.o1 fun hok h1 hp=>w135.c1 hok (j1.h h1) hp
theorem w136 {n m : Nat} {x y : Rat} : Con Tryz.prog 136 [QV n x,QV m y] (64 + (n + m) ≤ BIG) (QC (64 + (n + m)) (4 * (x * y))):=.o2 fun hok h1 h2 hp=>by
  refine St.enter (N:=10) Tryz.func136 rfl rfl rfl hok (enter2 h1 h2) fun a=>?_
  repeat' (first|((with_reducible refine gS_ ?_);first|((with_reducible refine gL_ ?_);first|refine W.run ?_ fun a w G=>?_|refine W.mv fun a w G=>?_|refine W.asg fun a w G=>?_|refine W.bx fun b a w G=>?_|(refine W.nn hK ?_;clear hK K)|refine W.nl ?_|refine W.al fun b a w G=>?_|refine W.st fun w=>?_|refine W.stp fun w=>?_|refine W.ste ?_ fun w=>?_)|((with_reducible refine gC_ ?_);first|refine W.reg fun K hK=>?_|refine W.reg1 ?_|refine W.sq fun K hK=>?_|refine W.ds ?_ (fun β a w G hu=>W.fin ?_ hu) mixedOrders (by kernel_rfl)|refine W.sk ?_|refine W.cd (fun hc=>?_) (fun hc=>?_)|refine W.cb (fun hc=>?_) (fun hc=>?_)|refine W.bl ?_|refine W.ex ?_|refine W.rt ?_)|((with_reducible refine W.kn hK ?_);clear hK K)|(with_reducible first|refine W.bn ?_|refine W.xt ?_|refine W.xb ?_|refine W.xo ?_|refine W.tr ?_|refine W.br ?_)|refine W.rt1 rfl ?_|refine W.rt2 rfl ?_ ?_|refine W.rt3 rfl ?_ ?_ ?_)|clear hK K|clear hu|exact True.intro|exact Nat.le_trans (by clear hp;omega) hp|exact Nat.le_trans (by clear hp;omega) hp.1|exact Nat.le_trans (by clear hp;omega) hp.2|(clear hp;omega)|apply And.intro|refine GI.i fun _=>?_|with_reducible rfl|decide|(simp only [List.length_cons,List.length_nil];omega))
instance {n m : Nat} {x y : Rat} {τ1 : MT} [j1 : NQ τ1 (QV n x)] {τ2 : MT} [j2 : NQ τ2 (QV m y)] : Con Tryz.prog 136 [τ1,τ2] (64 + (n + m) ≤ BIG) (QC (64 + (n + m)) (4 * (x * y))):=.o2 fun hok h1 h2 hp=>w136.c2 hok (j1.h h1) (j2.h h2) hp
theorem w71 {n m : Nat} {rg ra rb rc : FR} {k : Rat} : Con Tryz.prog 71 [QUD n rg ra rb rc,QV m k] (1000 * n + 1000 * m + 200000 ≤ BIG ∧ [rg,ra,rb,rc].all posR = true) (MT.tup2 (NM (12 * n + 2 * m + 200) (sinL rg ra rb rc k)) (.ex (errV 69 (0)))):=.o2 fun hok h1 h2 hp=>by
  refine St.enter (N:=56) Tryz.func71 rfl rfl rfl hok (enter2 h1 h2) fun a=>?_
  have hn1:=qud_pos h1
  repeat' (first|((with_reducible refine gS_ ?_);first|((with_reducible refine gL_ ?_);first|refine W.run ?_ fun a w G=>?_|refine W.mv fun a w G=>?_|refine W.asg fun a w G=>?_|refine W.bx fun b a w G=>?_|(refine W.nn hK ?_;clear hK K)|refine W.nl ?_|refine W.al fun b a w G=>?_|refine W.st fun w=>?_|refine W.stp fun w=>?_|refine W.ste ?_ fun w=>?_)|((with_reducible refine gC_ ?_);first|refine W.reg fun K hK=>?_|refine W.reg1 ?_|refine W.sq fun K hK=>?_|refine W.ds ?_ (fun β a w G hu=>W.fin ?_ hu) mixedOrders (by kernel_rfl)|refine W.sk ?_|refine W.cd (fun hc=>?_) (fun hc=>?_)|refine W.cb (fun hc=>?_) (fun hc=>?_)|refine W.bl ?_|refine W.ex ?_|refine W.rt ?_)|((with_reducible refine W.kn hK ?_);clear hK K)|(with_reducible first|refine W.bn ?_|refine W.xt ?_|refine W.xb ?_|refine W.xo ?_|refine W.tr ?_|refine W.br ?_)|refine W.rt1 rfl ?_|refine W.rt2 rfl ?_ ?_|refine W.rt3 rfl ?_ ?_ ?_)|clear hK K|clear hu|exact True.intro|exact Nat.le_trans (by clear hp;omega) hp|exact Nat.le_trans (by clear hp;omega) hp.1|exact Nat.le_trans (by clear hp;omega) hp.2|(clear hp;omega)|apply And.intro|refine GI.i fun _=>?_|with_reducible rfl|decide|(simp only [List.length_cons,List.length_nil];omega))
  all_goals (have hbc:=bc_ne hp.2)
  all_goals first
    | omega
    | exact hbc.1
    | exact hbc.2
    | rfl
    | skip
instance {n m : Nat} {rg ra rb rc : FR} {k : Rat} {τ1 : MT} [j1 : NF τ1 (QUD n rg ra rb rc)] {τ2 : MT} [j2 : NQ τ2 (QV m k)] : Con Tryz.prog 71 [τ1,τ2] (1000 * n + 1000 * m + 200000 ≤ BIG ∧ [rg,ra,rb,rc].all posR = true) (MT.tup2 (NM (12 * n + 2 * m + 200) (sinL rg ra rb rc k)) (.ex (errV 69 (0)))):=.o2 fun hok h1 h2 hp=>w71.c2 hok (j1.h h1) (j2.h h2) hp
theorem w44 {n m : Nat} {rg ra rb rc rk : FR} : Con Tryz.prog 44 [QUD n rg ra rb rc,FX m rk] (1000 * n + 1000 * m + 200000 ≤ BIG) (MT.tup3 (TWR (n + n) (if sinC rg ra rb rc rk = 0 then [[ra.val * rg.val]] else [])) (NM (12 * n + 2 * m + 200) (if sinC rg ra rb rc rk = 0 then sinL rg ra rb rc rk.val else [])) (.ex (errV 69 (sinC rg ra rb rc rk)))):=.o2 fun hok h1 h2 hp=>by
  refine St.enter (N:=43) Tryz.func44 rfl rfl rfl hok (enter2 h1 h2) fun a=>?_
  have hn1:=qud_pos h1
  repeat' (first|((with_reducible refine gS_ ?_);first|((with_reducible refine gL_ ?_);first|refine W.run ?_ fun a w G=>?_|refine W.mv fun a w G=>?_|refine W.asg fun a w G=>?_|refine W.bx fun b a w G=>?_|(refine W.nn hK ?_;clear hK K)|refine W.nl ?_|refine W.al fun b a w G=>?_|refine W.st fun w=>?_|refine W.stp fun w=>?_|refine W.ste ?_ fun w=>?_)|((with_reducible refine gC_ ?_);first|refine W.reg fun K hK=>?_|refine W.reg1 ?_|refine W.sq fun K hK=>?_|refine W.ds ?_ (fun β a w G hu=>W.fin ?_ hu) mixedOrders (by kernel_rfl)|refine W.sk ?_|refine W.cd (fun hc=>?_) (fun hc=>?_)|refine W.cb (fun hc=>?_) (fun hc=>?_)|refine W.bl ?_|refine W.ex ?_|refine W.rt ?_)|((with_reducible refine W.kn hK ?_);clear hK K)|(with_reducible first|refine W.bn ?_|refine W.xt ?_|refine W.xb ?_|refine W.xo ?_|refine W.tr ?_|refine W.br ?_)|refine W.rt1 rfl ?_|refine W.rt2 rfl ?_ ?_|refine W.rt3 rfl ?_ ?_ ?_)|clear hK K|clear hu|exact True.intro|exact Nat.le_trans (by clear hp;omega) hp|exact Nat.le_trans (by clear hp;omega) hp.1|exact Nat.le_trans (by clear hp;omega) hp.2|(clear hp;omega)|apply And.intro|refine GI.i fun _=>?_|with_reducible rfl|decide|(simp only [List.length_cons,List.length_nil];omega))
  all_goals first
    | omega
    | exact chk_pos (gap_chk (k:=rk) (by omega))
    | exact sin_e1 (by assumption)
    | exact sin_e2 (by assumption) (by assumption)
    | exact sin_e3 (by assumption) (by assumption)
    | exact (sin_e1 (by assumption)).symm
    | exact (sin_e2 (by assumption) (by assumption)).symm
    | exact (sin_e3 (by assumption) (by assumption)).symm
    | (rw [sin_e1 (by assumption),if_neg (by assumption)];done)
    | (rw [sin_e2 (by assumption) (by assumption)];rfl)
    | (rw [sin_e3 (by assumption) (by assumption)];rfl)
    | skip
instance {n m : Nat} {rg ra rb rc rk : FR} {τ1 : MT} [j1 : NF τ1 (QUD n rg ra rb rc)] {τ2 : MT} [j2 : NF τ2 (FX m rk)] : Con Tryz.prog 44 [τ1,τ2] (1000 * n + 1000 * m + 200000 ≤ BIG) (MT.tup3 (TWR (n + n) (if sinC rg ra rb rc rk = 0 then [[ra.val * rg.val]] else [])) (NM (12 * n + 2 * m + 200) (if sinC rg ra rb rc rk = 0 then sinL rg ra rb rc rk.val else [])) (.ex (errV 69 (sinC rg ra rb rc rk)))):=.o2 fun hok h1 h2 hp=>w44.c2 hok (j1.h h1) (j2.h h2) hp
theorem w69 {n : Nat} {rg ra rb rc : FR} : Con Tryz.prog 69 [QUD n rg ra rb rc] (1000 * n + 300000 ≤ BIG) (.ex (errV 69 (fulC rg ra rb rc))):=.o1 fun hok h1 hp=>by
  refine St.enter (N:=18) Tryz.func69 rfl rfl rfl hok (enter1 h1) fun a=>?_
  have hn1:=qud_pos h1
  repeat' (first|((with_reducible refine gS_ ?_);first|((with_reducible refine gL_ ?_);first|refine W.run ?_ fun a w G=>?_|refine W.mv fun a w G=>?_|refine W.asg fun a w G=>?_|refine W.bx fun b a w G=>?_|(refine W.nn hK ?_;clear hK K)|refine W.nl ?_|refine W.al fun b a w G=>?_|refine W.st fun w=>?_|refine W.stp fun w=>?_|refine W.ste ?_ fun w=>?_)|((with_reducible refine gC_ ?_);first|refine W.reg fun K hK=>?_|refine W.reg1 ?_|refine W.sq fun K hK=>?_|refine W.ds ?_ (fun β a w G hu=>W.fin ?_ hu) mixedOrders (by kernel_rfl)|refine W.sk ?_|refine W.cd (fun hc=>?_) (fun hc=>?_)|refine W.cb (fun hc=>?_) (fun hc=>?_)|refine W.bl ?_|refine W.ex ?_|refine W.rt ?_)|((with_reducible refine W.kn hK ?_);clear hK K)|(with_reducible first|refine W.bn ?_|refine W.xt ?_|refine W.xb ?_|refine W.xo ?_|refine W.tr ?_|refine W.br ?_)|refine W.rt1 rfl ?_|refine W.rt2 rfl ?_ ?_|refine W.rt3 rfl ?_ ?_ ?_)|clear hK K|clear hu|exact True.intro|exact Nat.le_trans (by clear hp;omega) hp|exact Nat.le_trans (by clear hp;omega) hp.1|exact Nat.le_trans (by clear hp;omega) hp.2|(clear hp;omega)|apply And.intro|refine GI.i fun _=>?_|with_reducible rfl|decide|(simp only [List.length_cons,List.length_nil];omega))
  all_goals first
    | omega
    | exact (ful_1 (by assumption)).symm
    | exact (ful_2 (by assumption)).symm
    | skip
instance {n : Nat} {rg ra rb rc : FR} {τ1 : MT} [j1 : NF τ1 (QUD n rg ra rb rc)] : Con Tryz.prog 69 [τ1] (1000 * n + 300000 ≤ BIG) (.ex (errV 69 (fulC rg ra rb rc))):=.o1 fun hok h1 hp=>w69.c1 hok (j1.h h1) hp
theorem w72 {n : Nat} {rg ra rb rc : FR} : Con Tryz.prog 72 [QUD n rg ra rb rc] (1000 * n + 300000 ≤ BIG) (BT (rgtF rg ra rb rc)):=.o1 fun hok h1 hp=>by
  refine St.enter (N:=13) Tryz.func72 rfl rfl rfl hok (enter1 h1) fun a=>?_
  have hn1:=qud_pos h1
  repeat' (first|((with_reducible refine gS_ ?_);first|((with_reducible refine gL_ ?_);first|refine W.run ?_ fun a w G=>?_|refine W.mv fun a w G=>?_|refine W.asg fun a w G=>?_|refine W.bx fun b a w G=>?_|(refine W.nn hK ?_;clear hK K)|refine W.nl ?_|refine W.al fun b a w G=>?_|refine W.st fun w=>?_|refine W.stp fun w=>?_|refine W.ste ?_ fun w=>?_)|((with_reducible refine gC_ ?_);first|refine W.reg fun K hK=>?_|refine W.reg1 ?_|refine W.sq fun K hK=>?_|refine W.ds ?_ (fun β a w G hu=>W.fin ?_ hu) mixedOrders (by kernel_rfl)|refine W.sk ?_|refine W.cd (fun hc=>?_) (fun hc=>?_)|refine W.cb (fun hc=>?_) (fun hc=>?_)|refine W.bl ?_|refine W.ex ?_|refine W.rt ?_)|((with_reducible refine W.kn hK ?_);clear hK K)|(with_reducible first|refine W.bn ?_|refine W.xt ?_|refine W.xb ?_|refine W.xo ?_|refine W.tr ?_|refine W.br ?_)|refine W.rt1 rfl ?_|refine W.rt2 rfl ?_ ?_|refine W.rt3 rfl ?_ ?_ ?_)|clear hK K|clear hu|exact True.intro|exact Nat.le_trans (by clear hp;omega) hp|exact Nat.le_trans (by clear hp;omega) hp.1|exact Nat.le_trans (by clear hp;omega) hp.2|(clear hp;omega)|apply And.intro|refine GI.i fun _=>?_|with_reducible rfl|decide|(simp only [List.length_cons,List.length_nil];omega))
  all_goals first | omega | rfl | skip
instance {n : Nat} {rg ra rb rc : FR} {τ1 : MT} [j1 : NF τ1 (QUD n rg ra rb rc)] : Con Tryz.prog 72 [τ1] (1000 * n + 300000 ≤ BIG) (BT (rgtF rg ra rb rc)):=.o1 fun hok h1 hp=>w72.c1 hok (j1.h h1) hp
attribute [local irreducible] sinC fulC leaL mosL alsC alsF rigF rgtF atF twoA sinA sinB sinL
theorem w16 {n : Nat} {rg ra rb rc : FR} : Con Tryz.prog 16 [QUD n rg ra rb rc] (1000 * n + 300000 ≤ BIG) (MT.tup5 (TWR (n + n) (twoA rg ra rb rc)) (NM (12 * n + 400) (leaL rg ra rb rc)) (NM (12 * n + 400) (mosL rg ra rb rc)) (IT (if fulC rg ra rb rc = 0 then atF rg ra rb rc else 0)) (.ex (errV 69 (fulC rg ra rb rc)))):=.o1 fun hok h1 hp=>by
  refine St.enter (N:=51) Tryz.func16 rfl rfl rfl hok (enter1 h1) fun a=>?_
  have hn1:=qud_pos h1
  repeat' (first|with_reducible refine W.gc 7 3 [4,6] ?_|with_reducible refine W.gc 12 6 [4] ?_|((with_reducible refine gS_ ?_);first|((with_reducible refine gL_ ?_);first|refine W.run ?_ fun a w G=>?_|refine W.mv fun a w G=>?_|refine W.asg fun a w G=>?_|refine W.bx fun b a w G=>?_|(refine W.nn hK ?_;clear hK K)|refine W.nl ?_|refine W.al fun b a w G=>?_|refine W.st fun w=>?_|refine W.stp fun w=>?_|refine W.ste ?_ fun w=>?_)|((with_reducible refine gC_ ?_);first|refine W.reg fun K hK=>?_|refine W.reg1 ?_|refine W.sq fun K hK=>?_|refine W.ds ?_ (fun β a w G hu=>W.fin ?_ hu) mixedOrders (by kernel_rfl)|refine W.sk ?_|refine W.cd (fun hc=>?_) (fun hc=>?_)|refine W.cb (fun hc=>?_) (fun hc=>?_)|refine W.bl ?_|refine W.ex ?_|refine W.rt ?_)|((with_reducible refine W.kn hK ?_);clear hK K)|(with_reducible first|refine W.bn ?_|refine W.xt ?_|refine W.xb ?_|refine W.xo ?_|refine W.tr ?_|refine W.br ?_)|refine W.rt1 rfl ?_|refine W.rt2 rfl ?_ ?_|refine W.rt3 rfl ?_ ?_ ?_)|refine W.rt5 rfl ?_ ?_ ?_ ?_ ?_|refine W.rt4 rfl ?_ ?_ ?_ ?_|clear hK K|clear hu|exact True.intro|exact Nat.le_trans (by clear hp;omega) hp|exact Nat.le_trans (by clear hp;omega) hp.1|exact Nat.le_trans (by clear hp;omega) hp.2|(clear hp;omega)|apply And.intro|refine GI.i fun _=>?_|with_reducible rfl|decide|(simp only [List.length_cons,List.length_nil];omega))
  all_goals first
    | omega
    | exact ful_all (by omega)
    | exact (twoA_0 (by assumption)).1.symm
    | exact (twoA_0 (by assumption)).2.1.symm
    | exact (twoA_0 (by assumption)).2.2.symm
    | exact (twoA_0 (by assumption)).1
    | exact (twoA_0 (by assumption)).2.1
    | exact (twoA_0 (by assumption)).2.2
    | (rw [if_neg (by assumption)];done)
    | exact (twoA_1 (by assumption)).1.symm
    | (rw [if_pos (by omega)];first | exact (at_1 (by assumption)).symm | exact (at_m (by assumption)).symm)
    | (rw [(twoA_1 (by assumption)).2.1];first | (rw [at_1 (by assumption)] <;> rfl) | (rw [at_m (by assumption)] <;> rfl))
    | (rw [(twoA_1 (by assumption)).2.2,if_pos (by assumption)];done)
    | (rw [(twoA_1 (by assumption)).2.2,if_neg (by simp_all)];first | (rw [at_1 (by assumption)] <;> rfl) | (rw [at_m (by assumption)] <;> rfl))
    | skip
instance {n : Nat} {rg ra rb rc : FR} {τ1 : MT} [j1 : NF τ1 (QUD n rg ra rb rc)] : Con Tryz.prog 16 [τ1] (1000 * n + 300000 ≤ BIG) (MT.tup5 (TWR (n + n) (twoA rg ra rb rc)) (NM (12 * n + 400) (leaL rg ra rb rc)) (NM (12 * n + 400) (mosL rg ra rb rc)) (IT (if fulC rg ra rb rc = 0 then atF rg ra rb rc else 0)) (.ex (errV 69 (fulC rg ra rb rc)))):=.o1 fun hok h1 hp=>w16.c1 hok (j1.h h1) hp
theorem w17 {n m : Nat} {rg ra rb rc rm : FR} : Con Tryz.prog 17 [QUD n rg ra rb rc,FX m rm] (1000 * n + 1000 * m + 300000 ≤ BIG) (MT.tup2 (BT (alsF rg ra rb rc rm)) (.ex (errV 69 (alsC rg ra rb rc rm)))):=.o2 fun hok h1 h2 hp=>by
  refine St.enter (N:=48) Tryz.func17 rfl rfl rfl hok (enter2 h1 h2) fun a=>?_
  have hn1:=qud_pos h1
  repeat' (first|((with_reducible refine gS_ ?_);first|((with_reducible refine gL_ ?_);first|refine W.run ?_ fun a w G=>?_|refine W.mv fun a w G=>?_|refine W.asg fun a w G=>?_|refine W.bx fun b a w G=>?_|(refine W.nn hK ?_;clear hK K)|refine W.nl ?_|refine W.al fun b a w G=>?_|refine W.st fun w=>?_|refine W.stp fun w=>?_|refine W.ste ?_ fun w=>?_)|((with_reducible refine gC_ ?_);first|refine W.reg fun K hK=>?_|refine W.reg1 ?_|refine W.sq fun K hK=>?_|refine W.ds ?_ (fun β a w G hu=>W.fin ?_ hu) mixedOrders (by kernel_rfl)|refine W.sk ?_|refine W.cd (fun hc=>?_) (fun hc=>?_)|refine W.cb (fun hc=>?_) (fun hc=>?_)|refine W.bl ?_|refine W.ex ?_|refine W.rt ?_)|((with_reducible refine W.kn hK ?_);clear hK K)|(with_reducible first|refine W.bn ?_|refine W.xt ?_|refine W.xb ?_|refine W.xo ?_|refine W.tr ?_|refine W.br ?_)|refine W.rt1 rfl ?_|refine W.rt2 rfl ?_ ?_|refine W.rt3 rfl ?_ ?_ ?_)|clear hK K|clear hu|exact True.intro|exact Nat.le_trans (by clear hp;omega) hp|exact Nat.le_trans (by clear hp;omega) hp.1|exact Nat.le_trans (by clear hp;omega) hp.2|(clear hp;omega)|apply And.intro|refine GI.i fun _=>?_|with_reducible rfl|decide|(simp only [List.length_cons,List.length_nil];omega))
  all_goals first
    | omega
    | exact (als_1 (by assumption)).symm
    | exact (als_2 (by assumption) (by assumption)).symm
    | exact (als_3 (by assumption) (by assumption)).symm
    | exact (als_sg (by assumption) (by assumption) (by assumption)).2.symm
    | (rw [(als_sg (by assumption) (by assumption) (by assumption)).1];rfl)
    | exact pw_sho
    | (rw [(twoA_1 (by assumption)).1]; first
       | exact tok1 (Rat.le_of_lt (ag_posX (b:=rb) (c:=rc) (ful_all (by omega))))
       | (show sB 1 _ _ ≤ BIG;rw [sB1];omega)
       | (rw [(twoA_1 (by assumption)).2.1];unfold sinL;exact pw2 (Nat.le_refl 1)))
    | (rw [alsF_0 (by rw [als_1 (by assumption)];assumption)];done)
    | (rw [alsF_0 (by rw [als_2 (by assumption) (by assumption)];decide)];done)
    | (rw [alsF_0 (by rw [als_3 (by assumption) (by assumption)];assumption)];done)
    | skip
instance {n m : Nat} {rg ra rb rc rm : FR} {τ1 : MT} [j1 : NF τ1 (QUD n rg ra rb rc)] {τ2 : MT} [j2 : NF τ2 (FX m rm)] : Con Tryz.prog 17 [τ1,τ2] (1000 * n + 1000 * m + 300000 ≤ BIG) (MT.tup2 (BT (alsF rg ra rb rc rm)) (.ex (errV 69 (alsC rg ra rb rc rm)))):=.o2 fun hok h1 h2 hp=>w17.c2 hok (j1.h h1) (j2.h h2) hp
theorem w18 {n : Nat} {rg ra rb rc : FR} : Con Tryz.prog 18 [QUD n rg ra rb rc] (1000 * n + 300000 ≤ BIG) (MT.tup2 (IT (rigF rg ra rb rc)) (.ex (errV 69 (fulC rg ra rb rc)))):=.o1 fun hok h1 hp=>by
  refine St.enter (N:=15) Tryz.func18 rfl rfl rfl hok (enter1 h1) fun a=>?_
  have hn1:=qud_pos h1
  repeat' (first|((with_reducible refine gS_ ?_);first|((with_reducible refine gL_ ?_);first|refine W.run ?_ fun a w G=>?_|refine W.mv fun a w G=>?_|refine W.asg fun a w G=>?_|refine W.bx fun b a w G=>?_|(refine W.nn hK ?_;clear hK K)|refine W.nl ?_|refine W.al fun b a w G=>?_|refine W.st fun w=>?_|refine W.stp fun w=>?_|refine W.ste ?_ fun w=>?_)|((with_reducible refine gC_ ?_);first|refine W.reg fun K hK=>?_|refine W.reg1 ?_|refine W.sq fun K hK=>?_|refine W.ds ?_ (fun β a w G hu=>W.fin ?_ hu) mixedOrders (by kernel_rfl)|refine W.sk ?_|refine W.cd (fun hc=>?_) (fun hc=>?_)|refine W.cb (fun hc=>?_) (fun hc=>?_)|refine W.bl ?_|refine W.ex ?_|refine W.rt ?_)|((with_reducible refine W.kn hK ?_);clear hK K)|(with_reducible first|refine W.bn ?_|refine W.xt ?_|refine W.xb ?_|refine W.xo ?_|refine W.tr ?_|refine W.br ?_)|refine W.rt1 rfl ?_|refine W.rt2 rfl ?_ ?_|refine W.rt3 rfl ?_ ?_ ?_)|clear hK K|clear hu|exact True.intro|exact Nat.le_trans (by clear hp;omega) hp|exact Nat.le_trans (by clear hp;omega) hp.1|exact Nat.le_trans (by clear hp;omega) hp.2|(clear hp;omega)|apply And.intro|refine GI.i fun _=>?_|with_reducible rfl|decide|(simp only [List.length_cons,List.length_nil];omega))
  all_goals first
    | omega
    | exact (rig_0 (by assumption)).symm
    | exact (rig_1 (by assumption) (by assumption)).symm
    | exact (rig_2 (by assumption) (by simp_all)).symm
    | skip
instance {n : Nat} {rg ra rb rc : FR} {τ1 : MT} [j1 : NF τ1 (QUD n rg ra rb rc)] : Con Tryz.prog 18 [τ1] (1000 * n + 300000 ≤ BIG) (MT.tup2 (IT (rigF rg ra rb rc)) (.ex (errV 69 (fulC rg ra rb rc)))):=.o1 fun hok h1 hp=>w18.c1 hok (j1.h h1) hp
end Go.Proofs.YtdbdnabpaadigaaGreat
