import Derived.Test.YtdbdnabpaadigaaGreatQh
set_option linter.unusedVariables false
set_option linter.unusedSimpArgs false
set_option linter.unusedVariables false
set_option linter.unusedSimpArgs false
set_option maxHeartbeats 4000000
set_option maxRecDepth 100000
set_option synthInstance.maxSize 100000
set_option synthInstance.maxHeartbeats 400000
namespace Go.Proofs.YtdbdnabpaadigaaGreat
open Go.RowKit (Below)
attribute [local irreducible] Go.Code.wp Go.wpList Go.bodyPost
private theorem gS_ {W0 : World} {G0 : Gh} {N : Nat} {L : List (Nat × MT)} {B : List BX} {a : Act} {w : World} {G : Gh} {q : Prop} (h : St W0 G0 N L B a w G → q) : St W0 G0 N L B a w G → q:=h
private theorem gL_ {p : Prop} {P : Program} {arr : Array Oper} {Q : Exit → Act → World → Prop} {l : List Oper} {a : Act} {w : World} (h : p → wpList P arr Q l a w) : p → wpList P arr Q l a w:=h
private theorem gC_ {p : Prop} {P : Program} {c : Code} {Q : Exit → Act → World → Prop} {a : Act} {w : World} (h : p → c.wp P Q a w) : p → c.wp P Q a w:=h
private theorem mixedOrders : Tryz.prog.follows .mixedOrders = true:=by kernel_rfl
attribute [local irreducible] plusF minusF joinF levI lev PW RLN tB sB timesF stepF tmF normF TOK sgL surdsF chkF gapC fullF nearF farF limL limJ shortF
instance ShN.k1 {fs : List (Option Nat × MT)} {n : Nat} {τ : MT} [h : ShN fs n] : ShN ((some 1,τ) :: fs) (n + 1):=⟨by rw [offs_cons,h.h];simp;omega⟩
instance (priority:=500) PrtL.k1 {τ' : MT} {fs : List (Option Nat × MT)} {i : Nat} {kt : Option Nat} {τ : MT} [h : PrtL fs i kt τ] : PrtL ((some 1,τ') :: fs) (i + 1) kt τ:=h.skip rfl
instance (priority:=500) UpdL.k1 {τ' : MT} {fs fs' : List (Option Nat × MT)} {i : Nat} {kt : Option Nat} {τ : MT} [h : UpdL fs i kt τ fs'] : UpdL ((some 1,τ') :: fs) (i + 1) kt τ ((some 1,τ') :: fs'):=h.skip rfl
abbrev LFX (m : Nat) (l : List FR) : MT:=LS (some 3) (l.map (FX m))
theorem fr_is {r : FR} {y : Rat} (hw : wfl r.p ∧ wfl r.q) : (r.ok && (FR.of y).ok && decide (cmpQ r.val y = 0)) = decide (r = FR.of y):=by
  rw [Bool.eq_iff_iff,decide_eq_true_eq]
  constructor
  · intro h
    rw [Bool.and_eq_true,Bool.and_eq_true] at h
    have h2:=cmpQ_eq0.1 (of_decide_eq_true h.2)
    rw [← h2,fr_self hw h.1.1]
  · intro h;subst h
    rw [FR.of_ok,FR.of_val,decide_eq_true (cmpQ_eq0.2 rfl)];rfl
theorem getD_of {l : List Rat} {j : Nat} (h : j < l.length) : (l.map FR.of).getD j default = FR.of (l.getD j default):=by
  rw [List.getD_eq_getElem?_getD,List.getD_eq_getElem?_getD,List.getElem?_map,List.getElem?_eq_getElem h];rfl
theorem getD_ofs {l : List (List Rat)} {j : Nat} (h : j < l.length) : (l.map (List.map FR.of)).getD j default = (l.getD j default).map FR.of:=by
  rw [List.getD_eq_getElem?_getD,List.getD_eq_getElem?_getD,List.getElem?_map,List.getElem?_eq_getElem h];rfl
instance {m n : Nat} {r : FR} {y : Rat} : Con Tryz.prog 164 [FX m r,QC n y] (m + n ≤ BIG) (BT (decide (r = FR.of y))):=.o2 fun hok h1 h2 hp=>by
  refine St.enter (N:=17) Tryz.func164 rfl rfl rfl hok (enter2 h1 h2) fun a=>?_
  repeat' (first|((with_reducible refine gS_ ?_);first|((with_reducible refine gL_ ?_);first|refine W.run ?_ fun a w G=>?_|refine W.mv fun a w G=>?_|refine W.asg fun a w G=>?_|refine W.bx fun b a w G=>?_|(refine W.nn hK ?_;clear hK K)|refine W.nl ?_|refine W.al fun b a w G=>?_|refine W.st fun w=>?_|refine W.stp fun w=>?_|refine W.ste ?_ fun w=>?_)|((with_reducible refine gC_ ?_);first|refine W.reg fun K hK=>?_|refine W.reg1 ?_|refine W.sq fun K hK=>?_|refine W.ds ?_ (fun β a w G hu=>W.fin ?_ hu) mixedOrders (by kernel_rfl)|refine W.sk ?_|refine W.cd (fun hc=>?_) (fun hc=>?_)|refine W.cb (fun hc=>?_) (fun hc=>?_)|refine W.bl ?_|refine W.ex ?_|refine W.rt ?_)|((with_reducible refine W.kn hK ?_);clear hK K)|(with_reducible first|refine W.bn ?_|refine W.xt ?_|refine W.xb ?_|refine W.xo ?_|refine W.tr ?_|refine W.br ?_)|refine W.rt1 rfl ?_|refine W.rt2 rfl ?_ ?_|refine W.rt3 rfl ?_ ?_ ?_)|clear hK K|clear hu|exact True.intro|exact Nat.le_trans (by clear hp;omega) hp|exact Nat.le_trans (by clear hp;omega) hp.1|exact Nat.le_trans (by clear hp;omega) hp.2|(clear hp;omega)|apply And.intro|refine GI.i fun _=>?_|with_reducible rfl|decide|(simp only [List.length_cons,List.length_nil];omega))
  all_goals first
    | omega
    | exact fr_is (QR.wf (FX.qr h1))
    | skip
instance : Cb Tryz.prog 164:=⟨by kernel_rfl⟩
instance {m n : Nat} {xs : List FR} {ys : List Rat} : Con Tryz.prog 163 [LFX m xs,NM n ys,FV 164] (m + n ≤ BIG) (BT (decide (xs = ys.map FR.of))):=.o3 fun hok h1 h2 h3 hp=>by
  refine St.enter (N:=32) Tryz.func163 rfl rfl rfl hok (enter3 h1 h2 h3) fun a=>?_
  have hlim:=LS.lenM h1
  have hlim2:=LS.lenM h2
  simp only [LIM] at hlim hlim2
  repeat' (first|((with_reducible refine gS_ ?_);first|((with_reducible refine gL_ ?_);first|refine W.run ?_ fun a w G=>?_|refine W.mv fun a w G=>?_|refine W.asg fun a w G=>?_|refine W.bx fun b a w G=>?_|(refine W.nn hK ?_;clear hK K)|refine W.nl ?_|refine W.al fun b a w G=>?_|refine W.st fun w=>?_|refine W.stp fun w=>?_|refine W.ste ?_ fun w=>?_)|((with_reducible refine gC_ ?_);first|refine W.reg fun K hK=>?_|refine W.reg1 ?_|refine W.sq fun K hK=>?_|refine W.ds ?_ (fun β a w G hu=>W.fin ?_ hu) mixedOrders (by kernel_rfl)|refine W.sk ?_|refine W.cd (fun hc=>?_) (fun hc=>?_)|refine W.cb (fun hc=>?_) (fun hc=>?_)|refine W.bl ?_|refine W.ex ?_|refine W.rt ?_)|((with_reducible refine W.kn hK ?_);clear hK K)|(with_reducible first|refine W.bn ?_|refine W.xt ?_|refine W.xb ?_|refine W.xo ?_|refine W.tr ?_|refine W.br ?_)|refine W.rt1 rfl ?_|refine W.rt2 rfl ?_ ?_|refine W.rt3 rfl ?_ ?_ ?_)|refine W.lp 18 (α:=Nat) (fun j=>xs.length - j) (fun j=>j ≤ xs.length ∧ xs.take j = (ys.map FR.of).take j) [6,7,8,9,17,18,19,20,21,22,23,24,25,26,27,28,29,30,31] (fun j=>[(17,NT j)]) (fun j=>[]) (0) ?_ ?_ ?_ fun j hj a w G=>?_|refine W.ag (x:=j) (j+1) ?_ ?_ ?_ ?_|clear hK K|clear hu|exact True.intro|exact Nat.le_trans (by clear hp;omega) hp|exact Nat.le_trans (by clear hp;omega) hp.1|exact Nat.le_trans (by clear hp;omega) hp.2|(clear hp;omega)|apply And.intro|refine GI.i fun _=>?_|with_reducible rfl|decide|(simp only [List.length_cons,List.length_nil];omega))
  all_goals first
    | omega
    | exact eq_ln (by simpa using hc)
    | (simp;done)
    | (have hle : xs.length = (ys.map FR.of).length := by (have h0 : ¬ ((xs.length : Nat) : Int) ≠ ((ys.length : Nat) : Int) := by assumption); rw [List.length_map]; omega
       have hle2 : xs.length = ys.length:=by rw [List.length_map] at hle;exact hle
       first
       | omega
       | exact eq_en (by omega) hle hj.2
       | (rw [← getD_of (by omega)] at hc
          first
          | (refine eq_at (j:=j) (by omega) hle ?_;simpa using hc)
          | exact eq_nx (by omega) hle hj.2 (by simpa using hc)))
    | skip
instance {m n : Nat} {xs : List FR} {ys : List Rat} : Con Tryz.prog 104 [LFX m xs,NM n ys] (m + n ≤ BIG) (BT (decide (xs = ys.map FR.of))):=.o2 fun hok h1 h2 hp=>by
  refine St.enter (N:=8) Tryz.func104 rfl rfl rfl hok (enter2 h1 h2) fun a=>?_
  repeat' (first|((with_reducible refine gS_ ?_);first|((with_reducible refine gL_ ?_);first|refine W.run ?_ fun a w G=>?_|refine W.mv fun a w G=>?_|refine W.asg fun a w G=>?_|refine W.bx fun b a w G=>?_|(refine W.nn hK ?_;clear hK K)|refine W.nl ?_|refine W.al fun b a w G=>?_|refine W.st fun w=>?_|refine W.stp fun w=>?_|refine W.ste ?_ fun w=>?_)|((with_reducible refine gC_ ?_);first|refine W.reg fun K hK=>?_|refine W.reg1 ?_|refine W.sq fun K hK=>?_|refine W.ds ?_ (fun β a w G hu=>W.fin ?_ hu) mixedOrders (by kernel_rfl)|refine W.sk ?_|refine W.cd (fun hc=>?_) (fun hc=>?_)|refine W.cb (fun hc=>?_) (fun hc=>?_)|refine W.bl ?_|refine W.ex ?_|refine W.rt ?_)|((with_reducible refine W.kn hK ?_);clear hK K)|(with_reducible first|refine W.bn ?_|refine W.xt ?_|refine W.xb ?_|refine W.xo ?_|refine W.tr ?_|refine W.br ?_)|refine W.rt1 rfl ?_|refine W.rt2 rfl ?_ ?_|refine W.rt3 rfl ?_ ?_ ?_)|clear hK K|clear hu|exact True.intro|exact Nat.le_trans (by clear hp;omega) hp|exact Nat.le_trans (by clear hp;omega) hp.1|exact Nat.le_trans (by clear hp;omega) hp.2|(clear hp;omega)|apply And.intro|refine GI.i fun _=>?_|with_reducible rfl|decide|(simp only [List.length_cons,List.length_nil];omega))
instance {m n : Nat} {xs : List (List FR)} {ys : List (List Rat)} : Con Tryz.prog 103 [LS none (xs.map (LFX m)),LS none (ys.map (NM n)),FV 104] (m + n ≤ BIG) (BT (decide (xs = ys.map (List.map FR.of)))):=.o3 fun hok h1 h2 h3 hp=>by
  refine St.enter (N:=32) Tryz.func103 rfl rfl rfl hok (enter3 h1 h2 h3) fun a=>?_
  have hlim:=LS.lenM h1
  have hlim2:=LS.lenM h2
  simp only [LIM] at hlim hlim2
  repeat' (first|((with_reducible refine gS_ ?_);first|((with_reducible refine gL_ ?_);first|refine W.run ?_ fun a w G=>?_|refine W.mv fun a w G=>?_|refine W.asg fun a w G=>?_|refine W.bx fun b a w G=>?_|(refine W.nn hK ?_;clear hK K)|refine W.nl ?_|refine W.al fun b a w G=>?_|refine W.st fun w=>?_|refine W.stp fun w=>?_|refine W.ste ?_ fun w=>?_)|((with_reducible refine gC_ ?_);first|refine W.reg fun K hK=>?_|refine W.reg1 ?_|refine W.sq fun K hK=>?_|refine W.ds ?_ (fun β a w G hu=>W.fin ?_ hu) mixedOrders (by kernel_rfl)|refine W.sk ?_|refine W.cd (fun hc=>?_) (fun hc=>?_)|refine W.cb (fun hc=>?_) (fun hc=>?_)|refine W.bl ?_|refine W.ex ?_|refine W.rt ?_)|((with_reducible refine W.kn hK ?_);clear hK K)|(with_reducible first|refine W.bn ?_|refine W.xt ?_|refine W.xb ?_|refine W.xo ?_|refine W.tr ?_|refine W.br ?_)|refine W.rt1 rfl ?_|refine W.rt2 rfl ?_ ?_|refine W.rt3 rfl ?_ ?_ ?_)|refine W.lp 18 (α:=Nat) (fun j=>xs.length - j) (fun j=>j ≤ xs.length ∧ xs.take j = (ys.map (List.map FR.of)).take j) [6,7,8,9,17,18,19,20,21,22,23,24,25,26,27,28,29,30,31] (fun j=>[(17,NT j)]) (fun j=>[]) (0) ?_ ?_ ?_ fun j hj a w G=>?_|refine W.ag (x:=j) (j+1) ?_ ?_ ?_ ?_|clear hK K|clear hu|exact True.intro|exact Nat.le_trans (by clear hp;omega) hp|exact Nat.le_trans (by clear hp;omega) hp.1|exact Nat.le_trans (by clear hp;omega) hp.2|(clear hp;omega)|apply And.intro|refine GI.i fun _=>?_|with_reducible rfl|decide|(simp only [List.length_cons,List.length_nil];omega))
  all_goals first
    | omega
    | exact eq_ln (by simpa using hc)
    | (simp;done)
    | (have hle : xs.length = (ys.map (List.map FR.of)).length := by (have h0 : ¬ ((xs.length : Nat) : Int) ≠ ((ys.length : Nat) : Int) := by assumption); rw [List.length_map]; omega
       have hle2 : xs.length = ys.length:=by rw [List.length_map] at hle;exact hle
       first
       | omega
       | exact eq_en (by omega) hle hj.2
       | (rw [← getD_ofs (by omega)] at hc
          first
          | (refine eq_at (j:=j) (by omega) hle ?_;simpa using hc)
          | exact eq_nx (by omega) hle hj.2 (by simpa using hc)))
    | skip
theorem w102 {n : Nat} {rg ra rb rc : FR} : Con Tryz.prog 102 [QUD n rg ra rb rc] (2000 * n + 300000 ≤ BIG) (PTS [(some 1,TWR (n + n) [[ra.val * rg.val],[rb.val * rc.val,0]]),(none,NM (4 * n + 134) [rg.val + ra.val - (rb.val + rc.val),-(2 * 1),2,0]),(none,NM (4 * n + 134) [rb.val + rc.val - (rg.val + ra.val),2 * (-1),2,0])]):=.o1 fun hok h1 hp=>by
  refine St.enter (N:=12) Tryz.func102 rfl rfl rfl hok (enter1 h1) fun a=>?_
  have hn1:=qud_pos h1
  repeat' (first|((with_reducible refine gS_ ?_);first|((with_reducible refine gL_ ?_);first|refine W.run ?_ fun a w G=>?_|refine W.mv fun a w G=>?_|refine W.asg fun a w G=>?_|refine W.bx fun b a w G=>?_|(refine W.nn hK ?_;clear hK K)|refine W.nl ?_|refine W.al fun b a w G=>?_|refine W.st fun w=>?_|refine W.stp fun w=>?_|refine W.ste ?_ fun w=>?_)|((with_reducible refine gC_ ?_);first|refine W.reg fun K hK=>?_|refine W.reg1 ?_|refine W.sq fun K hK=>?_|refine W.ds ?_ (fun β a w G hu=>W.fin ?_ hu) mixedOrders (by kernel_rfl)|refine W.sk ?_|refine W.cd (fun hc=>?_) (fun hc=>?_)|refine W.cb (fun hc=>?_) (fun hc=>?_)|refine W.bl ?_|refine W.ex ?_|refine W.rt ?_)|((with_reducible refine W.kn hK ?_);clear hK K)|(with_reducible first|refine W.bn ?_|refine W.xt ?_|refine W.xb ?_|refine W.xo ?_|refine W.tr ?_|refine W.br ?_)|refine W.rt1 rfl ?_|refine W.rt2 rfl ?_ ?_|refine W.rt3 rfl ?_ ?_ ?_)|clear hK K|clear hu|exact True.intro|exact Nat.le_trans (by clear hp;omega) hp|exact Nat.le_trans (by clear hp;omega) hp.1|exact Nat.le_trans (by clear hp;omega) hp.2|(clear hp;omega)|apply And.intro|refine GI.i fun _=>?_|with_reducible rfl|decide|(simp only [List.length_cons,List.length_nil];omega))
  all_goals first | omega | skip
instance {n : Nat} {rg ra rb rc : FR} {τ1 : MT} [j1 : NF τ1 (QUD n rg ra rb rc)] : Con Tryz.prog 102 [τ1] (2000 * n + 300000 ≤ BIG) (PTS [(some 1,TWR (n + n) [[ra.val * rg.val],[rb.val * rc.val,0]]),(none,NM (4 * n + 134) [rg.val + ra.val - (rb.val + rc.val),-(2 * 1),2,0]),(none,NM (4 * n + 134) [rb.val + rc.val - (rg.val + ra.val),2 * (-1),2,0])]):=.o1 fun hok h1 hp=>w102.c1 hok (j1.h h1) hp
end Go.Proofs.YtdbdnabpaadigaaGreat
set_option linter.unusedVariables false
set_option linter.unusedSimpArgs false
set_option maxHeartbeats 4000000
set_option maxRecDepth 100000
set_option synthInstance.maxSize 100000
set_option synthInstance.maxHeartbeats 400000
namespace Go.Proofs.YtdbdnabpaadigaaGreat
open Go.RowKit (Below)
attribute [local irreducible] Go.Code.wp Go.wpList Go.bodyPost
attribute [local irreducible] plusF minusF joinF levI lev PW RLN tB sB timesF stepF tmF normF TOK sgL surdsF chkF gapC fullF nearF farF limL limJ shortF
def prfC (g a b c : FR) : Int:=if chkF [g,a,b,c] = 0 then (if fullF g a b c then 0 else 21) else chkF [g,a,b,c]
def prfT (rg ra rb rc : FR) : List (List Rat):=if prfC rg ra rb rc = 0 then [[ra.val * rg.val],[rb.val * rc.val,0]] else []
def prfN (rg ra rb rc : FR) : List Rat:=if prfC rg ra rb rc = 0 then [rg.val + ra.val - (rb.val + rc.val),-(2 * 1),2,0] else []
def prfF (rg ra rb rc : FR) : List Rat:=if prfC rg ra rb rc = 0 then [rb.val + rc.val - (rg.val + ra.val),2 * (-1),2,0] else []
def prfE (rg ra rb rc : FR) (xs : List (List FR)) (ys zs : List FR) : Bool:=decide (xs = [[ra.val * rg.val],[rb.val * rc.val,0]].map (List.map FR.of)) && decide (ys = [rg.val + ra.val - (rb.val + rc.val),-(2 * 1),2,0].map FR.of) && decide (zs = [rb.val + rc.val - (rg.val + ra.val),2 * (-1),2,0].map FR.of)
theorem prf_bad {g a b c : FR} (h : chkF [g,a,b,c] ≠ 0) : prfC g a b c = chkF [g,a,b,c]:=by unfold prfC;rw [if_neg h]
theorem eqs_n {p q r : Prop} [Decidable p] [Decidable q] [Decidable r] (h : ((!decide p || !decide q) || !decide r) = true) : (decide p && decide q && decide r) = false:=by
  cases hp : decide p <;> cases hq : decide q <;> cases hr : decide r <;> simp_all
theorem eqs_y {p q r : Prop} [Decidable p] [Decidable q] [Decidable r] (h : ((!decide p || !decide q) || !decide r) = false) : (decide p && decide q && decide r) = true:=by
  cases hp : decide p <;> cases hq : decide q <;> cases hr : decide r <;> simp_all
theorem prf_full {g a b c : FR} (h : ¬ chkF [g,a,b,c] ≠ 0) : decide (prfC g a b c = 0) = fullF g a b c:=by
  unfold prfC;rw [if_pos (by omega)]
  cases fullF g a b c <;> decide
theorem any_at {xs : List (List FR)} {j : Nat} (hj : j < xs.length) (h : (!shortF (xs.getD j default)) = true) (b : Bool) : true = ((xs.any fun x=>!shortF x) || b):=by
  have : (xs.any fun x=>!shortF x) = true:=List.any_eq_true.2 ⟨xs.getD j default,by rw [List.getD_eq_getElem?_getD,List.getElem?_eq_getElem hj];exact List.getElem_mem hj,h⟩
  rw [this,Bool.true_or]
theorem all_nx {xs : List (List FR)} {j : Nat} (hj : j < xs.length) (h : (xs.take j).all shortF = true) (h2 : (!shortF (xs.getD j default)) = false) : (xs.take (j + 1)).all shortF = true:=by
  rw [List.getD_eq_getElem?_getD,List.getElem?_eq_getElem hj,Option.getD_some,Bool.not_eq_false'] at h2
  rw [List.take_add_one,List.getElem?_eq_getElem hj,List.all_append,h]
  simp [h2]
theorem any_no {xs : List (List FR)} {j : Nat} (hj : ¬ j < xs.length) (h : (xs.take j).all shortF = true) : (xs.any fun x=>!shortF x) = false:=by
  rw [List.take_of_length_le (by omega)] at h
  rw [List.any_eq_false]
  intro x hx
  simpa using List.all_eq_true.1 h x hx
theorem w40 {m n : Nat} {rg ra rb rc : FR} {xs : List (List FR)} {ys zs : List FR} : Con Tryz.prog 40 [QUD n rg ra rb rc,PTS [(some 1,PTS [(none,LS none (xs.map (LFX m)))]),(none,LFX m ys),(none,LFX m zs)]] (2000 * n + m + 300000 ≤ BIG) (MT.tup2 (BT (decide (prfC rg ra rb rc = 0) && prfE rg ra rb rc xs ys zs)) (.ex (errV 69 (chkF [rg,ra,rb,rc])))):=.o2 fun hok h1 h2 hp=>by
  refine St.enter (N:=43) Tryz.func40 rfl rfl rfl hok (enter2 h1 h2) fun a=>?_
  have hn1:=qud_pos h1
  repeat' (first|((with_reducible refine gS_ ?_);first|((with_reducible refine gL_ ?_);first|refine W.run ?_ fun a w G=>?_|refine W.mv fun a w G=>?_|refine W.asg fun a w G=>?_|refine W.bx fun b a w G=>?_|(refine W.nn hK ?_;clear hK K)|refine W.nl ?_|refine W.al fun b a w G=>?_|refine W.st fun w=>?_|refine W.stp fun w=>?_|refine W.ste ?_ fun w=>?_)|((with_reducible refine gC_ ?_);first|refine W.reg fun K hK=>?_|refine W.reg1 ?_|refine W.sq fun K hK=>?_|refine W.ds ?_ (fun β a w G hu=>W.fin ?_ hu) mixedOrders (by kernel_rfl)|refine W.sk ?_|refine W.cd (fun hc=>?_) (fun hc=>?_)|refine W.cb (fun hc=>?_) (fun hc=>?_)|refine W.bl ?_|refine W.ex ?_|refine W.rt ?_)|((with_reducible refine W.kn hK ?_);clear hK K)|(with_reducible first|refine W.bn ?_|refine W.xt ?_|refine W.xb ?_|refine W.xo ?_|refine W.tr ?_|refine W.br ?_)|refine W.rt1 rfl ?_|refine W.rt2 rfl ?_ ?_|refine W.rt3 rfl ?_ ?_ ?_)|clear hK K|clear hu|exact True.intro|exact Nat.le_trans (by clear hp;omega) hp|exact Nat.le_trans (by clear hp;omega) hp.1|exact Nat.le_trans (by clear hp;omega) hp.2|(clear hp;omega)|apply And.intro|refine GI.i fun _=>?_|with_reducible rfl|decide|(simp only [List.length_cons,List.length_nil];omega))
  all_goals first
    | omega
    | (rw [prf_bad (by assumption),decide_eq_false (by assumption)];rfl)
    | (rw [show prfE rg ra rb rc xs ys zs = false from eqs_n hc,Bool.and_false])
    | (rw [show prfE rg ra rb rc xs ys zs = true from eqs_y hc,Bool.and_true,prf_full (by assumption)])
    | skip
instance {m n : Nat} {rg ra rb rc : FR} {xs : List (List FR)} {ys zs : List FR} {τ1 : MT} [j1 : NF τ1 (QUD n rg ra rb rc)] : Con Tryz.prog 40 [τ1,PTS [(some 1,PTS [(none,LS none (xs.map (LFX m)))]),(none,LFX m ys),(none,LFX m zs)]] (2000 * n + m + 300000 ≤ BIG) (MT.tup2 (BT (decide (prfC rg ra rb rc = 0) && prfE rg ra rb rc xs ys zs)) (.ex (errV 69 (chkF [rg,ra,rb,rc])))):=.o2 fun hok h1 h2 hp=>w40.c2 hok (j1.h h1) h2 hp
instance {xs : List (List FR)} {ys zs : List FR} : Con Tryz.prog 38 [PTS [(some 1,PTS [(none,LS none (xs.map LFR))]),(none,LFR ys),(none,LFR zs)]] (xs.length * 24 ≤ 140737488351232) (BT ((xs ++ [ys,zs]).any (fun x=>!shortF x) || decide (xs.length > 10))):=.o1 fun hok h1 hp=>by
  refine St.enter (N:=30) Tryz.func38 rfl rfl rfl hok (enter1 h1) fun a=>?_
  have hlim : xs.length + 2 ≤ LIM:=by simp only [LIM];omega
  repeat' (first|((with_reducible refine gS_ ?_);first|((with_reducible refine gL_ ?_);first|refine W.run ?_ fun a w G=>?_|refine W.mv fun a w G=>?_|refine W.asg fun a w G=>?_|refine W.bx fun b a w G=>?_|(refine W.nn hK ?_;clear hK K)|refine W.nl ?_|refine W.al fun b a w G=>?_|refine W.st fun w=>?_|refine W.stp fun w=>?_|refine W.ste ?_ fun w=>?_)|((with_reducible refine gC_ ?_);first|refine W.dw (T:=LFR) ?_ (fun a w G=>?_) mixedOrders (by kernel_rfl)|refine W.reg fun K hK=>?_|refine W.reg1 ?_|refine W.sq fun K hK=>?_|refine W.ds ?_ (fun β a w G hu=>W.fin ?_ hu) mixedOrders (by kernel_rfl)|refine W.sk ?_|refine W.cd (fun hc=>?_) (fun hc=>?_)|refine W.cb (fun hc=>?_) (fun hc=>?_)|refine W.bl ?_|refine W.ex ?_|refine W.rt ?_)|((with_reducible refine W.kn hK ?_);clear hK K)|(with_reducible first|refine W.bn ?_|refine W.xt ?_|refine W.xb ?_|refine W.xo ?_|refine W.tr ?_|refine W.br ?_)|refine W.rt1 rfl ?_|refine W.rt2 rfl ?_ ?_|refine W.rt3 rfl ?_ ?_ ?_)|refine W.lp 18 (α:=Nat) (fun j=>(xs ++ [ys,zs]).length - j) (fun j=>j ≤ (xs ++ [ys,zs]).length ∧ ((xs ++ [ys,zs]).take j).all shortF = true) [2,4,17,18,19,20,21,22,23,24] (fun j=>[(17,NT j)]) (fun j=>[]) (0) ?_ ?_ ?_ fun j hj a w G=>?_|refine W.ag (x:=j) (j+1) ?_ ?_ ?_ ?_|clear hK K|clear hu|exact True.intro|exact Nat.le_trans (by clear hp;omega) hp|exact Nat.le_trans (by clear hp;omega) hp.1|exact Nat.le_trans (by clear hp;omega) hp.2|(clear hp;omega)|apply And.intro|refine GI.i fun _=>?_|with_reducible rfl|decide|(simp only [List.length_cons,List.length_nil];omega))
  all_goals (try have hlen : (xs ++ [ys,zs]).length = xs.length + 2:=by simp)
  all_goals first
    | omega
    | (simp;done)
    | (simp only [LIM,List.length_cons,List.length_nil] at *;omega)
    | exact any_at (by omega) hc _
    | exact all_nx (by omega) hj.2 hc
    | (rw [any_no (by omega) hj.2,Bool.false_or];exact decide_eq_decide.2 (by omega))
    | skip
end Go.Proofs.YtdbdnabpaadigaaGreat
set_option linter.unusedVariables false
set_option linter.unusedSimpArgs false
set_option maxHeartbeats 4000000
set_option maxRecDepth 100000
set_option synthInstance.maxSize 100000
set_option synthInstance.maxHeartbeats 400000
namespace Go.Proofs.YtdbdnabpaadigaaGreat
open Go.RowKit (Below)
attribute [local irreducible] Go.Code.wp Go.wpList Go.bodyPost
attribute [local irreducible] plusF minusF joinF levI lev PW RLN tB sB timesF stepF tmF normF TOK sgL surdsF chkF gapC fullF nearF farF limL limJ shortF prfC prfT prfN prfF prfE
theorem LFX.lfr {m : Nat} {l : List FR} {v : Value} {G : Gh} (h : (LFX m l).t v G) : (LFR l).t v G:=LS.convM (T:=FX m) (U:=RX) (f:=fun r=>r) h (by simp) fun x hx v G hv=>FX.toRX hv
theorem NM.lfx {n m : Nat} (hm : n ≤ m) {l : List Rat} {v : Value} {G : Gh} (h : (NM n l).t v G) : (LFX m (l.map FR.of)).t v G:=LS.convM (T:=QC n) (U:=FX m) (f:=FR.of) h (by simp) fun x hx v G hv=>FX.up (QC.toFX hv (QC.one hv)) hm
instance NR.lfx {m : Nat} {l : List FR} : NR (LFX m l) (LFR l):=⟨LFX.lfr⟩
instance NR.lfxs {m : Nat} {l : List (List FR)} : NR (LS none (l.map (LFX m))) (LS none (l.map LFR)):=⟨fun h=>LS.convM (T:=LFX m) (U:=LFR) (f:=fun r=>r) h (by simp) fun x hx v G hv=>LFX.lfr hv⟩
theorem prm {k l l2 m : Nat} {T : List (List Rat)} {X Y : List Rat} (h1 : k ≤ m) (h2 : l ≤ m) (h3 : l2 ≤ m) {v : Value} {G : Gh} (h : (PTS [(some 1,TWR k T),(none,NM l X),(none,NM l2 Y)]).t v G) : (PTS [(some 1,PTS [(none,LS none ((T.map (List.map FR.of)).map (LFX m)))]),(none,LFX m (X.map FR.of)),(none,LFX m (Y.map FR.of))]).t v G :=
  (@NR.pts _ _ (@NRL.cons _ _ _ _ _ (@NR.pts _ _ (@NRL.cons _ _ _ _ _ ⟨fun h=>LS.convM (T:=NM k) (U:=LFX m) (f:=List.map FR.of) h (by simp) fun x hx v G hv=>NM.lfx h1 hv⟩ NRL.nil)) (@NRL.cons _ _ _ _ _ ⟨NM.lfx h2⟩ (@NRL.cons _ _ _ _ _ ⟨NM.lfx h3⟩ NRL.nil)))).h h
instance (priority:=900) {xs : List (List FR)} {ys zs : List FR} {τ1 : MT} [j1 : NR τ1 (PTS [(some 1,PTS [(none,LS none (xs.map LFR))]),(none,LFR ys),(none,LFR zs)])] : Con Tryz.prog 38 [τ1] (xs.length * 24 ≤ 140737488351232) (BT ((xs ++ [ys,zs]).any (fun x=>!shortF x) || decide (xs.length > 10))):=.o1 fun hok h1 hp=>(inferInstance : Con Tryz.prog 38 [PTS [(some 1,PTS [(none,LS none (xs.map LFR))]),(none,LFR ys),(none,LFR zs)]] _ _).c1 hok (j1.h h1) hp
instance (priority:=900) {n k l l2 : Nat} {rg ra rb rc : FR} {T : List (List Rat)} {X Y : List Rat} {τ1 : MT} [j1 : NF τ1 (QUD n rg ra rb rc)] : Con Tryz.prog 40 [τ1,PTS [(some 1,TWR k T),(none,NM l X),(none,NM l2 Y)]] (2000 * n + (k + l + l2) + 300000 ≤ BIG) (MT.tup2 (BT (decide (prfC rg ra rb rc = 0) && prfE rg ra rb rc (T.map (List.map FR.of)) (X.map FR.of) (Y.map FR.of))) (.ex (errV 69 (chkF [rg,ra,rb,rc])))):=.o2 fun hok h1 h2 hp=>(inferInstance : Con Tryz.prog 40 [QUD n rg ra rb rc,PTS [(some 1,PTS [(none,LS none ((T.map (List.map FR.of)).map (LFX (k + l + l2))))]),(none,LFX (k + l + l2) (X.map FR.of)),(none,LFX (k + l + l2) (Y.map FR.of))]] _ _).c2 hok (j1.h h1) (prm (m:=k + l + l2) (by omega) (by omega) (by omega) h2) hp
instance gTV11_5_2 : GcT 5 2 false 2 [3,4,13,14,15,16,17,18,19,20,21,22,23]:=⟨⟩
instance gTV11_5_3 : GcT 5 3 false 4 [13,14,15,16,17,18,19,20,21,22,23]:=⟨⟩
instance gTV11_5_5 : GcT 5 5 false 25 [26,27,28,29,30,31,32,33,34,35]:=⟨⟩
instance gTV11_5_7 : GcT 5 7 false 2 [3,36,37,38,39]:=⟨⟩
instance gTV11_5_9 : GcT 5 9 false 9 [36,37,38,39,59,60]:=⟨⟩
instance gTV11_5_10 : GcT 5 10 false 2 [3,5,6,7,8,10,61,62,63,64,65,66,67,68,69,70,71,72,73]:=⟨⟩
instance gTV11_5_11 : GcT 5 11 false 3 [7,8,61,62,63,64,65,66,67,68,69,70,71,72,73]:=⟨⟩
instance gTV11_5_14 : GcT 5 14 false 10 [74,75,83,84,85,86,87,88]:=⟨⟩
theorem shortF_mem {l : List FR} (hs : shortF l = true) {x : FR} (hx : x ∈ l) : shortR x = true:=by
  unfold shortF at hs
  exact List.all_eq_true.1 (Bool.and_eq_true_iff.1 hs).1 x hx
theorem LFR.lfx {l : List FR} (hs : shortF l = true) {v : Value} {G : Gh} (h : (LFR l).t v G) : (LFX 64 l).t v G:=LS.convM (T:=RX) (U:=FX 64) (f:=fun r=>r) h (by simp) fun x hx v G hv=>RX.toFX hv (shortF_mem hs hx)
theorem any_all {xs : List (List FR)} {ys zs : List FR} {b : Bool} (h : (((xs ++ [ys,zs]).any fun x=>!shortF x) || b) = false) : (∀ x ∈ xs,shortF x = true) ∧ shortF ys = true ∧ shortF zs = true:=by
  rw [Bool.or_eq_false_iff,List.any_eq_false] at h
  refine ⟨fun x hx=>?_,?_,?_⟩
  · simpa using h.1 x (by simp [hx])
  · simpa using h.1 ys (by simp)
  · simpa using h.1 zs (by simp)
theorem prr {xs : List (List FR)} {ys zs : List FR} {b : Bool} (h : (((xs ++ [ys,zs]).any fun x=>!shortF x) || b) = false) {v : Value} {G : Gh} (hv : (PTS [(some 1,PTS [(none,LS none (xs.map LFR))]),(none,LFR ys),(none,LFR zs)]).t v G) : (PTS [(some 1,PTS [(none,LS none (xs.map (LFX 64)))]),(none,LFX 64 ys),(none,LFX 64 zs)]).t v G:=by
  obtain ⟨h1,h2,h3⟩:=any_all h
  exact (@NR.pts _ _ (@NRL.cons _ _ _ _ _ (@NR.pts _ _ (@NRL.cons _ _ _ _ _ ⟨fun h=>LS.convM (T:=LFR) (U:=LFX 64) (f:=fun r=>r) h (by simp) fun x hx v G hv=>LFR.lfx (h1 x hx) hv⟩ NRL.nil)) (@NRL.cons _ _ _ _ _ ⟨LFR.lfx h2⟩ (@NRL.cons _ _ _ _ _ ⟨LFR.lfx h3⟩ NRL.nil)))).h hv
end Go.Proofs.YtdbdnabpaadigaaGreat
set_option linter.unusedVariables false
set_option linter.unusedSimpArgs false
set_option maxHeartbeats 4000000
set_option maxRecDepth 100000
set_option synthInstance.maxSize 100000
set_option synthInstance.maxHeartbeats 400000
namespace Go.Proofs.YtdbdnabpaadigaaGreat
open Go.RowKit (Below)
attribute [local irreducible] Go.Code.wp Go.wpList Go.bodyPost
abbrev QVP (p : Nat × Rat) : MT:=QV p.1 p.2
instance AsT.qvp {n : Nat} {z : Rat} : AsT (QV n z) QVP (n,z):=⟨fun h=>h⟩
instance AsT.qvz : AsT (FX 1 default) QVP (1,0):=⟨fun h=>FX.toQV h⟩
class NP (τ : MT) (τ' : outParam MT) : Prop where
  h : ∀ {v : Value} {G : Gh},τ.t v G → τ'.t v G
instance NP.p {τ1 τ2 : MT} {n m : Nat} {x y : Rat} [h1 : NQ τ1 (QV n x)] [h2 : NQ τ2 (QV m y)] : NP (LSC (some 3) [τ1,τ2]) (LS (some 3) (([(n,x),(m,y)] : List (Nat × Rat)).map QVP)):=⟨fun h=>LS.els h.1 rfl fun i τ σ e1 e2 _ hv=>by
  match i,e1,e2 with
  | 0,e1,e2=>cases e1;cases e2;exact h1.h hv
  | 1,e1,e2=>cases e1;cases e2;exact h2.h hv⟩
instance Op1.ixLi {P : Program} {L : List (Nat × MT)} {B : List BX} {t : TypeId} {x y : Operand} {τs : List MT} {xs : List Nat} {j : Nat} {u v : List Nat} [s : SlE P t none] [h : Opd L x (LSC none τs) u] [l : AsTL τs NT xs] [h2 : Opd L y (NT j) v] : Op1 P L B (.indexAddr t x y) (j < xs.length) (PE none (NT (xs.getD j default))) (u ++ v):=⟨fun ho hok e hB hp=>by
  obtain ⟨e',h3,h4⟩:=s.h
  exact .ixM hok ho h3 h4 (l.ls (h.h e.l).1) (h2.h e.r) (i:=j) rfl hp⟩
instance {ps : List (Nat × Rat)} : Con Tryz.prog 173 [LS (some 3) (ps.map QVP)] (ps.length = 2 ∧ (ps.getD 0 default).1 + (ps.getD 1 default).1 + 1 ≤ BIG) (MT.tup2 (QC ((ps.getD 0 default).1 + (ps.getD 1 default).1 + 1) ((ps.getD 0 default).2 + (ps.getD 1 default).2)) (QC ((ps.getD 0 default).1 + (ps.getD 1 default).1) ((ps.getD 0 default).2 * (ps.getD 1 default).2))):=.o1 fun hok h1 hp=>by
  refine St.enter (N:=18) Tryz.func173 rfl rfl rfl hok (enter1 h1) fun a=>?_
  repeat' (first|((with_reducible refine gS_ ?_);first|((with_reducible refine gL_ ?_);first|refine W.run ?_ fun a w G=>?_|refine W.mv fun a w G=>?_|refine W.asg fun a w G=>?_|refine W.bx fun b a w G=>?_|(refine W.nn hK ?_;clear hK K)|refine W.nl ?_|refine W.al fun b a w G=>?_|refine W.st fun w=>?_|refine W.stp fun w=>?_|refine W.ste ?_ fun w=>?_)|((with_reducible refine gC_ ?_);first|refine W.reg fun K hK=>?_|refine W.reg1 ?_|refine W.sq fun K hK=>?_|refine W.ds ?_ (fun β a w G hu=>W.fin ?_ hu) mixedOrders (by kernel_rfl)|refine W.sk ?_|refine W.cd (fun hc=>?_) (fun hc=>?_)|refine W.cb (fun hc=>?_) (fun hc=>?_)|refine W.bl ?_|refine W.ex ?_|refine W.rt ?_)|((with_reducible refine W.kn hK ?_);clear hK K)|(with_reducible first|refine W.bn ?_|refine W.xt ?_|refine W.xb ?_|refine W.xo ?_|refine W.tr ?_|refine W.br ?_)|refine W.rt1 rfl ?_|refine W.rt2 rfl ?_ ?_|refine W.rt3 rfl ?_ ?_ ?_)|clear hK K|clear hu|exact True.intro|exact Nat.le_trans (by clear hp;omega) hp|exact Nat.le_trans (by clear hp;omega) hp.1|exact Nat.le_trans (by clear hp;omega) hp.2|(clear hp;omega)|apply And.intro|refine GI.i fun _=>?_|with_reducible rfl|decide|(simp only [List.length_cons,List.length_nil];omega))
  all_goals first | omega | rfl | skip
theorem w175 {n m k : Nat} {x d f : Rat} : Con Tryz.prog 175 [QV n x,QV m d,QV k f] (8 * n + 8 * m + 8 * k + 1000 ≤ BIG) (IT (rootsF x d f)):=.o3 fun hok h1 h2 h3 hp=>by
  refine St.enter (N:=36) Tryz.func175 rfl rfl rfl hok (enter3 h1 h2 h3) fun a=>?_
  repeat' (first|((with_reducible refine gS_ ?_);first|((with_reducible refine gL_ ?_);first|refine W.run ?_ fun a w G=>?_|refine W.mv fun a w G=>?_|refine W.asg fun a w G=>?_|refine W.bx fun b a w G=>?_|(refine W.nn hK ?_;clear hK K)|refine W.nl ?_|refine W.al fun b a w G=>?_|refine W.st fun w=>?_|refine W.stp fun w=>?_|refine W.ste ?_ fun w=>?_)|((with_reducible refine gC_ ?_);first|refine W.reg fun K hK=>?_|refine W.reg1 ?_|refine W.sq fun K hK=>?_|refine W.ds ?_ (fun β a w G hu=>W.fin ?_ hu) mixedOrders (by kernel_rfl)|refine W.sk ?_|refine W.cd (fun hc=>?_) (fun hc=>?_)|refine W.cb (fun hc=>?_) (fun hc=>?_)|refine W.bl ?_|refine W.ex ?_|refine W.rt ?_)|((with_reducible refine W.kn hK ?_);clear hK K)|(with_reducible first|refine W.bn ?_|refine W.xt ?_|refine W.xb ?_|refine W.xo ?_|refine W.tr ?_|refine W.br ?_)|refine W.rt1 rfl ?_|refine W.rt2 rfl ?_ ?_|refine W.rt3 rfl ?_ ?_ ?_)|clear hK K|clear hu|exact True.intro|exact Nat.le_trans (by clear hp;omega) hp|exact Nat.le_trans (by clear hp;omega) hp.1|exact Nat.le_trans (by clear hp;omega) hp.2|(clear hp;omega)|apply And.intro|refine GI.i fun _=>?_|with_reducible rfl|decide|(simp only [List.length_cons,List.length_nil];omega))
  all_goals first
    | omega
    | (unfold rootsF;rw [if_pos (by assumption)])
    | (unfold rootsF;rw [if_neg (by assumption)])
    | skip
instance {n m k : Nat} {x d f : Rat} {τ1 : MT} [j1 : NQ τ1 (QV n x)] {τ2 : MT} [j2 : NQ τ2 (QV m d)] {τ3 : MT} [j3 : NQ τ3 (QV k f)] : Con Tryz.prog 175 [τ1,τ2,τ3] (8 * n + 8 * m + 8 * k + 1000 ≤ BIG) (IT (rootsF x d f)):=.o3 fun hok h1 h2 h3 hp=>w175.c3 hok (j1.h h1) (j2.h h2) (j3.h h3) hp
instance {n1 n2 : Nat} {p q : Rat} : Con Tryz.prog 174 [LS (some 3) (([(n1,p),(n2,q)] : List (Nat × Rat)).map QVP)] (True) (LS (some 3) (([(n1,p),(n2,q)] : List (Nat × Rat)).map QVP)):=.o1 fun hok h1 hp=>by
  refine St.enter (N:=11) Tryz.func174 rfl rfl rfl hok (enter1 h1) fun a=>?_
  have own6 : OwnAt 6:=⟨⟩
  repeat' (first|((with_reducible refine gS_ ?_);first|((with_reducible refine gL_ ?_);first|refine W.run ?_ fun a w G=>?_|refine W.mv fun a w G=>?_|refine W.asg fun a w G=>?_|refine W.bx fun b a w G=>?_|(refine W.nn hK ?_;clear hK K)|refine W.nl ?_|refine W.al fun b a w G=>?_|refine W.st fun w=>?_|refine W.stp fun w=>?_|refine W.ste ?_ fun w=>?_)|((with_reducible refine gC_ ?_);first|refine W.reg fun K hK=>?_|refine W.reg1 ?_|refine W.sq fun K hK=>?_|refine W.ds ?_ (fun β a w G hu=>W.fin ?_ hu) mixedOrders (by kernel_rfl)|refine W.sk ?_|refine W.cd (fun hc=>?_) (fun hc=>?_)|refine W.cb (fun hc=>?_) (fun hc=>?_)|refine W.bl ?_|refine W.ex ?_|refine W.rt ?_)|((with_reducible refine W.kn hK ?_);clear hK K)|(with_reducible first|refine W.bn ?_|refine W.xt ?_|refine W.xb ?_|refine W.xo ?_|refine W.tr ?_|refine W.br ?_)|refine W.rt1 rfl ?_|refine W.rt2 rfl ?_ ?_|refine W.rt3 rfl ?_ ?_ ?_)|refine W.bso QVP ?_ fun b a w G=>?_|refine W.cp ?_ fun a w G=>?_|refine W.fz 2 ?_ fun G=>?_|clear hK K|clear hu|exact True.intro|exact Nat.le_trans (by clear hp;omega) hp|exact Nat.le_trans (by clear hp;omega) hp.1|exact Nat.le_trans (by clear hp;omega) hp.2|(clear hp;omega)|apply And.intro|refine GI.i fun _=>?_|with_reducible rfl|decide|(simp only [List.length_cons,List.length_nil];omega))
  all_goals first | omega | rfl | skip
theorem w120 {n1 n2 n3 n4 : Nat} {p q r s : Rat} : Con Tryz.prog 120 [LS (some 3) (([(n1,p),(n2,q)] : List (Nat × Rat)).map QVP),LS (some 3) (([(n3,r),(n4,s)] : List (Nat × Rat)).map QVP)] (50 * (n1 + n2 + n3 + n4) + 2000 ≤ BIG) (IT (compareF [p,q] [r,s])):=.o2 fun hok h1 h2 hp=>by
  refine St.enter (N:=27) Tryz.func120 rfl rfl rfl hok (enter2 h1 h2) fun a=>?_
  repeat' (first|((with_reducible refine gS_ ?_);first|((with_reducible refine gL_ ?_);first|refine W.run ?_ fun a w G=>?_|refine W.mv fun a w G=>?_|refine W.asg fun a w G=>?_|refine W.bx fun b a w G=>?_|(refine W.nn hK ?_;clear hK K)|refine W.nl ?_|refine W.al fun b a w G=>?_|refine W.st fun w=>?_|refine W.stp fun w=>?_|refine W.ste ?_ fun w=>?_)|((with_reducible refine gC_ ?_);first|refine W.reg fun K hK=>?_|refine W.reg1 ?_|refine W.sq fun K hK=>?_|refine W.ds ?_ (fun β a w G hu=>W.fin ?_ hu) mixedOrders (by kernel_rfl)|refine W.sk ?_|refine W.cd (fun hc=>?_) (fun hc=>?_)|refine W.cb (fun hc=>?_) (fun hc=>?_)|refine W.bl ?_|refine W.ex ?_|refine W.rt ?_)|((with_reducible refine W.kn hK ?_);clear hK K)|(with_reducible first|refine W.bn ?_|refine W.xt ?_|refine W.xb ?_|refine W.xo ?_|refine W.tr ?_|refine W.br ?_)|refine W.rt1 rfl ?_|refine W.rt2 rfl ?_ ?_|refine W.rt3 rfl ?_ ?_ ?_)|clear hK K|clear hu|exact True.intro|exact Nat.le_trans (by clear hp;omega) hp|exact Nat.le_trans (by clear hp;omega) hp.1|exact Nat.le_trans (by clear hp;omega) hp.2|(clear hp;omega)|apply And.intro|refine GI.i fun _=>?_|with_reducible rfl|decide|(simp only [List.length_cons,List.length_nil];omega))
  all_goals first | omega | (simp only [List.getD_cons_zero,List.getD_cons_succ];omega) | rfl | skip
instance {n1 n2 n3 n4 : Nat} {p q r s : Rat} {τ1 : MT} [j1 : NP τ1 (LS (some 3) (([(n1,p),(n2,q)] : List (Nat × Rat)).map QVP))] {τ2 : MT} [j2 : NP τ2 (LS (some 3) (([(n3,r),(n4,s)] : List (Nat × Rat)).map QVP))] : Con Tryz.prog 120 [τ1,τ2] (50 * (n1 + n2 + n3 + n4) + 2000 ≤ BIG) (IT (compareF [p,q] [r,s])):=.o2 fun hok h1 h2 hp=>w120.c2 hok (j1.h h1) (j2.h h2) hp
instance Op1.remI {P : Program} {L : List (Nat × MT)} {B : List BX} {t t' : TypeId} {x y : Operand} {z : Int} {m : Nat} {z' : Int} {u v : List Nat} [h : Opd L x (IT z) u] [h2 : Opd L y (IT z') v] [l' : LitN z' m] : Op1 P L B (.binOp .rem t x y t') (m ≠ 0 ∧ 0 ≤ z) (NT (z.toNat % m)) (u ++ v):=⟨fun ho hok e hB hp=>by
  have h3:=h.h e.l
  have h4:=h2.h e.r
  obtain ⟨k,rfl⟩:=Int.eq_ofNat_of_zero_le hp.2
  have l3:=l'.h
  subst l3
  exact OpR.nrem hok ho h3 h4 hp.1 rfl⟩
theorem rotI {l : List FR} {k : Int} (h0 : 0 ≤ k) : (k + 3).toNat = k.toNat + 3 ∧ (k + 1).toNat = k.toNat + 1 ∧ (k + 2).toNat = k.toNat + 2:=by omega
theorem rot_fin {l : List FR} {k : Int} (h : ¬ chkF l ≠ 0) (hk : ¬ (decide (k < 0) || decide (k > 3)) = true) : (decide (compareF [(l.getD k.toNat default).val,(l.getD ((k + 3).toNat % 4) default).val] [(l.getD ((k + 1).toNat % 4) default).val,(l.getD ((k + 2).toNat % 4) default).val] ≤ 0) &&
  decide (compareF [maxQ (l.getD k.toNat default).val (l.getD ((k + 3).toNat % 4) default).val,minQ (l.getD ((k + 1).toNat % 4) default).val (l.getD ((k + 2).toNat % 4) default).val] [minQ (l.getD k.toNat default).val (l.getD ((k + 3).toNat % 4) default).val,maxQ (l.getD ((k + 1).toNat % 4) default).val (l.getD ((k + 2).toNat % 4) default).val] ≥ 0)) = rotF l k ∧ (0 : Int) = rotCode l k:=by
  simp only [Bool.or_eq_true,decide_eq_true_eq,not_or] at hk
  obtain ⟨e1,e2,e3⟩:=rotI (l:=l) (k:=k) (by omega)
  rw [rotF_ok h (by omega),rotC_ok h (by omega),e1,e2,e3]
  exact ⟨rfl,rfl⟩
theorem w53 {n : Nat} {rg ra rb rc : FR} {k : Int} : Con Tryz.prog 53 [QUD n rg ra rb rc,IT k] (1000 * n + 3000 ≤ BIG ∧ I64 k) (MT.tup2 (BT (rotF [rg,ra,rb,rc] k)) (.ex (errV 69 (rotCode [rg,ra,rb,rc] k)))):=.o2 fun hok h1 h2 hp=>by
  refine St.enter (N:=82) Tryz.func53 rfl rfl rfl hok (enter2 h1 h2) fun a=>?_
  have hn1:=qud_pos h1
  repeat' (first|((with_reducible refine gS_ ?_);first|((with_reducible refine gL_ ?_);first|refine W.run ?_ fun a w G=>?_|refine W.mv fun a w G=>?_|refine W.asg fun a w G=>?_|refine W.bx fun b a w G=>?_|(refine W.nn hK ?_;clear hK K)|refine W.nl ?_|refine W.al fun b a w G=>?_|refine W.st fun w=>?_|refine W.stp fun w=>?_|refine W.ste ?_ fun w=>?_)|((with_reducible refine gC_ ?_);first|refine W.reg fun K hK=>?_|refine W.reg1 ?_|refine W.sq fun K hK=>?_|refine W.ds ?_ (fun β a w G hu=>W.fin ?_ hu) mixedOrders (by kernel_rfl)|refine W.sk ?_|refine W.cd (fun hc=>?_) (fun hc=>?_)|refine W.cb (fun hc=>?_) (fun hc=>?_)|refine W.bl ?_|refine W.ex ?_|refine W.rt ?_)|((with_reducible refine W.kn hK ?_);clear hK K)|(with_reducible first|refine W.bn ?_|refine W.xt ?_|refine W.xb ?_|refine W.xo ?_|refine W.tr ?_|refine W.br ?_)|refine W.rt1 rfl ?_|refine W.rt2 rfl ?_ ?_|refine W.rt3 rfl ?_ ?_ ?_)|clear hK K|clear hu|exact True.intro|exact Nat.le_trans (by clear hp;omega) hp|exact Nat.le_trans (by clear hp;omega) hp.1|exact Nat.le_trans (by clear hp;omega) hp.2|(clear hp;omega)|apply And.intro|refine GI.i fun _=>?_|with_reducible rfl|decide|(simp only [List.length_cons,List.length_nil];omega))
  all_goals (try simp only [List.length_cons,List.length_nil] at *)
  all_goals (try have hk3 : ¬ (decide (k < 0) || decide (k > 3)) = true:=by (first | assumption | (rw [Bool.not_eq_true];assumption)))
  all_goals first
    | omega
    | exact rotF_0 (by assumption)
    | exact rotC_0 (by assumption)
    | exact rotF_9 (by assumption) (by simp only [Bool.or_eq_true,decide_eq_true_eq] at hc;omega)
    | exact (rotC_9 (by assumption) (by simp only [Bool.or_eq_true,decide_eq_true_eq] at hc;omega)).symm
    | (simp only [Bool.or_eq_true,decide_eq_true_eq,not_or] at hk3;first | omega | (unfold I64;omega))
    | exact (rot_fin (by assumption) hk3).1
    | exact (rot_fin (by assumption) hk3).2
    | exact (rot_fin (by assumption) hk3).2.symm
    | skip
instance {n : Nat} {rg ra rb rc : FR} {k : Int} {τ1 : MT} [j1 : NF τ1 (QUD n rg ra rb rc)] : Con Tryz.prog 53 [τ1,IT k] (1000 * n + 3000 ≤ BIG ∧ I64 k) (MT.tup2 (BT (rotF [rg,ra,rb,rc] k)) (.ex (errV 69 (rotCode [rg,ra,rb,rc] k)))):=.o2 fun hok h1 h2 hp=>w53.c2 hok (j1.h h1) h2 hp
end Go.Proofs.YtdbdnabpaadigaaGreat
