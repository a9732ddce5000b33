import Derived.Test.YtdbdnabpaadigaaGreatQj
set_option linter.unusedVariables false
set_option linter.unusedSimpArgs false
set_option linter.unusedVariables false
set_option linter.unusedSimpArgs false
set_option maxHeartbeats 4000000
set_option maxRecDepth 100000
set_option synthInstance.maxSize 100000
set_option synthInstance.maxHeartbeats 400000
namespace Go.Proofs.YtdbdnabpaadigaaGreat
open Go.RowKit (Below)
attribute [local irreducible] Go.Code.wp Go.wpList Go.bodyPost
private theorem gS_ {W0 : World} {G0 : Gh} {N : Nat} {L : List (Nat × MT)} {B : List BX} {a : Act} {w : World} {G : Gh} {q : Prop} (h : St W0 G0 N L B a w G → q) : St W0 G0 N L B a w G → q:=h
private theorem gL_ {p : Prop} {P : Program} {arr : Array Oper} {Q : Exit → Act → World → Prop} {l : List Oper} {a : Act} {w : World} (h : p → wpList P arr Q l a w) : p → wpList P arr Q l a w:=h
private theorem gC_ {p : Prop} {P : Program} {c : Code} {Q : Exit → Act → World → Prop} {a : Act} {w : World} (h : p → c.wp P Q a w) : p → c.wp P Q a w:=h
private theorem mixedOrders : Tryz.prog.follows .mixedOrders = true:=by kernel_rfl
attribute [local irreducible] plusF minusF joinF levI lev PW RLN tB sB timesF stepF tmF normF TOK sgL surdsF chkF gapC fullF nearF farF limL limJ shortF
instance ShN.k1 {fs : List (Option Nat × MT)} {n : Nat} {τ : MT} [h : ShN fs n] : ShN ((some 1,τ) :: fs) (n + 1):=⟨by rw [offs_cons,h.h];simp;omega⟩
instance (priority:=500) PrtL.k1 {τ' : MT} {fs : List (Option Nat × MT)} {i : Nat} {kt : Option Nat} {τ : MT} [h : PrtL fs i kt τ] : PrtL ((some 1,τ') :: fs) (i + 1) kt τ:=h.skip rfl
instance (priority:=500) UpdL.k1 {τ' : MT} {fs fs' : List (Option Nat × MT)} {i : Nat} {kt : Option Nat} {τ : MT} [h : UpdL fs i kt τ fs'] : UpdL ((some 1,τ') :: fs) (i + 1) kt τ ((some 1,τ') :: fs'):=h.skip rfl
abbrev LFX (m : Nat) (l : List FR) : MT:=LS (some 3) (l.map (FX m))
theorem fr_is {r : FR} {y : Rat} (hw : wfl r.p ∧ wfl r.q) : (r.ok && (FR.of y).ok && decide (cmpQ r.val y = 0)) = decide (r = FR.of y):=by
  rw [Bool.eq_iff_iff,decide_eq_true_eq]
  constructor
  · intro h
    rw [Bool.and_eq_true,Bool.and_eq_true] at h
    have h2:=cmpQ_eq0.1 (of_decide_eq_true h.2)
    rw [← h2,fr_self hw h.1.1]
  · intro h;subst h
    rw [FR.of_ok,FR.of_val,decide_eq_true (cmpQ_eq0.2 rfl)];rfl
theorem prf_n {x : Rat} : [x,-2,2,0] = [x,-(2 * 1),2,0]:=by rw [show (-(2 * 1) : Rat) = -2 by decide +kernel]
theorem prf_f {x y : Rat} : [-(x - y),-2,2,0] = [y - x,2 * -1,2,0]:=by rw [show (2 * -1 : Rat) = -2 by decide +kernel,show -(x - y) = y - x by grind]
theorem getD_of {l : List Rat} {j : Nat} (h : j < l.length) : (l.map FR.of).getD j default = FR.of (l.getD j default):=by
  rw [List.getD_eq_getElem?_getD,List.getD_eq_getElem?_getD,List.getElem?_map,List.getElem?_eq_getElem h];rfl
theorem getD_ofs {l : List (List Rat)} {j : Nat} (h : j < l.length) : (l.map (List.map FR.of)).getD j default = (l.getD j default).map FR.of:=by
  rw [List.getD_eq_getElem?_getD,List.getD_eq_getElem?_getD,List.getElem?_map,List.getElem?_eq_getElem h];rfl
instance {m n : Nat} {r : FR} {y : Rat} : Con Tryz.prog 164 [FX m r,QC n y] (m + n ≤ BIG) (BT (decide (r = FR.of y))):=.o2 fun hok h1 h2 hp=>by
  refine St.enter (N:=17) Tryz.func164 rfl rfl rfl hok (enter2 h1 h2) fun a=>?_
  repeat' (first|((with_reducible refine gS_ ?_);first|((with_reducible refine gL_ ?_);first|refine W.run ?_ fun a w G=>?_|refine W.mv fun a w G=>?_|refine W.asg fun a w G=>?_|refine W.bx fun b a w G=>?_|(refine W.nn hK ?_;clear hK K)|refine W.nl ?_|refine W.al fun b a w G=>?_|refine W.st fun w=>?_|refine W.stp fun w=>?_|refine W.ste ?_ fun w=>?_)|((with_reducible refine gC_ ?_);first|refine W.reg fun K hK=>?_|refine W.reg1 ?_|refine W.sq fun K hK=>?_|refine W.ds ?_ (fun β a w G hu=>W.fin ?_ hu) mixedOrders (by kernel_rfl)|refine W.sk ?_|refine W.cd (fun hc=>?_) (fun hc=>?_)|refine W.cb (fun hc=>?_) (fun hc=>?_)|refine W.bl ?_|refine W.ex ?_|refine W.rt ?_)|((with_reducible refine W.kn hK ?_);clear hK K)|(with_reducible first|refine W.bn ?_|refine W.xt ?_|refine W.xb ?_|refine W.xo ?_|refine W.tr ?_|refine W.br ?_)|refine W.rt1 rfl ?_|refine W.rt2 rfl ?_ ?_|refine W.rt3 rfl ?_ ?_ ?_)|clear hK K|clear hu|exact True.intro|exact Nat.le_trans (by clear hp;omega) hp|exact Nat.le_trans (by clear hp;omega) hp.1|exact Nat.le_trans (by clear hp;omega) hp.2|(clear hp;omega)|apply And.intro|refine GI.i fun _=>?_|with_reducible rfl|decide|(simp only [List.length_cons,List.length_nil];omega))
  all_goals first
    | omega
    | exact fr_is (QR.wf (FX.qr h1))
    | skip
instance : Cb Tryz.prog 164:=⟨by kernel_rfl⟩
instance {m n : Nat} {xs : List FR} {ys : List Rat} : Con Tryz.prog 163 [LFX m xs,NM n ys,FV 164] (m + n ≤ BIG) (BT (decide (xs = ys.map FR.of))):=.o3 fun hok h1 h2 h3 hp=>by
  refine St.enter (N:=32) Tryz.func163 rfl rfl rfl hok (enter3 h1 h2 h3) fun a=>?_
  have hlim:=LS.lenM h1
  have hlim2:=LS.lenM h2
  simp only [LIM] at hlim hlim2
  repeat' (first|((with_reducible refine gS_ ?_);first|((with_reducible refine gL_ ?_);first|refine W.run ?_ fun a w G=>?_|refine W.mv fun a w G=>?_|refine W.asg fun a w G=>?_|refine W.bx fun b a w G=>?_|(refine W.nn hK ?_;clear hK K)|refine W.nl ?_|refine W.al fun b a w G=>?_|refine W.st fun w=>?_|refine W.stp fun w=>?_|refine W.ste ?_ fun w=>?_)|((with_reducible refine gC_ ?_);first|refine W.reg fun K hK=>?_|refine W.reg1 ?_|refine W.sq fun K hK=>?_|refine W.ds ?_ (fun β a w G hu=>W.fin ?_ hu) mixedOrders (by kernel_rfl)|refine W.sk ?_|refine W.cd (fun hc=>?_) (fun hc=>?_)|refine W.cb (fun hc=>?_) (fun hc=>?_)|refine W.bl ?_|refine W.ex ?_|refine W.rt ?_)|((with_reducible refine W.kn hK ?_);clear hK K)|(with_reducible first|refine W.bn ?_|refine W.xt ?_|refine W.xb ?_|refine W.xo ?_|refine W.tr ?_|refine W.br ?_)|refine W.rt1 rfl ?_|refine W.rt2 rfl ?_ ?_|refine W.rt3 rfl ?_ ?_ ?_)|refine W.lp 18 (α:=Nat) (fun j=>xs.length - j) (fun j=>j ≤ xs.length ∧ xs.take j = (ys.map FR.of).take j) [6,7,8,9,17,18,19,20,21,22,23,24,25,26,27,28,29,30,31] (fun j=>[(17,NT j)]) (fun j=>[]) (0) ?_ ?_ ?_ fun j hj a w G=>?_|refine W.ag (x:=j) (j+1) ?_ ?_ ?_ ?_|clear hK K|clear hu|exact True.intro|exact Nat.le_trans (by clear hp;omega) hp|exact Nat.le_trans (by clear hp;omega) hp.1|exact Nat.le_trans (by clear hp;omega) hp.2|(clear hp;omega)|apply And.intro|refine GI.i fun _=>?_|with_reducible rfl|decide|(simp only [List.length_cons,List.length_nil];omega))
  all_goals first
    | omega
    | exact eq_ln (by simpa using hc)
    | (simp;done)
    | (have hle : xs.length = (ys.map FR.of).length := by (have h0 : ¬ ((xs.length : Nat) : Int) ≠ ((ys.length : Nat) : Int) := by assumption); rw [List.length_map]; omega
       have hle2 : xs.length = ys.length:=by rw [List.length_map] at hle;exact hle
       first
       | omega
       | exact eq_en (by omega) hle hj.2
       | (rw [← getD_of (by omega)] at hc
          first
          | (refine eq_at (j:=j) (by omega) hle ?_;simpa using hc)
          | exact eq_nx (by omega) hle hj.2 (by simpa using hc)))
    | skip
instance {m n : Nat} {xs : List FR} {ys : List Rat} : Con Tryz.prog 104 [LFX m xs,NM n ys] (m + n ≤ BIG) (BT (decide (xs = ys.map FR.of))):=.o2 fun hok h1 h2 hp=>by
  refine St.enter (N:=8) Tryz.func104 rfl rfl rfl hok (enter2 h1 h2) fun a=>?_
  repeat' (first|((with_reducible refine gS_ ?_);first|((with_reducible refine gL_ ?_);first|refine W.run ?_ fun a w G=>?_|refine W.mv fun a w G=>?_|refine W.asg fun a w G=>?_|refine W.bx fun b a w G=>?_|(refine W.nn hK ?_;clear hK K)|refine W.nl ?_|refine W.al fun b a w G=>?_|refine W.st fun w=>?_|refine W.stp fun w=>?_|refine W.ste ?_ fun w=>?_)|((with_reducible refine gC_ ?_);first|refine W.reg fun K hK=>?_|refine W.reg1 ?_|refine W.sq fun K hK=>?_|refine W.ds ?_ (fun β a w G hu=>W.fin ?_ hu) mixedOrders (by kernel_rfl)|refine W.sk ?_|refine W.cd (fun hc=>?_) (fun hc=>?_)|refine W.cb (fun hc=>?_) (fun hc=>?_)|refine W.bl ?_|refine W.ex ?_|refine W.rt ?_)|((with_reducible refine W.kn hK ?_);clear hK K)|(with_reducible first|refine W.bn ?_|refine W.xt ?_|refine W.xb ?_|refine W.xo ?_|refine W.tr ?_|refine W.br ?_)|refine W.rt1 rfl ?_|refine W.rt2 rfl ?_ ?_|refine W.rt3 rfl ?_ ?_ ?_)|clear hK K|clear hu|exact True.intro|exact Nat.le_trans (by clear hp;omega) hp|exact Nat.le_trans (by clear hp;omega) hp.1|exact Nat.le_trans (by clear hp;omega) hp.2|(clear hp;omega)|apply And.intro|refine GI.i fun _=>?_|with_reducible rfl|decide|(simp only [List.length_cons,List.length_nil];omega))
instance {m n : Nat} {xs : List (List FR)} {ys : List (List Rat)} : Con Tryz.prog 103 [LS none (xs.map (LFX m)),LS none (ys.map (NM n)),FV 104] (m + n ≤ BIG) (BT (decide (xs = ys.map (List.map FR.of)))):=.o3 fun hok h1 h2 h3 hp=>by
  refine St.enter (N:=32) Tryz.func103 rfl rfl rfl hok (enter3 h1 h2 h3) fun a=>?_
  have hlim:=LS.lenM h1
  have hlim2:=LS.lenM h2
  simp only [LIM] at hlim hlim2
  repeat' (first|((with_reducible refine gS_ ?_);first|((with_reducible refine gL_ ?_);first|refine W.run ?_ fun a w G=>?_|refine W.mv fun a w G=>?_|refine W.asg fun a w G=>?_|refine W.bx fun b a w G=>?_|(refine W.nn hK ?_;clear hK K)|refine W.nl ?_|refine W.al fun b a w G=>?_|refine W.st fun w=>?_|refine W.stp fun w=>?_|refine W.ste ?_ fun w=>?_)|((with_reducible refine gC_ ?_);first|refine W.reg fun K hK=>?_|refine W.reg1 ?_|refine W.sq fun K hK=>?_|refine W.ds ?_ (fun β a w G hu=>W.fin ?_ hu) mixedOrders (by kernel_rfl)|refine W.sk ?_|refine W.cd (fun hc=>?_) (fun hc=>?_)|refine W.cb (fun hc=>?_) (fun hc=>?_)|refine W.bl ?_|refine W.ex ?_|refine W.rt ?_)|((with_reducible refine W.kn hK ?_);clear hK K)|(with_reducible first|refine W.bn ?_|refine W.xt ?_|refine W.xb ?_|refine W.xo ?_|refine W.tr ?_|refine W.br ?_)|refine W.rt1 rfl ?_|refine W.rt2 rfl ?_ ?_|refine W.rt3 rfl ?_ ?_ ?_)|refine W.lp 18 (α:=Nat) (fun j=>xs.length - j) (fun j=>j ≤ xs.length ∧ xs.take j = (ys.map (List.map FR.of)).take j) [6,7,8,9,17,18,19,20,21,22,23,24,25,26,27,28,29,30,31] (fun j=>[(17,NT j)]) (fun j=>[]) (0) ?_ ?_ ?_ fun j hj a w G=>?_|refine W.ag (x:=j) (j+1) ?_ ?_ ?_ ?_|clear hK K|clear hu|exact True.intro|exact Nat.le_trans (by clear hp;omega) hp|exact Nat.le_trans (by clear hp;omega) hp.1|exact Nat.le_trans (by clear hp;omega) hp.2|(clear hp;omega)|apply And.intro|refine GI.i fun _=>?_|with_reducible rfl|decide|(simp only [List.length_cons,List.length_nil];omega))
  all_goals first
    | omega
    | exact eq_ln (by simpa using hc)
    | (simp;done)
    | (have hle : xs.length = (ys.map (List.map FR.of)).length := by (have h0 : ¬ ((xs.length : Nat) : Int) ≠ ((ys.length : Nat) : Int) := by assumption); rw [List.length_map]; omega
       have hle2 : xs.length = ys.length:=by rw [List.length_map] at hle;exact hle
       first
       | omega
       | exact eq_en (by omega) hle hj.2
       | (rw [← getD_ofs (by omega)] at hc
          first
          | (refine eq_at (j:=j) (by omega) hle ?_;simpa using hc)
          | exact eq_nx (by omega) hle hj.2 (by simpa using hc)))
    | skip
theorem w102 {n : Nat} {rg ra rb rc : FR} : Con Tryz.prog 102 [QUD n rg ra rb rc] (2000 * n + 300000 ≤ BIG) (PTS [(some 1,TWR (n + n) [[ra.val * rg.val],[rb.val * rc.val,0]]),(none,NM (4 * n + 134) [rg.val + ra.val - (rb.val + rc.val),-(2 * 1),2,0]),(none,NM (4 * n + 134) [rb.val + rc.val - (rg.val + ra.val),2 * (-1),2,0])]):=.o1 fun hok h1 hp=>by
  refine St.enter (N:=12) Tryz.func102 rfl rfl rfl hok (enter1 h1) fun a=>?_
  have hn1:=qud_pos h1
  repeat' (first|((with_reducible refine gS_ ?_);first|((with_reducible refine gL_ ?_);first|refine W.run ?_ fun a w G=>?_|refine W.mv fun a w G=>?_|refine W.asg fun a w G=>?_|refine W.bx fun b a w G=>?_|(refine W.nn hK ?_;clear hK K)|refine W.nl ?_|refine W.al fun b a w G=>?_|refine W.st fun w=>?_|refine W.stp fun w=>?_|refine W.ste ?_ fun w=>?_)|((with_reducible refine gC_ ?_);first|refine W.reg fun K hK=>?_|refine W.reg1 ?_|refine W.sq fun K hK=>?_|refine W.ds ?_ (fun β a w G hu=>W.fin ?_ hu) mixedOrders (by kernel_rfl)|refine W.sk ?_|refine W.cd (fun hc=>?_) (fun hc=>?_)|refine W.cb (fun hc=>?_) (fun hc=>?_)|refine W.bl ?_|refine W.ex ?_|refine W.rt ?_)|((with_reducible refine W.kn hK ?_);clear hK K)|(with_reducible first|refine W.bn ?_|refine W.xt ?_|refine W.xb ?_|refine W.xo ?_|refine W.tr ?_|refine W.br ?_)|refine W.rt1 rfl ?_|refine W.rt2 rfl ?_ ?_|refine W.rt3 rfl ?_ ?_ ?_)|clear hK K|clear hu|exact True.intro|exact Nat.le_trans (by clear hp;omega) hp|exact Nat.le_trans (by clear hp;omega) hp.1|exact Nat.le_trans (by clear hp;omega) hp.2|(clear hp;omega)|apply And.intro|refine GI.i fun _=>?_|with_reducible rfl|decide|(simp only [List.length_cons,List.length_nil];omega))
  all_goals first | omega | skip
instance {n : Nat} {rg ra rb rc : FR} {τ1 : MT} [j1 : NF τ1 (QUD n rg ra rb rc)] : Con Tryz.prog 102 [τ1] (2000 * n + 300000 ≤ BIG) (PTS [(some 1,TWR (n + n) [[ra.val * rg.val],[rb.val * rc.val,0]]),(none,NM (4 * n + 134) [rg.val + ra.val - (rb.val + rc.val),-(2 * 1),2,0]),(none,NM (4 * n + 134) [rb.val + rc.val - (rg.val + ra.val),2 * (-1),2,0])]):=.o1 fun hok h1 hp=>w102.c1 hok (j1.h h1) hp
theorem w105 {n : Nat} {rg ra rb rc : FR} : Con Tryz.prog 105 [QUD n rg ra rb rc] (100 * n + 1000 ≤ BIG) (TWR (n + n) [[ra.val * rg.val],[rb.val * rc.val,0]]):=.o1 fun hok h1 hp=>by
  refine St.enter (N:=19) Tryz.func105 rfl rfl rfl hok (enter1 h1) fun a=>?_
  have hn1:=qud_pos h1
  repeat' (first|((with_reducible refine gS_ ?_);first|((with_reducible refine gL_ ?_);first|refine W.run ?_ fun a w G=>?_|refine W.mv fun a w G=>?_|refine W.asg fun a w G=>?_|refine W.bx fun b a w G=>?_|(refine W.nn hK ?_;clear hK K)|refine W.nl ?_|refine W.al fun b a w G=>?_|refine W.st fun w=>?_|refine W.stp fun w=>?_|refine W.ste ?_ fun w=>?_)|((with_reducible refine gC_ ?_);first|refine W.reg fun K hK=>?_|refine W.reg1 ?_|refine W.sq fun K hK=>?_|refine W.ds ?_ (fun β a w G hu=>W.fin ?_ hu) mixedOrders (by kernel_rfl)|refine W.sk ?_|refine W.cd (fun hc=>?_) (fun hc=>?_)|refine W.cb (fun hc=>?_) (fun hc=>?_)|refine W.bl ?_|refine W.ex ?_|refine W.rt ?_)|((with_reducible refine W.kn hK ?_);clear hK K)|(with_reducible first|refine W.bn ?_|refine W.xt ?_|refine W.xb ?_|refine W.xo ?_|refine W.tr ?_|refine W.br ?_)|refine W.rt1 rfl ?_|refine W.rt2 rfl ?_ ?_|refine W.rt3 rfl ?_ ?_ ?_)|clear hK K|clear hu|exact True.intro|exact Nat.le_trans (by clear hp;omega) hp|exact Nat.le_trans (by clear hp;omega) hp.1|exact Nat.le_trans (by clear hp;omega) hp.2|(clear hp;omega)|apply And.intro|refine GI.i fun _=>?_|with_reducible rfl|decide|(simp only [List.length_cons,List.length_nil];omega))
  all_goals first | omega | skip
instance {n : Nat} {rg ra rb rc : FR} {τ1 : MT} [j1 : NF τ1 (QUD n rg ra rb rc)] : Con Tryz.prog 105 [τ1] (100 * n + 1000 ≤ BIG) (TWR (n + n) [[ra.val * rg.val],[rb.val * rc.val,0]]):=.o1 fun hok h1 hp=>w105.c1 hok (j1.h h1) hp
theorem w42 {n : Nat} {rg ra rb rc : FR} : Con Tryz.prog 42 [QUD n rg ra rb rc] (2000 * n + 300000 ≤ BIG) (PTS [(some 1,TWR (n + n) [[ra.val * rg.val],[rb.val * rc.val,0]]),(none,NM (4 * n + 134) [rg.val + ra.val - (rb.val + rc.val),-(2 * 1),2,0]),(none,NM (4 * n + 134) [rb.val + rc.val - (rg.val + ra.val),2 * (-1),2,0])]):=.o1 fun hok h1 hp=>by
  refine St.enter (N:=30) Tryz.func42 rfl rfl rfl hok (enter1 h1) fun a=>?_
  have hn1:=qud_pos h1
  repeat' (first|((with_reducible refine gS_ ?_);first|((with_reducible refine gL_ ?_);first|refine W.run ?_ fun a w G=>?_|refine W.mv fun a w G=>?_|refine W.asg fun a w G=>?_|refine W.bx fun b a w G=>?_|(refine W.nn hK ?_;clear hK K)|refine W.nl ?_|refine W.al fun b a w G=>?_|refine W.st fun w=>?_|refine W.stp fun w=>?_|refine W.ste ?_ fun w=>?_)|((with_reducible refine gC_ ?_);first|refine W.reg fun K hK=>?_|refine W.reg1 ?_|refine W.sq fun K hK=>?_|refine W.ds ?_ (fun β a w G hu=>W.fin ?_ hu) mixedOrders (by kernel_rfl)|refine W.sk ?_|refine W.cd (fun hc=>?_) (fun hc=>?_)|refine W.cb (fun hc=>?_) (fun hc=>?_)|refine W.bl ?_|refine W.ex ?_|refine W.rt ?_)|((with_reducible refine W.kn hK ?_);clear hK K)|(with_reducible first|refine W.bn ?_|refine W.xt ?_|refine W.xb ?_|refine W.xo ?_|refine W.tr ?_|refine W.br ?_)|refine W.rt1 rfl ?_|refine W.rt2 rfl ?_ ?_|refine W.rt3 rfl ?_ ?_ ?_)|clear hK K|clear hu|exact True.intro|exact Nat.le_trans (by clear hp;omega) hp|exact Nat.le_trans (by clear hp;omega) hp.1|exact Nat.le_trans (by clear hp;omega) hp.2|(clear hp;omega)|apply And.intro|refine GI.i fun _=>?_|with_reducible rfl|decide|(simp only [List.length_cons,List.length_nil];omega))
  all_goals first | omega | exact prf_n | exact prf_f | skip
instance {n : Nat} {rg ra rb rc : FR} {τ1 : MT} [j1 : NF τ1 (QUD n rg ra rb rc)] : Con Tryz.prog 42 [τ1] (2000 * n + 300000 ≤ BIG) (PTS [(some 1,TWR (n + n) [[ra.val * rg.val],[rb.val * rc.val,0]]),(none,NM (4 * n + 134) [rg.val + ra.val - (rb.val + rc.val),-(2 * 1),2,0]),(none,NM (4 * n + 134) [rb.val + rc.val - (rg.val + ra.val),2 * (-1),2,0])]):=.o1 fun hok h1 hp=>w42.c1 hok (j1.h h1) hp
end Go.Proofs.YtdbdnabpaadigaaGreat
set_option linter.unusedVariables false
set_option linter.unusedSimpArgs false
set_option maxHeartbeats 4000000
set_option maxRecDepth 100000
set_option synthInstance.maxSize 100000
set_option synthInstance.maxHeartbeats 400000
namespace Go.Proofs.YtdbdnabpaadigaaGreat
open Go.RowKit (Below)
attribute [local irreducible] Go.Code.wp Go.wpList Go.bodyPost
attribute [local irreducible] plusF minusF joinF levI lev PW RLN tB sB timesF stepF tmF normF TOK sgL surdsF chkF gapC fullF nearF farF limL limJ shortF
def prfC (g a b c : FR) : Int:=if chkF [g,a,b,c] = 0 then (if fullF g a b c then 0 else 21) else chkF [g,a,b,c]
def prfT (rg ra rb rc : FR) : List (List Rat):=if prfC rg ra rb rc = 0 then [[ra.val * rg.val],[rb.val * rc.val,0]] else []
def prfN (rg ra rb rc : FR) : List Rat:=if prfC rg ra rb rc = 0 then [rg.val + ra.val - (rb.val + rc.val),-(2 * 1),2,0] else []
def prfF (rg ra rb rc : FR) : List Rat:=if prfC rg ra rb rc = 0 then [rb.val + rc.val - (rg.val + ra.val),2 * (-1),2,0] else []
def prfE (rg ra rb rc : FR) (xs : List (List FR)) (ys zs : List FR) : Bool:=decide (xs = [[ra.val * rg.val],[rb.val * rc.val,0]].map (List.map FR.of)) && decide (ys = [rg.val + ra.val - (rb.val + rc.val),-(2 * 1),2,0].map FR.of) && decide (zs = [rb.val + rc.val - (rg.val + ra.val),2 * (-1),2,0].map FR.of)
theorem prf_bad {g a b c : FR} (h : chkF [g,a,b,c] ≠ 0) : prfC g a b c = chkF [g,a,b,c]:=by unfold prfC;rw [if_neg h]
theorem prf_no {g a b c : FR} (h : ¬ chkF [g,a,b,c] ≠ 0) (hf : (!fullF g a b c) = true) : prfC g a b c = 21:=by unfold prfC;rw [if_pos (by omega),if_neg (by simpa using hf)]
theorem prf_ok {g a b c : FR} (h : ¬ chkF [g,a,b,c] ≠ 0) (hf : (!fullF g a b c) = false) : prfC g a b c = 0:=by unfold prfC;rw [if_pos (by omega),if_pos (by simpa using hf)]
theorem prf_z {g a b c : FR} (h : prfC g a b c ≠ 0) : prfT g a b c = [] ∧ prfN g a b c = [] ∧ prfF g a b c = []:=by unfold prfT prfN prfF;rw [if_neg h,if_neg h,if_neg h];exact ⟨rfl,rfl,rfl⟩
theorem eqs_n {p q r : Prop} [Decidable p] [Decidable q] [Decidable r] (h : ((!decide p || !decide q) || !decide r) = true) : (decide p && decide q && decide r) = false:=by
  cases hp : decide p <;> cases hq : decide q <;> cases hr : decide r <;> simp_all
theorem eqs_y {p q r : Prop} [Decidable p] [Decidable q] [Decidable r] (h : ((!decide p || !decide q) || !decide r) = false) : (decide p && decide q && decide r) = true:=by
  cases hp : decide p <;> cases hq : decide q <;> cases hr : decide r <;> simp_all
theorem prf_full {g a b c : FR} (h : ¬ chkF [g,a,b,c] ≠ 0) : decide (prfC g a b c = 0) = fullF g a b c:=by
  unfold prfC;rw [if_pos (by omega)]
  cases fullF g a b c <;> decide
theorem any_at {xs : List (List FR)} {j : Nat} (hj : j < xs.length) (h : (!shortF (xs.getD j default)) = true) (b : Bool) : true = ((xs.any fun x=>!shortF x) || b):=by
  have : (xs.any fun x=>!shortF x) = true:=List.any_eq_true.2 ⟨xs.getD j default,by rw [List.getD_eq_getElem?_getD,List.getElem?_eq_getElem hj];exact List.getElem_mem hj,h⟩
  rw [this,Bool.true_or]
theorem all_nx {xs : List (List FR)} {j : Nat} (hj : j < xs.length) (h : (xs.take j).all shortF = true) (h2 : (!shortF (xs.getD j default)) = false) : (xs.take (j + 1)).all shortF = true:=by
  rw [List.getD_eq_getElem?_getD,List.getElem?_eq_getElem hj,Option.getD_some,Bool.not_eq_false'] at h2
  rw [List.take_add_one,List.getElem?_eq_getElem hj,List.all_append,h]
  simp [h2]
theorem any_no {xs : List (List FR)} {j : Nat} (hj : ¬ j < xs.length) (h : (xs.take j).all shortF = true) : (xs.any fun x=>!shortF x) = false:=by
  rw [List.take_of_length_le (by omega)] at h
  rw [List.any_eq_false]
  intro x hx
  simpa using List.all_eq_true.1 h x hx
theorem prf_s {rg ra rb rc : FR} (h : prfC rg ra rb rc = 0) : prfT rg ra rb rc = [[ra.val * rg.val],[rb.val * rc.val,0]] ∧ prfN rg ra rb rc = [rg.val + ra.val - (rb.val + rc.val),-(2 * 1),2,0] ∧ prfF rg ra rb rc = [rb.val + rc.val - (rg.val + ra.val),2 * (-1),2,0]:=by unfold prfT prfN prfF;rw [if_pos h,if_pos h,if_pos h];exact ⟨rfl,rfl,rfl⟩
theorem w39 {n : Nat} {rg ra rb rc : FR} : Con Tryz.prog 39 [QUD n rg ra rb rc] (2000 * n + 300000 ≤ BIG) (MT.tup2 (PTS [(some 1,TWR (n + n) (prfT rg ra rb rc)),(none,NM (4 * n + 134) (prfN rg ra rb rc)),(none,NM (4 * n + 134) (prfF rg ra rb rc))]) (.ex (errV 69 (prfC rg ra rb rc)))):=.o1 fun hok h1 hp=>by
  refine St.enter (N:=21) Tryz.func39 rfl rfl rfl hok (enter1 h1) fun a=>?_
  have hn1:=qud_pos h1
  repeat' (first|((with_reducible refine gS_ ?_);first|((with_reducible refine gL_ ?_);first|refine W.run ?_ fun a w G=>?_|refine W.mv fun a w G=>?_|refine W.asg fun a w G=>?_|refine W.bx fun b a w G=>?_|(refine W.nn hK ?_;clear hK K)|refine W.nl ?_|refine W.al fun b a w G=>?_|refine W.st fun w=>?_|refine W.stp fun w=>?_|refine W.ste ?_ fun w=>?_)|((with_reducible refine gC_ ?_);first|refine W.reg fun K hK=>?_|refine W.reg1 ?_|refine W.sq fun K hK=>?_|refine W.ds ?_ (fun β a w G hu=>W.fin ?_ hu) mixedOrders (by kernel_rfl)|refine W.sk ?_|refine W.cd (fun hc=>?_) (fun hc=>?_)|refine W.cb (fun hc=>?_) (fun hc=>?_)|refine W.bl ?_|refine W.ex ?_|refine W.rt ?_)|((with_reducible refine W.kn hK ?_);clear hK K)|(with_reducible first|refine W.bn ?_|refine W.xt ?_|refine W.xb ?_|refine W.xo ?_|refine W.tr ?_|refine W.br ?_)|refine W.rt1 rfl ?_|refine W.rt2 rfl ?_ ?_|refine W.rt3 rfl ?_ ?_ ?_)|clear hK K|clear hu|exact True.intro|exact Nat.le_trans (by clear hp;omega) hp|exact Nat.le_trans (by clear hp;omega) hp.1|exact Nat.le_trans (by clear hp;omega) hp.2|(clear hp;omega)|apply And.intro|refine GI.i fun _=>?_|with_reducible rfl|decide|(simp only [List.length_cons,List.length_nil];omega))
  all_goals first
    | omega
    | (have hz:=prf_bad (a:=ra) (by assumption);first | exact hz.symm | exact (prf_z (by rw [hz];assumption)).1.symm | exact (prf_z (by rw [hz];assumption)).2.1 | exact (prf_z (by rw [hz];assumption)).2.2)
    | (have hz:=prf_no (a:=ra) (by assumption) (by assumption);first | exact hz.symm | exact (prf_z (by rw [hz];decide)).1.symm | exact (prf_z (by rw [hz];decide)).2.1 | exact (prf_z (by rw [hz];decide)).2.2)
    | (have hz:=prf_ok (a:=ra) (by assumption) (by assumption);first | exact hz | exact hz.symm | exact (prf_s hz).1.symm | exact (prf_s hz).1 | exact (prf_s hz).2.1.symm | exact (prf_s hz).2.2.symm | exact (prf_s hz).2.1 | exact (prf_s hz).2.2)
    | skip
instance {n : Nat} {rg ra rb rc : FR} {τ1 : MT} [j1 : NF τ1 (QUD n rg ra rb rc)] : Con Tryz.prog 39 [τ1] (2000 * n + 300000 ≤ BIG) (MT.tup2 (PTS [(some 1,TWR (n + n) (prfT rg ra rb rc)),(none,NM (4 * n + 134) (prfN rg ra rb rc)),(none,NM (4 * n + 134) (prfF rg ra rb rc))]) (.ex (errV 69 (prfC rg ra rb rc)))):=.o1 fun hok h1 hp=>w39.c1 hok (j1.h h1) hp
theorem w40 {m n : Nat} {rg ra rb rc : FR} {xs : List (List FR)} {ys zs : List FR} : Con Tryz.prog 40 [QUD n rg ra rb rc,PTS [(some 1,PTS [(none,LS none (xs.map (LFX m)))]),(none,LFX m ys),(none,LFX m zs)]] (2000 * n + m + 300000 ≤ BIG) (MT.tup2 (BT (decide (prfC rg ra rb rc = 0) && prfE rg ra rb rc xs ys zs)) (.ex (errV 69 (chkF [rg,ra,rb,rc])))):=.o2 fun hok h1 h2 hp=>by
  refine St.enter (N:=43) Tryz.func40 rfl rfl rfl hok (enter2 h1 h2) fun a=>?_
  have hn1:=qud_pos h1
  repeat' (first|((with_reducible refine gS_ ?_);first|((with_reducible refine gL_ ?_);first|refine W.run ?_ fun a w G=>?_|refine W.mv fun a w G=>?_|refine W.asg fun a w G=>?_|refine W.bx fun b a w G=>?_|(refine W.nn hK ?_;clear hK K)|refine W.nl ?_|refine W.al fun b a w G=>?_|refine W.st fun w=>?_|refine W.stp fun w=>?_|refine W.ste ?_ fun w=>?_)|((with_reducible refine gC_ ?_);first|refine W.reg fun K hK=>?_|refine W.reg1 ?_|refine W.sq fun K hK=>?_|refine W.ds ?_ (fun β a w G hu=>W.fin ?_ hu) mixedOrders (by kernel_rfl)|refine W.sk ?_|refine W.cd (fun hc=>?_) (fun hc=>?_)|refine W.cb (fun hc=>?_) (fun hc=>?_)|refine W.bl ?_|refine W.ex ?_|refine W.rt ?_)|((with_reducible refine W.kn hK ?_);clear hK K)|(with_reducible first|refine W.bn ?_|refine W.xt ?_|refine W.xb ?_|refine W.xo ?_|refine W.tr ?_|refine W.br ?_)|refine W.rt1 rfl ?_|refine W.rt2 rfl ?_ ?_|refine W.rt3 rfl ?_ ?_ ?_)|clear hK K|clear hu|exact True.intro|exact Nat.le_trans (by clear hp;omega) hp|exact Nat.le_trans (by clear hp;omega) hp.1|exact Nat.le_trans (by clear hp;omega) hp.2|(clear hp;omega)|apply And.intro|refine GI.i fun _=>?_|with_reducible rfl|decide|(simp only [List.length_cons,List.length_nil];omega))
  all_goals first
    | omega
    | (rw [prf_bad (by assumption),decide_eq_false (by assumption)];rfl)
    | (rw [show prfE rg ra rb rc xs ys zs = false from eqs_n hc,Bool.and_false])
    | (rw [show prfE rg ra rb rc xs ys zs = true from eqs_y hc,Bool.and_true,prf_full (by assumption)])
    | skip
instance {m n : Nat} {rg ra rb rc : FR} {xs : List (List FR)} {ys zs : List FR} {τ1 : MT} [j1 : NF τ1 (QUD n rg ra rb rc)] : Con Tryz.prog 40 [τ1,PTS [(some 1,PTS [(none,LS none (xs.map (LFX m)))]),(none,LFX m ys),(none,LFX m zs)]] (2000 * n + m + 300000 ≤ BIG) (MT.tup2 (BT (decide (prfC rg ra rb rc = 0) && prfE rg ra rb rc xs ys zs)) (.ex (errV 69 (chkF [rg,ra,rb,rc])))):=.o2 fun hok h1 h2 hp=>w40.c2 hok (j1.h h1) h2 hp
instance {xs xs2 : List (List FR)} {ys zs ys2 zs2 : List FR} : Con Tryz.prog 41 [PTS [(some 1,PTS [(none,LS none (xs.map LFR))]),(none,LFR ys),(none,LFR zs)],PTS [(some 1,PTS [(none,LS none (xs2.map LFR))]),(none,LFR ys2),(none,LFR zs2)]] (True) (BT (decide (xs = xs2) && decide (ys = ys2) && decide (zs = zs2))):=.o2 fun hok h1 h2 hp=>by
  refine St.enter (N:=24) Tryz.func41 rfl rfl rfl hok (enter2 h1 h2) fun a=>?_
  repeat' (first|((with_reducible refine gS_ ?_);first|((with_reducible refine gL_ ?_);first|refine W.run ?_ fun a w G=>?_|refine W.mv fun a w G=>?_|refine W.asg fun a w G=>?_|refine W.bx fun b a w G=>?_|(refine W.nn hK ?_;clear hK K)|refine W.nl ?_|refine W.al fun b a w G=>?_|refine W.st fun w=>?_|refine W.stp fun w=>?_|refine W.ste ?_ fun w=>?_)|((with_reducible refine gC_ ?_);first|refine W.reg fun K hK=>?_|refine W.reg1 ?_|refine W.sq fun K hK=>?_|refine W.ds ?_ (fun β a w G hu=>W.fin ?_ hu) mixedOrders (by kernel_rfl)|refine W.sk ?_|refine W.cd (fun hc=>?_) (fun hc=>?_)|refine W.cb (fun hc=>?_) (fun hc=>?_)|refine W.bl ?_|refine W.ex ?_|refine W.rt ?_)|((with_reducible refine W.kn hK ?_);clear hK K)|(with_reducible first|refine W.bn ?_|refine W.xt ?_|refine W.xb ?_|refine W.xo ?_|refine W.tr ?_|refine W.br ?_)|refine W.rt1 rfl ?_|refine W.rt2 rfl ?_ ?_|refine W.rt3 rfl ?_ ?_ ?_)|clear hK K|clear hu|exact True.intro|exact Nat.le_trans (by clear hp;omega) hp|exact Nat.le_trans (by clear hp;omega) hp.1|exact Nat.le_trans (by clear hp;omega) hp.2|(clear hp;omega)|apply And.intro|refine GI.i fun _=>?_|with_reducible rfl|decide|(simp only [List.length_cons,List.length_nil];omega))
  all_goals first | omega | skip
instance {xs : List (List FR)} {ys zs : List FR} : Con Tryz.prog 38 [PTS [(some 1,PTS [(none,LS none (xs.map LFR))]),(none,LFR ys),(none,LFR zs)]] (xs.length * 24 ≤ 140737488351232) (BT ((xs ++ [ys,zs]).any (fun x=>!shortF x) || decide (xs.length > 10))):=.o1 fun hok h1 hp=>by
  refine St.enter (N:=30) Tryz.func38 rfl rfl rfl hok (enter1 h1) fun a=>?_
  have hlim : xs.length + 2 ≤ LIM:=by simp only [LIM];omega
  repeat' (first|((with_reducible refine gS_ ?_);first|((with_reducible refine gL_ ?_);first|refine W.run ?_ fun a w G=>?_|refine W.mv fun a w G=>?_|refine W.asg fun a w G=>?_|refine W.bx fun b a w G=>?_|(refine W.nn hK ?_;clear hK K)|refine W.nl ?_|refine W.al fun b a w G=>?_|refine W.st fun w=>?_|refine W.stp fun w=>?_|refine W.ste ?_ fun w=>?_)|((with_reducible refine gC_ ?_);first|refine W.dw (T:=LFR) ?_ (fun a w G=>?_) mixedOrders (by kernel_rfl)|refine W.reg fun K hK=>?_|refine W.reg1 ?_|refine W.sq fun K hK=>?_|refine W.ds ?_ (fun β a w G hu=>W.fin ?_ hu) mixedOrders (by kernel_rfl)|refine W.sk ?_|refine W.cd (fun hc=>?_) (fun hc=>?_)|refine W.cb (fun hc=>?_) (fun hc=>?_)|refine W.bl ?_|refine W.ex ?_|refine W.rt ?_)|((with_reducible refine W.kn hK ?_);clear hK K)|(with_reducible first|refine W.bn ?_|refine W.xt ?_|refine W.xb ?_|refine W.xo ?_|refine W.tr ?_|refine W.br ?_)|refine W.rt1 rfl ?_|refine W.rt2 rfl ?_ ?_|refine W.rt3 rfl ?_ ?_ ?_)|refine W.lp 18 (α:=Nat) (fun j=>(xs ++ [ys,zs]).length - j) (fun j=>j ≤ (xs ++ [ys,zs]).length ∧ ((xs ++ [ys,zs]).take j).all shortF = true) [2,4,17,18,19,20,21,22,23,24] (fun j=>[(17,NT j)]) (fun j=>[]) (0) ?_ ?_ ?_ fun j hj a w G=>?_|refine W.ag (x:=j) (j+1) ?_ ?_ ?_ ?_|clear hK K|clear hu|exact True.intro|exact Nat.le_trans (by clear hp;omega) hp|exact Nat.le_trans (by clear hp;omega) hp.1|exact Nat.le_trans (by clear hp;omega) hp.2|(clear hp;omega)|apply And.intro|refine GI.i fun _=>?_|with_reducible rfl|decide|(simp only [List.length_cons,List.length_nil];omega))
  all_goals (try have hlen : (xs ++ [ys,zs]).length = xs.length + 2:=by simp)
  all_goals first
    | omega
    | (simp;done)
    | (simp only [LIM,List.length_cons,List.length_nil] at *;omega)
    | exact any_at (by omega) hc _
    | exact all_nx (by omega) hj.2 hc
    | (rw [any_no (by omega) hj.2,Bool.false_or];exact decide_eq_decide.2 (by omega))
    | skip
end Go.Proofs.YtdbdnabpaadigaaGreat
