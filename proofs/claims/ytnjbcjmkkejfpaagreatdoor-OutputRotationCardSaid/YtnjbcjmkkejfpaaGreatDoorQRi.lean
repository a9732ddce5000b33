import Derived.Test.YtnjbcjmkkejfpaaGreatDoorQRh
set_option linter.unusedVariables false
set_option linter.unusedSimpArgs false
set_option linter.unusedVariables false
set_option linter.unusedSimpArgs false
set_option maxHeartbeats 4000000
set_option maxRecDepth 100000
set_option synthInstance.maxSize 100000
set_option synthInstance.maxHeartbeats 400000
namespace Go.Proofs.YtnjbcjmkkejfpaaGreatDoor
open Go.RowKit (Below)
attribute [local irreducible] Go.Code.wp Go.wpList Go.bodyPost
private theorem gS_ {W0 : World} {G0 : Gh} {N : Nat} {L : List (Nat × MT)} {B : List BX} {a : Act} {w : World} {G : Gh} {q : Prop} (h : St W0 G0 N L B a w G → q) : St W0 G0 N L B a w G → q:=h
private theorem gL_ {p : Prop} {P : Program} {arr : Array Oper} {Q : Exit → Act → World → Prop} {l : List Oper} {a : Act} {w : World} (h : p → wpList P arr Q l a w) : p → wpList P arr Q l a w:=h
private theorem gC_ {p : Prop} {P : Program} {c : Code} {Q : Exit → Act → World → Prop} {a : Act} {w : World} (h : p → c.wp P Q a w) : p → c.wp P Q a w:=h
private theorem mixedOrders : Tryz.prog.follows .mixedOrders = true:=by kernel_rfl
attribute [local irreducible] barC trnC btC ciF enR enL cirs exC ofC ofI boC boI boK dirC dirS cirF
def w2F (g a : FR) (h : Bool) (t : Rat) : Rat:=d2F (wayX g.val a.val h t) (wayY a.val h t)
def ouE (g a b c : FR) (h : Bool) (t : Rat) : Int:=if w2F g a h t = 0 ∧ b.val = c.val then 15 else if dsc g a b c h t < 0 then 16 else 0
def ouK (g a b c : FR) (h : Bool) (t : Rat) : Rat:=(w2F g a h t + b.val - c.val) / (2 * w2F g a h t)
def ouX (g a b c : FR) (h : Bool) (t : Rat) : Rat:=a.val * dirC h t + ouK g a b c h t * wayX g.val a.val h t
def ouY (g a b c : FR) (h : Bool) (t : Rat) : Rat:=a.val * dirS h t + ouK g a b c h t * wayY a.val h t
def ouMX (g a : FR) (h : Bool) (t : Rat) : Rat:=-(1 / (2 * w2F g a h t) * wayY a.val h t)
def ouMY (g a : FR) (h : Bool) (t : Rat) : Rat:=1 / (2 * w2F g a h t) * wayX g.val a.val h t
def ouR (g a b c : FR) (h : Bool) (t : Rat) : List (List Rat):=if ouE g a b c h t = 0 ∧ dsc g a b c h t ≠ 0 then [[dsc g a b c h t]] else []
def ouL (g a b c : FR) (h : Bool) (t : Rat) : List (Int × List Rat × List Rat) :=
  if ouE g a b c h t = 0 then (if dsc g a b c h t = 0 then [(0,[ouX g a b c h t],[ouY g a b c h t])] else
    [(1,[ouX g a b c h t,ouMX g a h t],[ouY g a b c h t,ouMY g a h t]),(-1,[ouX g a b c h t,-ouMX g a h t],[ouY g a b c h t,-ouMY g a h t])]) else []
theorem sg0 {x : Rat} : x.num.sign = 0 ↔ x = 0:=(num_sg x).2.1
section
variable {g a b c : FR} {h : Bool} {t : Rat}
theorem ou_15 (hc : (decide ((d2F (wayX g.val a.val h t) (wayY a.val h t)).num.sign = 0) && decide (cmpQ b.val c.val = 0)) = true) : ouE g a b c h t = 15:=by
  simp only [Bool.and_eq_true,decide_eq_true_eq] at hc
  unfold ouE w2F
  rw [if_pos ⟨sg0.1 hc.1,cmpQ_eq0.1 hc.2⟩]
theorem ou_n (hc : (decide ((d2F (wayX g.val a.val h t) (wayY a.val h t)).num.sign = 0) && decide (cmpQ b.val c.val = 0)) = false) : ¬ (w2F g a h t = 0 ∧ b.val = c.val):=fun e=>by
  rw [show (decide ((d2F (wayX g.val a.val h t) (wayY a.val h t)).num.sign = 0) && decide (cmpQ b.val c.val = 0)) = true by simp only [Bool.and_eq_true,decide_eq_true_eq];exact ⟨sg0.2 e.1,cmpQ_eq0.2 e.2⟩] at hc
  cases hc
theorem ou_16 (h1 : ¬ (w2F g a h t = 0 ∧ b.val = c.val)) (h2 : (dsc g a b c h t).num.sign < 0) : ouE g a b c h t = 16:=by
  unfold ouE;rw [if_neg h1,if_pos ((num_sg _).2.2.1 h2)]
theorem ou_0 (h1 : ¬ (w2F g a h t = 0 ∧ b.val = c.val)) (h2 : ¬ (dsc g a b c h t).num.sign < 0) : ouE g a b c h t = 0:=by
  unfold ouE;rw [if_neg h1,if_neg fun e=>h2 ((num_sg _).2.2.2 e)]
theorem ou_ne (h1 : ¬ (w2F g a h t = 0 ∧ b.val = c.val)) (h2 : ¬ (dsc g a b c h t).num.sign < 0) : w2F g a h t ≠ 0:=fun e=>by
  refine h2 ((num_sg _).2.2.2 ?_)
  unfold dsc
  rw [show d2F (wayX g.val a.val h t) (wayY a.val h t) = 0 from e]
  unfold discF
  have hne : b.val - c.val ≠ 0:=fun e2=>h1 ⟨e,by grind⟩
  have hpos : 0 < (b.val - c.val) * (b.val - c.val):=by
    rcases (Rat.le_total : 0 ≤ b.val - c.val ∨ b.val - c.val ≤ 0) with h | h
    · have hp : 0 < b.val - c.val:=by grind
      exact Rat.mul_pos hp hp
    · have hp : 0 < -(b.val - c.val):=by grind
      have:=Rat.mul_pos hp hp
      grind
  grind
theorem ou_s (h1 : ¬ (w2F g a h t = 0 ∧ b.val = c.val)) (h2 : ¬ (dsc g a b c h t).num.sign < 0) (h3 : (dsc g a b c h t).num.sign = 0) : ouR g a b c h t = [] ∧ ouL g a b c h t = [(0,[ouX g a b c h t],[ouY g a b c h t])]:=by
  have e:=ou_0 h1 h2;have e2:=sg0.1 h3
  unfold ouR ouL;rw [if_neg fun k=>k.2 e2,if_pos e,if_pos e2];exact ⟨rfl,rfl⟩
theorem ou_t (h1 : ¬ (w2F g a h t = 0 ∧ b.val = c.val)) (h2 : ¬ (dsc g a b c h t).num.sign < 0) (h3 : ¬ (dsc g a b c h t).num.sign = 0) : ouR g a b c h t = [[dsc g a b c h t]] ∧ ouL g a b c h t =
    [(1,[ouX g a b c h t,ouMX g a h t],[ouY g a b c h t,ouMY g a h t]),(-1,[ouX g a b c h t,-ouMX g a h t],[ouY g a b c h t,-ouMY g a h t])]:=by
  have e:=ou_0 h1 h2;have e2:=fun k=>h3 (sg0.2 k)
  unfold ouR ouL;rw [if_pos ⟨e,e2⟩,if_pos e,if_neg e2];exact ⟨rfl,rfl⟩
theorem two_ne {x : Rat} (h : x ≠ 0) : 2 * x ≠ 0:=fun e=>h (by grind)
theorem ou_e {e : Int} (h0 : ouE g a b c h t = e) (he : e ≠ 0) : ouR g a b c h t = [] ∧ ouL g a b c h t = []:=by
  unfold ouR ouL;rw [if_neg (by rw [h0];exact fun e=>he e.1),if_neg (by rw [h0];exact he)];exact ⟨rfl,rfl⟩
end
def okV (c : Int) (x : Rat) : Rat:=if c = 0 then x else 0
theorem okV_0 {c : Int} {x : Rat} (h : c = 0) : okV c x = x:=if_pos h
theorem okV_n {c : Int} {x : Rat} (h : ¬ c = 0) : okV c x = 0:=if_neg h
theorem bt_00 {l : List FR} {h : Bool} {t : FR} (e : btC l h t = 0) : barC l = 0 ∧ trnF h t = true:=by
  unfold btC at e
  split at e
  · rename_i hb
    refine ⟨hb,?_⟩
    unfold trnC at e
    split at e
    · assumption
    · cases e
  · cases e
def oaE (g a b c : FR) (h : Bool) (t : FR) : Int:=if btC [g,a,b,c] h t = 0 then ouE g a b c h t.val else btC [g,a,b,c] h t
def oaR (g a b c : FR) (h : Bool) (t : FR) : List (List Rat):=if btC [g,a,b,c] h t = 0 then ouR g a b c h t.val else []
def oaL (g a b c : FR) (h : Bool) (t : FR) : List (Int × List Rat × List Rat):=if btC [g,a,b,c] h t = 0 then ouL g a b c h t.val else []
theorem atPM {n m : Nat} {rg ra rb rc t : FR} {h : Bool} : Con Tryz.prog 13 [QUD n rg ra rb rc,TRN m t h] (10000 * n + 10000 * m + 100000 ≤ BIG ∧ barC [rg,ra,rb,rc] = 0 ∧ trnF h t = true) (MT.tup3 (TWR (100 * n + 200 * m + 10000) (ouR rg ra rb rc h t.val)) (LS (some 3) ((ouL rg ra rb rc h t.val).map (BPT (100 * n + 200 * m + 10000)))) (.ex (errV 67 (ouE rg ra rb rc h t.val)))):=.o2 fun hok h1 h2 hp=>by
  refine St.enter (N:=146) Tryz.func13 rfl rfl rfl hok (enter2 h1 h2) fun a=>?_
  have hb:=hp.2.1
  have ht:=trn_0 hp.2.2
  have hbt:=bt_0 hp.2.1 hp.2.2
  repeat' (first|((with_reducible refine gS_ ?_);first|((with_reducible refine gL_ ?_);first|refine W.run ?_ fun a w G=>?_|refine W.mv fun a w G=>?_|refine W.asg fun a w G=>?_|refine W.bx fun b a w G=>?_|(refine W.nn hK ?_;clear hK K)|refine W.nl ?_|refine W.al fun b a w G=>?_|refine W.st fun w=>?_|refine W.stp fun w=>?_|refine W.ste ?_ fun w=>?_)|((with_reducible refine gC_ ?_);first|refine W.reg fun K hK=>?_|refine W.reg1 ?_|refine W.sq fun K hK=>?_|refine W.ds ?_ (fun β a w G hu=>W.fin ?_ hu) mixedOrders (by kernel_rfl)|refine W.sk ?_|refine W.cd (fun hc=>?_) (fun hc=>?_)|refine W.cb (fun hc=>?_) (fun hc=>?_)|refine W.bl ?_|refine W.ex ?_|refine W.rt ?_)|((with_reducible refine W.kn hK ?_);clear hK K)|(with_reducible first|refine W.bn ?_|refine W.xt ?_|refine W.xb ?_|refine W.xo ?_|refine W.tr ?_|refine W.br ?_)|refine W.rt1 rfl ?_|refine W.rt2 rfl ?_ ?_|refine W.rt3 rfl ?_ ?_ ?_)|clear hK K|clear hu|exact True.intro|exact Nat.le_trans (by clear hp;omega) hp|exact Nat.le_trans (by clear hp;omega) hp.1|exact Nat.le_trans (by clear hp;omega) hp.2|(clear hp;omega)|apply And.intro|refine GI.i fun _=>?_|with_reducible rfl|decide|(simp only [List.length_cons,List.length_nil];omega))
  all_goals first
    | (exfalso;omega)
    | assumption
    | exact hp.2.2
    | exact hp.2.1
    | exact (ou_15 hc).symm
    | exact (ou_e (ou_15 hc) (by decide)).1.symm
    | exact (ou_e (ou_15 hc) (by decide)).2
    | (have hn := ou_n (by assumption)
       first
       | exact (ou_16 hn hc).symm
       | exact (ou_e (ou_16 hn hc) (by decide)).1.symm
       | exact (ou_e (ou_16 hn hc) (by decide)).2
       | exact two_ne (ou_ne hn hc)
       | (have hd : ¬ (dsc rg ra rb rc h t.val).num.sign < 0 := by assumption
          first
          | exact ou_0 hn hd
          | exact (ou_0 hn hd).symm
          | exact (ou_s hn hd (by assumption)).1.symm
          | exact (ou_s hn hd (by assumption)).2.symm
          | exact (ou_t hn hd (by assumption)).1.symm
          | exact (ou_t hn hd (by assumption)).2.symm)
       | exact two_ne (ou_ne hn (by assumption))
       | skip)
    | skip
theorem bad21 {n m : Nat} {rg ra rb rc t : FR} {h : Bool} : Con Tryz.prog 21 [QUD n rg ra rb rc,TRN m t h] (10000 * n + 10000 * m + 100000 ≤ BIG ∧ ¬ btC [rg,ra,rb,rc] h t = 0) (MT.tup2 (PLQ (n + 4 * m + 130) (okV (btC [rg,ra,rb,rc] h t) (ra.val * dirC h t.val)) (okV (btC [rg,ra,rb,rc] h t) (ra.val * dirS h t.val))) (.ex (errV 67 (btC [rg,ra,rb,rc] h t)))):=.o2 fun hok h1 h2 hp=>by
  refine St.enter (N:=36) Tryz.func21 rfl rfl rfl hok (enter2 h1 h2) fun a=>?_
  have hz:=hp.2
  repeat' (first|((with_reducible refine gS_ ?_);first|((with_reducible refine gL_ ?_);first|refine W.run ?_ fun a w G=>?_|refine W.mv fun a w G=>?_|refine W.asg fun a w G=>?_|refine W.bx fun b a w G=>?_|(refine W.nn hK ?_;clear hK K)|refine W.nl ?_|refine W.al fun b a w G=>?_|refine W.st fun w=>?_|refine W.stp fun w=>?_|refine W.ste ?_ fun w=>?_)|((with_reducible refine gC_ ?_);first|with_reducible refine W.cbt (by first|assumption|(simp [hz];done)|fail) ?_|with_reducible refine W.cbf (by first|assumption|(simp [hz];done)|fail) ?_|refine W.reg fun K hK=>?_|refine W.reg1 ?_|refine W.sq fun K hK=>?_|refine W.ds ?_ (fun β a w G hu=>W.fin ?_ hu) mixedOrders (by kernel_rfl)|refine W.sk ?_|refine W.cd (fun hc=>?_) (fun hc=>?_)|refine W.cb (fun hc=>?_) (fun hc=>?_)|refine W.bl ?_|refine W.ex ?_|refine W.rt ?_)|((with_reducible refine W.kn hK ?_);clear hK K)|(with_reducible first|refine W.bn ?_|refine W.xt ?_|refine W.xb ?_|refine W.xo ?_|refine W.tr ?_|refine W.br ?_)|refine W.rt1 rfl ?_|refine W.rt2 rfl ?_ ?_|refine W.rt3 rfl ?_ ?_ ?_)|clear hK K|clear hu|exact True.intro|exact Nat.le_trans (by clear hp;omega) hp|exact Nat.le_trans (by clear hp;omega) hp.1|exact Nat.le_trans (by clear hp;omega) hp.2|(clear hp;omega)|apply And.intro|refine GI.i fun _=>?_|with_reducible rfl|decide|(simp only [List.length_cons,List.length_nil];omega))
  all_goals first
    | omega
    | exact hp.1
    | exact okV_n hp.2
    | exact (okV_n hp.2).symm
    | exact (if_neg hp.2).symm
    | exact if_neg hp.2
    | rfl
    | skip
instance (priority:=2000) {n m : Nat} {rg ra rb rc t : FR} {h : Bool} {τ1 τ2 : MT} [j1 : NF τ1 (QUD n rg ra rb rc)] [j2 : NF τ2 (TRN m t h)] : Con Tryz.prog 21 [τ1,τ2] (10000 * n + 10000 * m + 100000 ≤ BIG) (MT.tup2 (PLQ (n + 4 * m + 130) (okV (btC [rg,ra,rb,rc] h t) (ra.val * dirC h t.val)) (okV (btC [rg,ra,rb,rc] h t) (ra.val * dirS h t.val))) (.ex (errV 67 (btC [rg,ra,rb,rc] h t)))):=.o2 fun hok h1 h2 hp=>by
  by_cases e : btC [rg,ra,rb,rc] h t = 0
  · simp only [oaE,oaR,oaL,okV,e,if_true,ite_true]
    exact w21.c2 hok (j1.h h1) (j2.h h2) ⟨hp,bt_00 e⟩
  · exact bad21.c2 hok (j1.h h1) (j2.h h2) ⟨hp,e⟩
theorem bad56 {n m : Nat} {rg ra rb rc t : FR} {h : Bool} : Con Tryz.prog 56 [QUD n rg ra rb rc,TRN m t h] (10000 * n + 10000 * m + 100000 ≤ BIG ∧ ¬ btC [rg,ra,rb,rc] h t = 0) (MT.tup2 (PTS [(some 6,PLQ (n + 4 * m + 130) (okV (btC [rg,ra,rb,rc] h t) (ra.val * dirC h t.val)) (okV (btC [rg,ra,rb,rc] h t) (ra.val * dirS h t.val))),(some 6,PLQ (2 * n + 4 * m + 131) (okV (btC [rg,ra,rb,rc] h t) (wayX rg.val ra.val h t.val)) (okV (btC [rg,ra,rb,rc] h t) (wayY ra.val h t.val))),(some 3,QC (8 * n + 16 * m + 525) (okV (btC [rg,ra,rb,rc] h t) (d2F (wayX rg.val ra.val h t.val) (wayY ra.val h t.val))))]) (.ex (errV 67 (btC [rg,ra,rb,rc] h t)))):=.o2 fun hok h1 h2 hp=>by
  refine St.enter (N:=38) Tryz.func56 rfl rfl rfl hok (enter2 h1 h2) fun a=>?_
  have hz:=hp.2
  repeat' (first|((with_reducible refine gS_ ?_);first|((with_reducible refine gL_ ?_);first|refine W.run ?_ fun a w G=>?_|refine W.mv fun a w G=>?_|refine W.asg fun a w G=>?_|refine W.bx fun b a w G=>?_|(refine W.nn hK ?_;clear hK K)|refine W.nl ?_|refine W.al fun b a w G=>?_|refine W.st fun w=>?_|refine W.stp fun w=>?_|refine W.ste ?_ fun w=>?_)|((with_reducible refine gC_ ?_);first|with_reducible refine W.cbt (by first|assumption|(simp [hz];done)|fail) ?_|with_reducible refine W.cbf (by first|assumption|(simp [hz];done)|fail) ?_|refine W.reg fun K hK=>?_|refine W.reg1 ?_|refine W.sq fun K hK=>?_|refine W.ds ?_ (fun β a w G hu=>W.fin ?_ hu) mixedOrders (by kernel_rfl)|refine W.sk ?_|refine W.cd (fun hc=>?_) (fun hc=>?_)|refine W.cb (fun hc=>?_) (fun hc=>?_)|refine W.bl ?_|refine W.ex ?_|refine W.rt ?_)|((with_reducible refine W.kn hK ?_);clear hK K)|(with_reducible first|refine W.bn ?_|refine W.xt ?_|refine W.xb ?_|refine W.xo ?_|refine W.tr ?_|refine W.br ?_)|refine W.rt1 rfl ?_|refine W.rt2 rfl ?_ ?_|refine W.rt3 rfl ?_ ?_ ?_)|clear hK K|clear hu|exact True.intro|exact Nat.le_trans (by clear hp;omega) hp|exact Nat.le_trans (by clear hp;omega) hp.1|exact Nat.le_trans (by clear hp;omega) hp.2|(clear hp;omega)|apply And.intro|refine GI.i fun _=>?_|with_reducible rfl|decide|(simp only [List.length_cons,List.length_nil];omega))
  all_goals first
    | omega
    | exact hp.1
    | exact okV_n hp.2
    | exact (okV_n hp.2).symm
    | exact (if_neg hp.2).symm
    | exact if_neg hp.2
    | rfl
    | skip
instance (priority:=2000) {n m : Nat} {rg ra rb rc t : FR} {h : Bool} {τ1 τ2 : MT} [j1 : NF τ1 (QUD n rg ra rb rc)] [j2 : NF τ2 (TRN m t h)] : Con Tryz.prog 56 [τ1,τ2] (10000 * n + 10000 * m + 100000 ≤ BIG) (MT.tup2 (PTS [(some 6,PLQ (n + 4 * m + 130) (okV (btC [rg,ra,rb,rc] h t) (ra.val * dirC h t.val)) (okV (btC [rg,ra,rb,rc] h t) (ra.val * dirS h t.val))),(some 6,PLQ (2 * n + 4 * m + 131) (okV (btC [rg,ra,rb,rc] h t) (wayX rg.val ra.val h t.val)) (okV (btC [rg,ra,rb,rc] h t) (wayY ra.val h t.val))),(some 3,QC (8 * n + 16 * m + 525) (okV (btC [rg,ra,rb,rc] h t) (d2F (wayX rg.val ra.val h t.val) (wayY ra.val h t.val))))]) (.ex (errV 67 (btC [rg,ra,rb,rc] h t)))):=.o2 fun hok h1 h2 hp=>by
  by_cases e : btC [rg,ra,rb,rc] h t = 0
  · simp only [oaE,oaR,oaL,okV,e,if_true,ite_true]
    exact w56.c2 hok (j1.h h1) (j2.h h2) ⟨hp,bt_00 e⟩
  · exact bad56.c2 hok (j1.h h1) (j2.h h2) ⟨hp,e⟩
theorem bad22 {n m : Nat} {rg ra rb rc t : FR} {h : Bool} : Con Tryz.prog 22 [QUD n rg ra rb rc,TRN m t h] (10000 * n + 10000 * m + 100000 ≤ BIG ∧ ¬ btC [rg,ra,rb,rc] h t = 0) (MT.tup2 (QC (22 * n + 32 * m + 1119) (okV (btC [rg,ra,rb,rc] h t) (dsc rg ra rb rc h t.val))) (.ex (errV 67 (btC [rg,ra,rb,rc] h t)))):=.o2 fun hok h1 h2 hp=>by
  refine St.enter (N:=22) Tryz.func22 rfl rfl rfl hok (enter2 h1 h2) fun a=>?_
  have hz:=hp.2
  repeat' (first|((with_reducible refine gS_ ?_);first|((with_reducible refine gL_ ?_);first|refine W.run ?_ fun a w G=>?_|refine W.mv fun a w G=>?_|refine W.asg fun a w G=>?_|refine W.bx fun b a w G=>?_|(refine W.nn hK ?_;clear hK K)|refine W.nl ?_|refine W.al fun b a w G=>?_|refine W.st fun w=>?_|refine W.stp fun w=>?_|refine W.ste ?_ fun w=>?_)|((with_reducible refine gC_ ?_);first|with_reducible refine W.cbt (by first|assumption|(simp [hz];done)|fail) ?_|with_reducible refine W.cbf (by first|assumption|(simp [hz];done)|fail) ?_|refine W.reg fun K hK=>?_|refine W.reg1 ?_|refine W.sq fun K hK=>?_|refine W.ds ?_ (fun β a w G hu=>W.fin ?_ hu) mixedOrders (by kernel_rfl)|refine W.sk ?_|refine W.cd (fun hc=>?_) (fun hc=>?_)|refine W.cb (fun hc=>?_) (fun hc=>?_)|refine W.bl ?_|refine W.ex ?_|refine W.rt ?_)|((with_reducible refine W.kn hK ?_);clear hK K)|(with_reducible first|refine W.bn ?_|refine W.xt ?_|refine W.xb ?_|refine W.xo ?_|refine W.tr ?_|refine W.br ?_)|refine W.rt1 rfl ?_|refine W.rt2 rfl ?_ ?_|refine W.rt3 rfl ?_ ?_ ?_)|clear hK K|clear hu|exact True.intro|exact Nat.le_trans (by clear hp;omega) hp|exact Nat.le_trans (by clear hp;omega) hp.1|exact Nat.le_trans (by clear hp;omega) hp.2|(clear hp;omega)|apply And.intro|refine GI.i fun _=>?_|with_reducible rfl|decide|(simp only [List.length_cons,List.length_nil];omega))
  all_goals first
    | omega
    | exact hp.1
    | exact okV_n hp.2
    | exact (okV_n hp.2).symm
    | exact (if_neg hp.2).symm
    | exact if_neg hp.2
    | rfl
    | skip
instance (priority:=2000) {n m : Nat} {rg ra rb rc t : FR} {h : Bool} {τ1 τ2 : MT} [j1 : NF τ1 (QUD n rg ra rb rc)] [j2 : NF τ2 (TRN m t h)] : Con Tryz.prog 22 [τ1,τ2] (10000 * n + 10000 * m + 100000 ≤ BIG) (MT.tup2 (QC (22 * n + 32 * m + 1119) (okV (btC [rg,ra,rb,rc] h t) (dsc rg ra rb rc h t.val))) (.ex (errV 67 (btC [rg,ra,rb,rc] h t)))):=.o2 fun hok h1 h2 hp=>by
  by_cases e : btC [rg,ra,rb,rc] h t = 0
  · simp only [oaE,oaR,oaL,okV,e,if_true,ite_true]
    exact w22.c2 hok (j1.h h1) (j2.h h2) ⟨hp,bt_00 e⟩
  · exact bad22.c2 hok (j1.h h1) (j2.h h2) ⟨hp,e⟩
theorem bad13 {n m : Nat} {rg ra rb rc t : FR} {h : Bool} : Con Tryz.prog 13 [QUD n rg ra rb rc,TRN m t h] (10000 * n + 10000 * m + 100000 ≤ BIG ∧ ¬ btC [rg,ra,rb,rc] h t = 0) (MT.tup3 (TWR (100 * n + 200 * m + 10000) (oaR rg ra rb rc h t)) (LS (some 3) ((oaL rg ra rb rc h t).map (BPT (100 * n + 200 * m + 10000)))) (.ex (errV 67 (oaE rg ra rb rc h t)))):=.o2 fun hok h1 h2 hp=>by
  refine St.enter (N:=146) Tryz.func13 rfl rfl rfl hok (enter2 h1 h2) fun a=>?_
  have hz:=hp.2
  repeat' (first|((with_reducible refine gS_ ?_);first|((with_reducible refine gL_ ?_);first|refine W.run ?_ fun a w G=>?_|refine W.mv fun a w G=>?_|refine W.asg fun a w G=>?_|refine W.bx fun b a w G=>?_|(refine W.nn hK ?_;clear hK K)|refine W.nl ?_|refine W.al fun b a w G=>?_|refine W.st fun w=>?_|refine W.stp fun w=>?_|refine W.ste ?_ fun w=>?_)|((with_reducible refine gC_ ?_);first|with_reducible refine W.cbt (by first|assumption|(simp [hz];done)|fail) ?_|with_reducible refine W.cbf (by first|assumption|(simp [hz];done)|fail) ?_|refine W.reg fun K hK=>?_|refine W.reg1 ?_|refine W.sq fun K hK=>?_|refine W.ds ?_ (fun β a w G hu=>W.fin ?_ hu) mixedOrders (by kernel_rfl)|refine W.sk ?_|refine W.cd (fun hc=>?_) (fun hc=>?_)|refine W.cb (fun hc=>?_) (fun hc=>?_)|refine W.bl ?_|refine W.ex ?_|refine W.rt ?_)|((with_reducible refine W.kn hK ?_);clear hK K)|(with_reducible first|refine W.bn ?_|refine W.xt ?_|refine W.xb ?_|refine W.xo ?_|refine W.tr ?_|refine W.br ?_)|refine W.rt1 rfl ?_|refine W.rt2 rfl ?_ ?_|refine W.rt3 rfl ?_ ?_ ?_)|clear hK K|clear hu|exact True.intro|exact Nat.le_trans (by clear hp;omega) hp|exact Nat.le_trans (by clear hp;omega) hp.1|exact Nat.le_trans (by clear hp;omega) hp.2|(clear hp;omega)|apply And.intro|refine GI.i fun _=>?_|with_reducible rfl|decide|(simp only [List.length_cons,List.length_nil];omega))
  all_goals first
    | omega
    | exact hp.1
    | exact okV_n hp.2
    | exact (okV_n hp.2).symm
    | exact (if_neg hp.2).symm
    | exact if_neg hp.2
    | rfl
    | skip
instance (priority:=2000) {n m : Nat} {rg ra rb rc t : FR} {h : Bool} {τ1 τ2 : MT} [j1 : NF τ1 (QUD n rg ra rb rc)] [j2 : NF τ2 (TRN m t h)] : Con Tryz.prog 13 [τ1,τ2] (10000 * n + 10000 * m + 100000 ≤ BIG) (MT.tup3 (TWR (100 * n + 200 * m + 10000) (oaR rg ra rb rc h t)) (LS (some 3) ((oaL rg ra rb rc h t).map (BPT (100 * n + 200 * m + 10000)))) (.ex (errV 67 (oaE rg ra rb rc h t)))):=.o2 fun hok h1 h2 hp=>by
  by_cases e : btC [rg,ra,rb,rc] h t = 0
  · simp only [oaE,oaR,oaL,okV,e,if_true,ite_true]
    exact atPM.c2 hok (j1.h h1) (j2.h h2) ⟨hp,bt_00 e⟩
  · exact bad13.c2 hok (j1.h h1) (j2.h h2) ⟨hp,e⟩
end Go.Proofs.YtnjbcjmkkejfpaaGreatDoor
set_option linter.unusedVariables false
set_option linter.unusedSimpArgs false
namespace Go.Proofs.YtnjbcjmkkejfpaaGreatDoor
open Go.RowKit (Below)
namespace W
section
variable {P : Program} {B : List BX} {L : List (Nat × MT)} {W0 : World} {G0 : Gh} {N : Nat} {a : Act} {w : World} {G : Gh} {Q : Exit → Act → World → Prop} {p : Prop} {id n i i1 i2 i3 fuel : Nat} {l : List Oper} {js : List Nat} {K : Act → World → Prop} {o : Oper}
theorem cvt {τ : MT} {pc : Prop} (t : Nat) (τ' : MT) [h : Lk L t τ] [c : Cv τ τ' pc] (hp : pc) (K : St W0 G0 N ((t,τ') :: L) B a w G → p) : St W0 G0 N L B a w G → p:=fun S =>
  K ⟨S.nxt,S.size,S.dfr,fun i q hi=>match i,hi with | 0,hi=>by cases hi;exact c.h hp (S.env [t] t τ (by simp) h.m) | i + 1,hi=>S.ty i q hi,S.bx,S.nd⟩
theorem cut {c : Code} {arr : Array Oper} (num d : Nat) (ty : TypeId) (k : Option Nat) (τ : MT) (h1 : ∀ b a w G, St W0 G0 N ((d, MT.ex (.pointer (some ⟨b, 0, none⟩))) :: L) (⟨b, ty, k, τ⟩ :: B) a w G → c.wp P Q a w)
    (h2 : ∀ K : Act → World → Prop,(∀ b a w G,St W0 G0 N ((d,MT.ex (.pointer (some ⟨b,0,none⟩))) :: L) (⟨b,ty,k,τ⟩ :: B) a w G → K a w) → St W0 G0 N L B a w G → (Code.region num arr true).wp P (Exit.then K Q) a w) :
    St W0 G0 N L B a w G → (Code.seq (.region num arr true) c).wp P Q a w:=fun S=>wp_seq_k fun K hK=>h2 K (fun b a w G S=>hK a w (h1 b a w G S)) S
end
end W
end Go.Proofs.YtnjbcjmkkejfpaaGreatDoor
set_option linter.unusedVariables false
set_option linter.unusedSimpArgs false
set_option maxHeartbeats 4000000
set_option maxRecDepth 100000
set_option synthInstance.maxSize 100000
set_option synthInstance.maxHeartbeats 400000
namespace Go.Proofs.YtnjbcjmkkejfpaaGreatDoor
open Go.RowKit (Below)
attribute [local irreducible] Go.Code.wp Go.wpList Go.bodyPost
attribute [local irreducible] barC trnC btC dirC dirS dsc okV
section
variable {g a b c : FR} {h : Bool} {t : Rat}
end
section
variable {g a b c : FR} {h : Bool} {t : Rat}
end
instance gTO3_17_2 : GcT 17 2 false 5 [6,16,17,18,19,20,21]:=⟨⟩
instance gTO3_17_3 : GcT 17 3 false 2 [3,7,8,22,23,24]:=⟨⟩
instance gTO3_17_5 : GcT 17 5 false 2 [3,7,8,22,23,24,26,27,28]:=⟨⟩
instance gTO3_17_6 : GcT 17 6 false 22 [23,24,26,27,28]:=⟨⟩
instance gTO3_17_7 : GcT 17 7 false 2 [3,30,31,32,33,34,35]:=⟨⟩
instance gTO3_17_10 : GcT 17 10 false 7 [10,36,37,48,49,50,51,52,53,54,55]:=⟨⟩
end Go.Proofs.YtnjbcjmkkejfpaaGreatDoor
set_option linter.unusedVariables false
set_option linter.unusedSimpArgs false
set_option maxHeartbeats 4000000
set_option maxRecDepth 100000
set_option synthInstance.maxSize 100000
set_option synthInstance.maxHeartbeats 400000
namespace Go.Proofs.YtnjbcjmkkejfpaaGreatDoor
open Go.RowKit (Below)
attribute [local irreducible] Go.Code.wp Go.wpList Go.bodyPost
attribute [local irreducible] barC trnC btC ciF dsc enR enL cirs exC ofC ofI boC boI boK dirC dirS cirF
theorem ex_bar : barC [FR.of 4,FR.of 1,FR.of 9,FR.of 9] = 0:=by
  unfold barC;simp only [List.all_cons,List.all_nil,posR_of4];decide +kernel
theorem ex_dL : dsc (FR.of 4) (FR.of 1) (FR.of 9) (FR.of 9) true zFR.val = 275:=by unfold dsc;simp only [FR.of_val,zv0];decide +kernel
instance iK6_113  : Con Tryz.prog 54 [] (True) (QUD 64 (FR.of 4) (FR.of 1) (FR.of 9) (FR.of 9)):=.o0 fun hok  hp=>by
  refine St.enter (N:=6) Tryz.func54 rfl rfl rfl hok enter0 fun a=>?_
  repeat' (first|((with_reducible refine gS_ ?_);first|((with_reducible refine gL_ ?_);first|refine W.run ?_ fun a w G=>?_|refine W.mv fun a w G=>?_|refine W.asg fun a w G=>?_|refine W.bx fun b a w G=>?_|(refine W.nn hK ?_;clear hK K)|refine W.nl ?_|refine W.al fun b a w G=>?_|refine W.st fun w=>?_|refine W.stp fun w=>?_|refine W.ste ?_ fun w=>?_)|((with_reducible refine gC_ ?_);first|refine W.reg fun K hK=>?_|refine W.reg1 ?_|refine W.sq fun K hK=>?_|refine W.ds ?_ (fun β a w G hu=>W.fin ?_ hu) mixedOrders (by kernel_rfl)|refine W.sk ?_|refine W.cd (fun hc=>?_) (fun hc=>?_)|refine W.cb (fun hc=>?_) (fun hc=>?_)|refine W.bl ?_|refine W.ex ?_|refine W.rt ?_)|((with_reducible refine W.kn hK ?_);clear hK K)|(with_reducible first|refine W.bn ?_|refine W.xt ?_|refine W.xb ?_|refine W.xo ?_|refine W.tr ?_|refine W.br ?_)|refine W.rt1 rfl ?_|refine W.rt2 rfl ?_ ?_|refine W.rt3 rfl ?_ ?_ ?_)|clear hK K|clear hu|exact True.intro|exact Nat.le_trans (by clear hp;omega) hp|exact Nat.le_trans (by clear hp;omega) hp.1|exact Nat.le_trans (by clear hp;omega) hp.2|(clear hp;omega)|apply And.intro|refine GI.i fun _=>?_|with_reducible rfl|decide|(simp only [List.length_cons,List.length_nil];omega))
end Go.Proofs.YtnjbcjmkkejfpaaGreatDoor
set_option linter.unusedVariables false
set_option linter.unusedSimpArgs false
set_option maxHeartbeats 4000000
set_option maxRecDepth 100000
set_option synthInstance.maxSize 100000
set_option synthInstance.maxHeartbeats 400000
namespace Go.Proofs.YtnjbcjmkkejfpaaGreatDoor
open Go.RowKit (Below)
attribute [local irreducible] Go.Code.wp Go.wpList Go.bodyPost
attribute [local irreducible] barC trnC btC dirC dirS dsc ouE ouR ouL ouX ouY ouMX ouMY
theorem a36_b : btC [FR.of 4,FR.of 1,FR.of 9,FR.of 9] true zFR = 0:=bt_0 ex_bar trn_zero
theorem a36_d : dsc (FR.of 4) (FR.of 1) (FR.of 9) (FR.of 9) true zFR.val = 275:=ex_dL
theorem a36_ok {x : Rat} : okV (btC [FR.of 4,FR.of 1,FR.of 9,FR.of 9] true zFR) x = x:=okV_0 a36_b
theorem a36_x : ouX (FR.of 4) (FR.of 1) (FR.of 9) (FR.of 9) true zFR.val = 3 / 2:=by
  unfold ouX ouK w2F
  simp only [FR.of_val,zv0]
  decide +kernel
theorem a36_e : oaE (FR.of 4) (FR.of 1) (FR.of 9) (FR.of 9) true zFR = 0:=by
  unfold oaE
  rw [if_pos a36_b]
  unfold ouE
  rw [if_neg (fun e=>absurd e.1 (by unfold w2F;simp only [FR.of_val,zv0];decide +kernel)),if_neg (by rw [a36_d];decide)]
theorem a36_o : ouE (FR.of 4) (FR.of 1) (FR.of 9) (FR.of 9) true zFR.val = 0:=by have h:=a36_e;unfold oaE at h;rw [if_pos a36_b] at h;exact h
theorem a36_r : oaR (FR.of 4) (FR.of 1) (FR.of 9) (FR.of 9) true zFR = [[275]]:=by
  unfold oaR ouR
  rw [if_pos a36_b,if_pos ⟨a36_o,by rw [a36_d];decide⟩,a36_d]
theorem a36_l : oaL (FR.of 4) (FR.of 1) (FR.of 9) (FR.of 9) true zFR = [(1,[3 / 2,ouMX (FR.of 4) (FR.of 1) true zFR.val],[ouY (FR.of 4) (FR.of 1) (FR.of 9) (FR.of 9) true zFR.val,ouMY (FR.of 4) (FR.of 1) true zFR.val]),(-1,[3 / 2,-ouMX (FR.of 4) (FR.of 1) true zFR.val],[ouY (FR.of 4) (FR.of 1) (FR.of 9) (FR.of 9) true zFR.val,-ouMY (FR.of 4) (FR.of 1) true zFR.val])]:=by
  unfold oaL ouL
  rw [if_pos a36_b,if_pos a36_o,a36_d,if_neg (by decide),a36_x]
theorem w12 {t : FR} {h : Bool} : Con Tryz.prog 12 [PTS [(some 3,RX t),(none,BT h)]] (True) (BT (shortR t)):=.o1 fun hok h1 hp=>by
  refine St.enter (N:=15) Tryz.func12 rfl rfl rfl hok (enter1 h1) fun a=>?_
  repeat' (first|((with_reducible refine gS_ ?_);first|((with_reducible refine gL_ ?_);first|refine W.run ?_ fun a w G=>?_|refine W.mv fun a w G=>?_|refine W.asg fun a w G=>?_|refine W.bx fun b a w G=>?_|(refine W.nn hK ?_;clear hK K)|refine W.nl ?_|refine W.al fun b a w G=>?_|refine W.st fun w=>?_|refine W.stp fun w=>?_|refine W.ste ?_ fun w=>?_)|((with_reducible refine gC_ ?_);first|refine W.reg fun K hK=>?_|refine W.reg1 ?_|refine W.sq fun K hK=>?_|refine W.ds ?_ (fun β a w G hu=>W.fin ?_ hu) mixedOrders (by kernel_rfl)|refine W.sk ?_|refine W.cd (fun hc=>?_) (fun hc=>?_)|refine W.cb (fun hc=>?_) (fun hc=>?_)|refine W.bl ?_|refine W.ex ?_|refine W.rt ?_)|((with_reducible refine W.kn hK ?_);clear hK K)|(with_reducible first|refine W.bn ?_|refine W.xt ?_|refine W.xb ?_|refine W.xo ?_|refine W.tr ?_|refine W.br ?_)|refine W.rt1 rfl ?_|refine W.rt2 rfl ?_ ?_|refine W.rt3 rfl ?_ ?_ ?_)|clear hK K|clear hu|exact True.intro|exact Nat.le_trans (by clear hp;omega) hp|exact Nat.le_trans (by clear hp;omega) hp.1|exact Nat.le_trans (by clear hp;omega) hp.2|(clear hp;omega)|apply And.intro|refine GI.i fun _=>?_|with_reducible rfl|decide|(simp only [List.length_cons,List.length_nil];omega))
  all_goals first | omega | rfl | (unfold shortR;congr 1 <;> exact decide_eq_decide.2 (by omega)) | (unfold shortR;rw [Bool.eq_iff_iff];simp only [Bool.and_eq_true,decide_eq_true_eq];omega) | skip
instance {t : FR} {h : Bool} {τ1 : MT} [j1 : NR τ1 (PTS [(some 3,RX t),(none,BT h)])] : Con Tryz.prog 12 [τ1] (True) (BT (shortR t)):=.o1 fun hok h1 hp=>w12.c1 hok (j1.h h1) hp
instance  : ConT Tryz.prog 10 [] (True) (BT true):=.o0 fun hok ht  hp=>by
  refine St.enter (N:=75) Tryz.func10 rfl rfl rfl hok enter0 fun a=>?_
  refine W.tab ht ?_
  have x1:=a36_b
  have x3:=a36_e
  have x4:=a36_r
  have x5:=a36_l
  repeat' (first|((with_reducible refine gS_ ?_);first|((with_reducible refine gL_ ?_);first|refine W.run ?_ fun a w G=>?_|refine W.mv fun a w G=>?_|refine W.asg fun a w G=>?_|refine W.bx fun b a w G=>?_|(refine W.nn hK ?_;clear hK K)|refine W.nl ?_|refine W.al fun b a w G=>?_|refine W.st fun w=>?_|refine W.stp fun w=>?_|refine W.ste ?_ fun w=>?_)|((with_reducible refine gC_ ?_);first|refine W.reg fun K hK=>?_|refine W.reg1 ?_|refine W.sq fun K hK=>?_|refine W.ds ?_ (fun β a w G hu=>W.fin ?_ hu) mixedOrders (by kernel_rfl)|refine W.sk ?_|refine W.cd (fun hc=>?_) (fun hc=>?_)|refine W.cb (fun hc=>?_) (fun hc=>?_)|refine W.bl ?_|refine W.ex ?_|refine W.rt ?_)|((with_reducible refine W.kn hK ?_);clear hK K)|(with_reducible first|refine W.bn ?_|refine W.xt ?_|refine W.xb ?_|refine W.xo ?_|refine W.tr ?_|refine W.br ?_)|refine W.rt1 rfl ?_|refine W.rt2 rfl ?_ ?_|refine W.rt3 rfl ?_ ?_ ?_)|clear hK K|clear hu|exact True.intro|exact Nat.le_trans (by clear hp;omega) hp|exact Nat.le_trans (by clear hp;omega) hp.1|exact Nat.le_trans (by clear hp;omega) hp.2|(clear hp;omega)|apply And.intro|refine GI.i fun _=>?_|with_reducible rfl|decide|(simp only [List.length_cons,List.length_nil];omega))
  all_goals (try simp only [a36_ok,a36_d,a36_r,a36_l,a36_e,List.length_cons,List.length_nil] at *)
  all_goals first
    | omega
    | (show (0 : Rat) < 3 / 2;decide +kernel)
    | (show (3 / 2 : Rat).num < 1000000000;decide +kernel)
    | (show (3 / 2 : Rat).den < 1000000000;decide +kernel)
    | decide
    | rfl
    | (rw [a36_b];decide +kernel)
    | skip
end Go.Proofs.YtnjbcjmkkejfpaaGreatDoor
set_option linter.unusedVariables false
set_option linter.unusedSimpArgs false
set_option maxHeartbeats 4000000
set_option maxRecDepth 100000
set_option synthInstance.maxSize 100000
set_option synthInstance.maxHeartbeats 400000
namespace Go.Proofs.YtnjbcjmkkejfpaaGreatDoor
open Go.RowKit (Below)
attribute [local irreducible] Go.Code.wp Go.wpList Go.bodyPost
theorem gi2_0 {s1 s2 : Bool} (h : (s1 && s2) = false) (g : ((!true || !s1) || !s2) = false) : False:=by cases s1 <;> cases s2 <;> simp_all
theorem gi2_1 {s1 s2 A1 : Bool} (h : (s1 && s2) = false) (g : (((!true || !s1) || !s2) || A1) = false) : False:=by cases s1 <;> cases s2 <;> simp_all
theorem long2_2 {s1 s2 A1 A2 : Bool} (h : (s1 && s2) = false) : ((((!true || !s1) || !s2) || A1) || A2) = true:=by cases s1 <;> cases s2 <;> simp_all
attribute [local irreducible] barC trnC btC dirC dirS dsc ouE ouR ouL ouX ouY ouMX ouMY oaE oaR oaL
section
variable {a b c d t : FR} {h : Bool}
end
instance gTO5_3_2 : GcT 3 2 false 2 [3,4,12,13,14,15,16,17,18,19,20,21,22,23]:=⟨⟩
instance gTO5_3_3 : GcT 3 3 false 4 [12,13,14,15,16,17,18,19,20,21,22,23]:=⟨⟩
instance gTO5_3_4 : GcT 3 4 false 25 [26,27,28,29,30,31]:=⟨⟩
instance gTO5_3_7 : GcT 3 7 false 32 [33,34,35,36,37,38,39,40]:=⟨⟩
instance gTO5_3_10 : GcT 3 10 false 2 [3,41,42,58,59,60,61,62,63,64]:=⟨⟩
instance gTO5_3_11 : GcT 3 11 false 5 [6,7,8,9,10,65,66,67,68,69,70,71,72,73,74,75,76,77,78,79,80,81]:=⟨⟩
instance gTO5_3_12 : GcT 3 12 false 5 [7,8,9,65,66,67,68,69,70,71,72,73,74,75,76,77,78,79,80,81]:=⟨⟩
instance gTO5_3_16 : GcT 3 16 false 11 [85,86,87,88,89,90,91,92,93,94,95,96,97,98,99,100,101,102,103,104,105,106,107,108,109,110,111,112,113,114,115,116,117,118,119,120,121,122,123,124,125,126,127,128,129]:=⟨⟩
end Go.Proofs.YtnjbcjmkkejfpaaGreatDoor
namespace Go.Proofs.YtnjbcjmkkejfpaaGreatDoor
open Go.RowKit (Below)
end Go.Proofs.YtnjbcjmkkejfpaaGreatDoor
namespace Go.Proofs.YtnjbcjmkkejfpaaGreatDoor
theorem fr_self {r : FR} (hw : wfl r.p ∧ wfl r.q) (hok : r.ok = true) : FR.of r.val = r:=by
  obtain ⟨s,p,q⟩:=r
  have hw : wfl p ∧ wfl q:=hw
  have hok : qok s p q = true:=hok
  by_cases hp : p.length = 0
  · have e:=List.length_eq_zero_iff.1 hp
    subst e
    have h : qok s [] q = true:=hok
    have hv : FR.val ⟨s,[],q⟩ = 0:=qval_nil rfl
    unfold qok at h
    split at h
    · rename_i k
      obtain rfl:=k.2
      rw [hv]
      have : s = false:=by simpa using h
      subst this
      unfold FR.of dwords
      rw [if_pos rfl,show (0 : Rat).num.natAbs = 0 from rfl,words_zero];rfl
    · simp at h
  · obtain ⟨_,h3,h4,h5,h6⟩:=qval_parts hw hok hp
    have hp0 : val p ≠ 0:=fun e=>ne_of_len hp (val_eq_zero h3 e)
    have hne : FR.val ⟨s,p,q⟩ ≠ 0:=fun e=>by
      have h5' : (FR.val ⟨s,p,q⟩).num = sg s (val p):=h5
      rw [e] at h5'
      have:=congrArg Int.natAbs h5'
      rw [sg_abs] at this;exact hp0 this.symm
    have hs : decide (FR.val ⟨s,p,q⟩ < 0) = s:=by
      have h5' : (FR.val ⟨s,p,q⟩).num = sg s (val p):=h5
      have h7 : FR.val ⟨s,p,q⟩ < 0 ↔ (FR.val ⟨s,p,q⟩).num < 0:=by
        rw [← Rat.not_le,← Rat.num_nonneg];omega
      rw [Bool.eq_iff_iff,decide_eq_true_iff,h7,h5']
      cases s <;> simp [sg] <;> omega
    unfold FR.of dwords
    rw [if_neg hne,hs]
    have e1 : (FR.val ⟨s,p,q⟩).num.natAbs = val p:=(congrArg Int.natAbs h5).trans sg_abs
    have e2 : (FR.val ⟨s,p,q⟩).den = val q:=h6
    rw [e1,e2,words_val hw.1 h3,words_val hw.2 h4]
theorem FX.self {n : Nat} {r : FR} {v : Value} {G : Gh} (h : (FX n r).t v G) (hok : r.ok = true) : (FX n (FR.of r.val)).t v G:=FX.eq h (fr_self (QR.wf (FX.qr h)) hok).symm
theorem FX.inv {n : Nat} {ra rb rc rd : FR} {k : Int} {j : Nat} {v : Value} {G : Gh} (hck : chkF [ra,rb,rc,rd] = 0) (h : (FX n ([ra,rb,rc,rd].getD ((j + md4 k) % 4) default)).t v G) : (FX n (invF [ra,rb,rc,rd] k j)).t v G:=by
  have hp:=chk_pos hck
  unfold invF;rw [if_pos hck]
  refine FX.self h ?_
  have hlt : (j + md4 k) % 4 < [ra,rb,rc,rd].length:=Nat.mod_lt _ (by decide)
  have hm : [ra,rb,rc,rd].getD ((j + md4 k) % 4) default ∈ [ra,rb,rc,rd]:=by
    rw [List.getD_eq_getElem?_getD,List.getElem?_eq_getElem hlt];exact List.getElem_mem hlt
  have:=List.all_eq_true.1 hp _ hm
  unfold posR at this
  exact (Bool.and_eq_true_iff.1 this).1
section
variable {a b c d A B C D : Rat}
end
end Go.Proofs.YtnjbcjmkkejfpaaGreatDoor
set_option linter.unusedVariables false
set_option linter.unusedSimpArgs false
set_option maxHeartbeats 4000000
set_option maxRecDepth 100000
set_option synthInstance.maxSize 100000
set_option synthInstance.maxHeartbeats 400000
namespace Go.Proofs.YtnjbcjmkkejfpaaGreatDoor
open Go.RowKit (Below)
attribute [local irreducible] Go.Code.wp Go.wpList Go.bodyPost
attribute [local irreducible] barC trnC btC dirC dirS dsc ouE ouR ouL ouX ouY ouMX ouMY oaE oaR oaL okV quF
section
variable {g a b c t : FR} {h : Bool}
theorem quF_0 (hb : barC [g,a,b,c] = 0) : quF [g,a,b,c] 0 = FR.of (g.val * g.val) ∧ quF [g,a,b,c] 1 = FR.of (a.val * a.val) ∧ quF [g,a,b,c] 2 = FR.of b.val ∧ quF [g,a,b,c] 3 = FR.of c.val:=by
  unfold quF;simp only [if_pos hb];exact ⟨rfl,rfl,rfl,rfl⟩
end
instance gTO6_4_2 : GcT 4 2 false 2 [3,4,14,15,16,17,18,19,20,21,22,23,24,25]:=⟨⟩
instance gTO6_4_3 : GcT 4 3 false 4 [14,15,16,17,18,19,20,21,22,23,24,25]:=⟨⟩
instance gTO6_4_5 : GcT 4 5 false 27 [28,29,30,31,32,33,34,35,36,37]:=⟨⟩
instance gTO6_4_6 : GcT 4 6 false 38 [39,40,41,42,43]:=⟨⟩
instance gTO6_4_8 : GcT 4 8 false 2 [3,5,6,7,8,9,10,11,44,45,46,47,48,49,50]:=⟨⟩
instance gTO6_4_9 : GcT 4 9 false 44 [45,46,47,48,49,50]:=⟨⟩
instance gTO6_4_13 : GcT 4 13 false 2 [3,5,6,7,8,9,10,11,12,51,52,86,87,88,89,90,91,92,93,94,95,96,97,98,99,100,101,102,103,104,105,106,107,108,109,110,111,112,113,114,115,116,117,118,119,120,121]:=⟨⟩
instance gTO6_4_14 : GcT 4 14 false 5 [6,11,12,51,52,86,87,88,89,90,91,92,93,94,95,96,97,98,99,100,101,102,103,104,105,106,107,108,109,110,111,112,113,114,115,116,117,118,119,120,121]:=⟨⟩
instance gTO6_4_17 : GcT 4 17 false 122 [123,124,142,143,144]:=⟨⟩
end Go.Proofs.YtnjbcjmkkejfpaaGreatDoor
set_option linter.unusedVariables false
set_option linter.unusedSimpArgs false
set_option maxHeartbeats 4000000
set_option maxRecDepth 100000
set_option synthInstance.maxSize 100000
set_option synthInstance.maxHeartbeats 400000
namespace Go.Proofs.YtnjbcjmkkejfpaaGreatDoor
open Go.RowKit (Below)
attribute [local irreducible] Go.Code.wp Go.wpList Go.bodyPost
attribute [local irreducible] barC trnC btC dirC dirS dsc ouE ouR ouL ouX ouY ouMX ouMY oaE oaR oaL okV quF
def hoB (g a b c : FR) (h : Bool) (t x y : Rat) : Bool:=decide (cmpQ (d2F (x - a.val * dirC h t) (y - a.val * dirS h t)) b.val = 0) && decide (cmpQ (d2F (x - g.val) y) c.val = 0)
def hoC (l : List FR) (h : Bool) (t x y : FR) : Int:=if btC l h t = 0 then (if (x.ok && y.ok) = true then 0 else 2) else btC l h t
section
variable {l : List FR} {h : Bool} {t x y : FR}
end
def plR (x : FR × FR) : MT:=PTS [(some 3,RX x.1),(some 3,RX x.2)]
instance {x : FR × FR} : Shp (plR x) (some 6):=⟨fun h=>PTS.shaped rfl h⟩
instance (priority:=800) Prt.plr {x : FR × FR} {i : Nat} {kt : Option Nat} {τ : MT} [h : PrtL [(some 3,RX x.1),(some 3,RX x.2)] i kt τ] : Prt (plR x) i kt τ:=(inferInstance : Prt (PTS [(some 3,RX x.1),(some 3,RX x.2)]) i kt τ)
instance {r s : FR} : AsT (PTS [(some 3,RX r),(some 3,RX s)]) plR (r,s):=⟨fun h=>h⟩
instance {n : Nat} {r s : FR} : AsT (PTS [(some 3,FX n r),(some 3,FX n s)]) plR (r,s):=⟨fun h=>NR.h h⟩
instance NR.plr {τs : List MT} {xs : List (FR × FR)} [h : AsTL τs plR xs] : NR (LSC (some 6) τs) (LS (some 6) (xs.map plR)):=⟨fun hv=>h.ls hv.1⟩
def poK (b c : FR) : Rat:=4 * (b.val * c.val)
def poU (g a b c : FR) : Rat:=b.val + c.val - (g.val - a.val) * (g.val - a.val)
def poV (g a b c : FR) : Rat:=b.val + c.val - (g.val + a.val) * (g.val + a.val)
def poL (g a b c : FR) : List Rat:=[poK b c - poU g a b c * poU g a b c,0,2 * poK b c - 2 * (poU g a b c * poV g a b c),0,poK b c - poV g a b c * poV g a b c]
def poP (g a b c : FR) : List Rat:=if barC [g,a,b,c] = 0 then poL g a b c else []
attribute [local irreducible] hoB hoC poL poP
instance gTO7_5_2 : GcT 5 2 false 3 [4,5,6,19,20,21,22,23,24,25,26,27,28,29,30,31,32,33,34,35,36]:=⟨⟩
instance gTO7_5_3 : GcT 5 3 false 6 [19,20,21,22,23,24,25,26,27,28,29,30,31,32,33,34,35,36]:=⟨⟩
instance gTO7_5_4 : GcT 5 4 false 38 [39,40,41,42,43,44,45]:=⟨⟩
instance gTO7_5_5 : GcT 5 5 false 46 [47,48,49,50,51,52]:=⟨⟩
instance gTO7_5_7 : GcT 5 7 false 53 [54,55,56,57,58,59]:=⟨⟩
instance gTO7_5_8 : GcT 5 8 false 3 [4,5,8,9,60,61]:=⟨⟩
instance gTO7_5_10 : GcT 5 10 false 3 [4,5,7,8,9,10,11,12,13,14,15,60,61,92,93,94,95,96,97,98,99,100]:=⟨⟩
instance gTO7_5_11 : GcT 5 11 false 13 [14,15,60,61,92,93,94,95,96,97,98,99,100]:=⟨⟩
instance gTO7_5_12 : GcT 5 12 false 3 [4,5,7,8,101,102,103]:=⟨⟩
instance gTO7_5_14 : GcT 5 14 false 101 [102,103,119,120,121,122,123,124,125]:=⟨⟩
instance gTO7_5_15 : GcT 5 15 false 3 [4,5,7,8,9,10,11,12,16,17,18,126,127,128,129,130,131,132,133,134,135,136,137,138,139,140,141,142,143,144,145]:=⟨⟩
instance gTO7_5_16 : GcT 5 16 false 7 [8,9,10,16,17,18,126,127,128,129,130,131,132,133,134,135,136,137,138,139,140,141,142,143,144,145]:=⟨⟩
instance gTO7_5_17 : GcT 5 17 false 3 [4,5,146,147,148]:=⟨⟩
end Go.Proofs.YtnjbcjmkkejfpaaGreatDoor
set_option linter.unusedVariables false
set_option linter.unusedSimpArgs false
set_option maxHeartbeats 4000000
set_option maxRecDepth 100000
set_option synthInstance.maxSize 100000
set_option synthInstance.maxHeartbeats 400000
namespace Go.Proofs.YtnjbcjmkkejfpaaGreatDoor
open Go.RowKit (Below)
attribute [local irreducible] Go.Code.wp Go.wpList Go.bodyPost
section
variable {g a b c : FR} {h : Bool} {t : Rat}
end
section
variable {g a b c : FR} {h : Bool} {t : Rat}
end
end Go.Proofs.YtnjbcjmkkejfpaaGreatDoor
set_option linter.unusedVariables false
set_option linter.unusedSimpArgs false
set_option maxHeartbeats 4000000
set_option maxRecDepth 100000
set_option synthInstance.maxSize 100000
set_option synthInstance.maxHeartbeats 400000
namespace Go.Proofs.YtnjbcjmkkejfpaaGreatDoor
open Go.RowKit (Below)
attribute [local irreducible] Go.Code.wp Go.wpList Go.bodyPost
def limN (y u : Rat) : List Rat:=[0,y,0,u]
def limA (g a b c : FR) : Rat:=(g.val + a.val - (b.val + c.val)) / (2 * (a.val * g.val))
def limI (g a b c : FR) (u : Rat) : Bool:=decide (surdsF (-1) (limA g a b c) (a.val * g.val) u (a.val * g.val * (b.val * c.val)) ≤ 0) && decide (surdsF 1 (limA g a b c) (a.val * g.val) u (a.val * g.val * (b.val * c.val)) ≥ 0)
def limK (g a : FR) : List Rat:=[-(1 / (a.val * g.val)),1 / (a.val * g.val)]
def limJ (g a b c : FR) (j : Nat) : List (List Rat):=(((limK g a).take j).filter fun u=>limI g a b c u).map fun u=>limN (limA g a b c) u
def limL (g a b c : FR) : List (List Rat):=if chkF [g,a,b,c] = 0 then limJ g a b c 2 else []
theorem LSC.nm {b c : Nat} {l : List Rat} {v : Value} {G : Gh} (h : (LSC none [NM b l]).t v G) (e : b ≤ c) : (LSC none [NM c l]).t v G:=⟨LS.els h.1 rfl fun i τ σ h1 h2 _ hv=>by
  match i,h1,h2 with
  | 0,h1,h2=>cases h1;cases h2;exact NM.up hv e,h.2⟩
instance AsT.nm {b : Nat} {l : List Rat} : AsT (NM b l) (NM b) l:=⟨fun h=>h⟩
attribute [local irreducible] plusF minusF joinF levI lev PW RLN tB sB timesF stepF tmF normF TOK sgL surdsF chkF nearF farF gapC fullF
attribute [local irreducible] limJ limL limI
end Go.Proofs.YtnjbcjmkkejfpaaGreatDoor
namespace Go.Proofs.YtnjbcjmkkejfpaaGreatDoor
def perms4 : List (List Nat):=[[0,1,2,3],[0,1,3,2],[0,2,1,3],[0,2,3,1],[0,3,1,2],[0,3,2,1],[1,0,2,3],[1,0,3,2],[1,2,0,3],[1,2,3,0],[1,3,0,2],[1,3,2,0],[2,0,1,3],[2,0,3,1],[2,1,0,3],[2,1,3,0],[2,3,0,1],[2,3,1,0],[3,0,1,2],[3,0,2,1],[3,1,0,2],[3,1,2,0],[3,2,0,1],[3,2,1,0]]
theorem perm4 {i j k m : Nat} (h : [i,j,k,m].Perm [0,1,2,3]) : [i,j,k,m] ∈ perms4:=by
  have hm : ∀ x ∈ [i,j,k,m],x < 4:=fun x hx=>by
    have:=h.mem_iff.1 hx
    simp at this;omega
  have all : ∀ i,i < 4 → ∀ j,j < 4 → ∀ k,k < 4 → ∀ m,m < 4 → [i,j,k,m].isPerm [0,1,2,3] = true → perms4.contains [i,j,k,m] = true:=by decide +kernel
  have:=all i (hm i (by simp)) j (hm j (by simp)) k (hm k (by simp)) m (hm m (by simp)) (List.isPerm_iff.2 h)
  simpa using this
end Go.Proofs.YtnjbcjmkkejfpaaGreatDoor
namespace Go.Proofs.YtnjbcjmkkejfpaaGreatDoor
open Go.RowKit (Below)
attribute [local irreducible] rotQ compareF befR
end Go.Proofs.YtnjbcjmkkejfpaaGreatDoor
namespace Go.Proofs.YtnjbcjmkkejfpaaGreatDoor
open Go.RowKit (Below)
theorem vget (l : List FR) (j : Nat) : (l.map FR.val).getD j default = (l.getD j default).val:=by
  rw [List.getD_eq_getElem?_getD,List.getD_eq_getElem?_getD,List.getElem?_map]
  cases l[j]? with
  | none=>exact val_default.symm
  | some z=>rfl
theorem lk_get (l : List FR) (j : Nat) : lk l j = (l.map FR.val).getD ((orderF (l.map FR.val)).getD j default) default:=by rw [vget];rfl
end Go.Proofs.YtnjbcjmkkejfpaaGreatDoor
namespace Go.Proofs.YtnjbcjmkkejfpaaGreatDoor
open Go.RowKit (Below)
def invQ (l : List FR) (k : Int) : List FR:=[invF l k 0,invF l k 1,invF l k 2,invF l k 3]
theorem inv_pos {l : List FR} {k : Int} (h : chkF l = 0) (hl : l.length = 4) : (invQ l k).all posR = true:=by
  have hp:=chk_pos h
  have : ∀ j,posR (invF l k j) = true:=fun j=>by
    unfold invF;rw [if_pos h,posR_of4]
    have hlt : (j + md4 k) % 4 < l.length:=by rw [hl];exact Nat.mod_lt _ (by decide)
    refine decide_eq_true (posR_val (List.all_eq_true.1 hp _ ?_))
    rw [List.getD_eq_getElem?_getD,List.getElem?_eq_getElem hlt];exact List.getElem_mem hlt
  unfold invQ;simp [this]
end Go.Proofs.YtnjbcjmkkejfpaaGreatDoor
namespace Go.Proofs.YtnjbcjmkkejfpaaGreatDoor
end Go.Proofs.YtnjbcjmkkejfpaaGreatDoor
set_option linter.unusedVariables false
set_option linter.unusedSimpArgs false
namespace Go.Proofs.YtnjbcjmkkejfpaaGreatDoor
def nearR (x : Rat) (u v : RR) (k : Rat) : RR:=RR.of x + RR.of (-(2 * k)) * u + RR.of 2 * v
theorem rt_sub {x : Rat} {u v : RR} {k m : Rat} : nearR x u v k - nearR x u v m = RR.of (2 * (m - k)) * u:=by
  unfold nearR
  obtain ⟨f,hf,rfl⟩:=RR.rep u;obtain ⟨g,hg,rfl⟩:=RR.rep v
  exact RR.ext fun n=>by grind
theorem near_R {g a b c : FR} (h : [g,a,b,c].all posR = true) (k : Rat) : nearF g a b c k = sgR (nearR (g.val + a.val - (b.val + c.val)) (rt (a.val * g.val)) (rt (b.val * c.val)) k):=surds_sg (pos_nn h).1 (pos_nn h).2
theorem far_R {g a b c : FR} (h : [g,a,b,c].all posR = true) (k : Rat) : farF g a b c k = sgR (nearR (-(g.val + a.val - (b.val + c.val))) (rt (a.val * g.val)) (rt (b.val * c.val)) (-k)):=by
  unfold farF nearR
  rw [show -(g.val + a.val - (b.val + c.val)) = b.val + c.val - (g.val + a.val) by grind,show -(2 * -k) = 2 * k by grind]
  exact surds_sg (pos_nn h).1 (pos_nn h).2
theorem nearR_anti {x : Rat} {u v : RR} (hu : 0 ≤ u) {k m : Rat} (hk : k ≤ m) : sgR (nearR x u v m) ≤ sgR (nearR x u v k):=by
  refine sgR_mono ?_
  rw [RR.le_iff_sub,rt_sub]
  exact RR.mul_nn (RR.of_le (p:=0) |>.2 (by grind)) hu
theorem near_anti {g a b c : FR} (h : [g,a,b,c].all posR = true) {k m : Rat} (hk : k ≤ m) : nearF g a b c m ≤ nearF g a b c k:=by
  rw [near_R h,near_R h];exact nearR_anti (rt_nn _) hk
theorem far_mono {g a b c : FR} (h : [g,a,b,c].all posR = true) {k m : Rat} (hk : k ≤ m) : farF g a b c k ≤ farF g a b c m:=by
  rw [far_R h,far_R h];exact nearR_anti (rt_nn _) (by grind)
def nearV (g a b c k : Rat) : Int:=surdsF (g + a - (b + c)) (-(2 * k)) (a * g) 2 (b * c)
def farV (g a b c k : Rat) : Int:=surdsF (b + c - (g + a)) (2 * k) (a * g) 2 (b * c)
theorem nearV_s2 {g a b c k : Rat} : nearV g a b c k = nearV g a c b k:=by unfold nearV;rw [Rat.add_comm b c,Rat.mul_comm b c]
theorem farV_s1 {g a b c k : Rat} : farV g a b c k = farV a g b c k:=by unfold farV;rw [Rat.add_comm g a,Rat.mul_comm a g]
section
variable {g a b c : Rat}
theorem of_4 (hg : 0 ≤ g) (ha : 0 ≤ a) (hb : 0 ≤ b) (hc : 0 ≤ c) : RR.of (g + a - (b + c)) = rt g * rt g + rt a * rt a - (rt b * rt b + rt c * rt c):=by
  rw [rt_sq hg,rt_sq ha,rt_sq hb,rt_sq hc,RR.of_sub,RR.of_add,RR.of_add]
end
theorem sum4 {R : Nat → RR} {i j k m : Nat} (hp : [i,j,k,m].Perm [0,1,2,3]) : R i + R j + R k + R m = R 0 + R 1 + R 2 + R 3:=by
  have hm:=perm4 hp
  simp only [perms4,List.mem_cons,List.not_mem_nil,or_false,List.cons.injEq,and_true] at hm
  haveI : Std.Commutative (α:=RR) (· + ·):=⟨RR.add_comm⟩
  haveI : Std.Associative (α:=RR) (· + ·):=⟨RR.add_assoc⟩
  clear hp
  rcases hm with ⟨rfl,rfl,rfl,rfl⟩ | ⟨rfl,rfl,rfl,rfl⟩ | ⟨rfl,rfl,rfl,rfl⟩ | ⟨rfl,rfl,rfl,rfl⟩ | ⟨rfl,rfl,rfl,rfl⟩ | ⟨rfl,rfl,rfl,rfl⟩ | ⟨rfl,rfl,rfl,rfl⟩ | ⟨rfl,rfl,rfl,rfl⟩ | ⟨rfl,rfl,rfl,rfl⟩ | ⟨rfl,rfl,rfl,rfl⟩ | ⟨rfl,rfl,rfl,rfl⟩ | ⟨rfl,rfl,rfl,rfl⟩ | ⟨rfl,rfl,rfl,rfl⟩ | ⟨rfl,rfl,rfl,rfl⟩ | ⟨rfl,rfl,rfl,rfl⟩ | ⟨rfl,rfl,rfl,rfl⟩ | ⟨rfl,rfl,rfl,rfl⟩ | ⟨rfl,rfl,rfl,rfl⟩ | ⟨rfl,rfl,rfl,rfl⟩ | ⟨rfl,rfl,rfl,rfl⟩ | ⟨rfl,rfl,rfl,rfl⟩ | ⟨rfl,rfl,rfl,rfl⟩ | ⟨rfl,rfl,rfl,rfl⟩ | ⟨rfl,rfl,rfl,rfl⟩
  all_goals ac_rfl
theorem half4 {p q r x s : RR} (h : x + x ≤ s) (e : s = p + q + r + x) : x ≤ p + q + r:=by
  rw [RR.le_iff_sub] at h ⊢
  have : p + q + r - x = s - (x + x):=by
    subst e
    obtain ⟨f,hf,rfl⟩:=RR.rep p;obtain ⟨f1,hf1,rfl⟩:=RR.rep q;obtain ⟨f2,hf2,rfl⟩:=RR.rep r;obtain ⟨f3,hf3,rfl⟩:=RR.rep x
    exact RR.ext fun n=>by grind
  rwa [this]
theorem rt_pos {x : Rat} (h : 0 < x) : 0 < rt x:=by
  refine RR.lt_of_ne (rt_nn x) fun e=>?_
  have h2:=rt_sq (Rat.le_of_lt h)
  rw [← e,RR.mul_zero] at h2
  have:=RR.of_inj (p:=0) |>.1 h2
  grind
end Go.Proofs.YtnjbcjmkkejfpaaGreatDoor
set_option linter.unusedVariables false
set_option linter.unusedSimpArgs false
namespace Go.Proofs.YtnjbcjmkkejfpaaGreatDoor
theorem four_swap {p q r x : RR} (h : x ≤ p + q + r) : x + x ≤ p + q + r + x:=RR.add_le_add_right h _
theorem le_chk {l : List FR} (hp : l.all posR = true) (h : ∀ t,t < 4 → rt ((l.map FR.val).getD t default) + rt ((l.map FR.val).getD t default) ≤ rt ((l.map FR.val).getD 0 default) + rt ((l.map FR.val).getD 1 default) + rt ((l.map FR.val).getD 2 default) + rt ((l.map FR.val).getD 3 default)) : chkF l = 0:=by
  have hn : ∀ q,0 ≤ (l.map FR.val).getD q default:=fun q=>by rw [vget];exact vals_pos hp q
  obtain ⟨i,j,k,m,e,hpm,b1,b2,b3⟩:=order_ok (l.map FR.val)
  have h3:=bef_le b3
  have hm4 : m < 4:=by have : m ∈ [0,1,2,3]:=hpm.mem_iff.1 (by simp);simp at this;omega
  have hc : closesF (lk l 3) (lk l 0) (lk l 1) (lk l 2) = true:=by
    simp only [lk_get,e]
    refine (closes_iff (hn m) (hn i) (hn j) (hn k) h3).2 ?_
    have hs:=h m hm4
    rw [← sum4 (R:=fun x=>rt ((l.map FR.val).getD x default)) hpm] at hs
    exact half4 hs rfl
  unfold chkF
  rw [if_pos hp,if_pos hc]
section
variable {g a b c : Rat}
theorem near_m1i (hg : 0 ≤ g) (ha : 0 ≤ a) (hb : 0 ≤ b) (hbc : b ≤ c) (h : nearV g a b c (-1) ≥ 0) : rt c ≤ rt g + rt a + rt b:=by
  have hc : 0 ≤ c:=by grind
  unfold nearV at h
  rw [surds_sg (Rat.mul_nonneg ha hg) (Rat.mul_nonneg hb hc),rt_mul ha hg,rt_mul hb hc,of_4 hg ha hb hc] at h
  have e : rt g * rt g + rt a * rt a - (rt b * rt b + rt c * rt c) + RR.of (-(2 * -1)) * (rt a * rt g) + RR.of 2 * (rt b * rt c) = (rt g + rt a) * (rt g + rt a) - (rt c - rt b) * (rt c - rt b):=by
    generalize rt a = A;generalize rt g = D;generalize rt b = B;generalize rt c = C
    obtain ⟨f,hf,rfl⟩:=RR.rep A;obtain ⟨f1,hf1,rfl⟩:=RR.rep D;obtain ⟨f2,hf2,rfl⟩:=RR.rep B;obtain ⟨f3,hf3,rfl⟩:=RR.rep C
    exact RR.ext fun n=>by grind
  have e2 : (rt g + rt a) - (rt c - rt b) = (rt g + rt a + rt b) - rt c:=by
    generalize rt a = A;generalize rt g = D;generalize rt b = B;generalize rt c = C
    obtain ⟨f,hf,rfl⟩:=RR.rep A;obtain ⟨f1,hf1,rfl⟩:=RR.rep D;obtain ⟨f2,hf2,rfl⟩:=RR.rep B;obtain ⟨f3,hf3,rfl⟩:=RR.rep C
    exact RR.ext fun n=>by grind
  rw [e,← sgR_sq (RR.add_nn (rt_nn _) (rt_nn _)) (RR.le_iff_sub.1 (rt_le hb hbc)),e2] at h
  exact sgR_ge.1 h
theorem far_p1i (hg : 0 ≤ g) (hga : g ≤ a) (hb : 0 ≤ b) (hc : 0 ≤ c) (h : farV g a b c 1 ≥ 0) : rt a ≤ rt b + rt c + rt g:=by
  have ha : 0 ≤ a:=by grind
  unfold farV at h
  rw [surds_sg (Rat.mul_nonneg ha hg) (Rat.mul_nonneg hb hc),rt_mul ha hg,rt_mul hb hc,of_4 hb hc hg ha] at h
  have e : rt b * rt b + rt c * rt c - (rt g * rt g + rt a * rt a) + RR.of (2 * 1) * (rt a * rt g) + RR.of 2 * (rt b * rt c) = (rt b + rt c) * (rt b + rt c) - (rt a - rt g) * (rt a - rt g):=by
    generalize rt a = A;generalize rt g = D;generalize rt b = B;generalize rt c = C
    obtain ⟨f,hf,rfl⟩:=RR.rep A;obtain ⟨f1,hf1,rfl⟩:=RR.rep D;obtain ⟨f2,hf2,rfl⟩:=RR.rep B;obtain ⟨f3,hf3,rfl⟩:=RR.rep C
    exact RR.ext fun n=>by grind
  have e2 : (rt b + rt c) - (rt a - rt g) = (rt b + rt c + rt g) - rt a:=by
    generalize rt a = A;generalize rt g = D;generalize rt b = B;generalize rt c = C
    obtain ⟨f,hf,rfl⟩:=RR.rep A;obtain ⟨f1,hf1,rfl⟩:=RR.rep D;obtain ⟨f2,hf2,rfl⟩:=RR.rep B;obtain ⟨f3,hf3,rfl⟩:=RR.rep C
    exact RR.ext fun n=>by grind
  rw [e,← sgR_sq (RR.add_nn (rt_nn _) (rt_nn _)) (RR.le_iff_sub.1 (rt_le hg hga)),e2] at h
  exact sgR_ge.1 h
theorem le_more {p q x y : RR} (hp : 0 ≤ p) (hq : 0 ≤ q) (h : x ≤ y) : x ≤ p + q + y:=by
  rw [RR.le_iff_sub] at h ⊢
  have e : p + q + y - x = (p + q) + (y - x):=by
    obtain ⟨f,hf,rfl⟩:=RR.rep p;obtain ⟨f1,hf1,rfl⟩:=RR.rep q;obtain ⟨f2,hf2,rfl⟩:=RR.rep x;obtain ⟨f3,hf3,rfl⟩:=RR.rep y
    exact RR.ext fun n=>by grind
  rw [e];exact RR.add_nn (RR.add_nn hp hq) h
end
theorem near_far_chk {g a b c : FR} (hp : [g,a,b,c].all posR = true) (h1 : nearF g a b c (-1) ≥ 0) (h2 : farF g a b c 1 ≥ 0) : chkF [g,a,b,c] = 0:=by
  have hq:=hp
  simp only [List.all_cons,List.all_nil,Bool.and_true,Bool.and_eq_true] at hq
  have p0:=Rat.le_of_lt (posR_val hq.1);have p1:=Rat.le_of_lt (posR_val hq.2.1);have p2:=Rat.le_of_lt (posR_val hq.2.2.1);have p3:=Rat.le_of_lt (posR_val hq.2.2.2)
  have n1 : nearV g.val a.val b.val c.val (-1) ≥ 0:=h1
  have n2 : farV g.val a.val b.val c.val 1 ≥ 0:=h2
  have r0:=rt_nn g.val;have r1:=rt_nn a.val;have r2:=rt_nn b.val;have r3:=rt_nn c.val
  haveI : Std.Commutative (α:=RR) (· + ·):=⟨RR.add_comm⟩
  haveI : Std.Associative (α:=RR) (· + ·):=⟨RR.add_assoc⟩
  have k1 : rt c.val ≤ rt g.val + rt a.val + rt b.val ∧ rt b.val ≤ rt g.val + rt a.val + rt c.val:=by
    rcases Rat.le_total (a:=b.val) (b:=c.val) with k | k
    · exact ⟨near_m1i p0 p1 p2 k n1,le_more r0 r1 (rt_le p2 k)⟩
    · rw [nearV_s2] at n1
      exact ⟨le_more r0 r1 (rt_le p3 k),near_m1i p0 p1 p3 k n1⟩
  have k2 : rt a.val ≤ rt b.val + rt c.val + rt g.val ∧ rt g.val ≤ rt b.val + rt c.val + rt a.val:=by
    rcases Rat.le_total (a:=g.val) (b:=a.val) with k | k
    · exact ⟨far_p1i p0 k p2 p3 n2,le_more r2 r3 (rt_le p0 k)⟩
    · rw [farV_s1] at n2
      exact ⟨le_more r2 r3 (rt_le p1 k),far_p1i p1 k p2 p3 n2⟩
  refine le_chk hp fun t ht=>?_
  match t,ht with
  | 0,_=>show rt g.val + rt g.val ≤ rt g.val + rt a.val + rt b.val + rt c.val;rw [show rt g.val + rt a.val + rt b.val + rt c.val = rt b.val + rt c.val + rt a.val + rt g.val by ac_rfl];exact four_swap k2.2
  | 1,_=>show rt a.val + rt a.val ≤ rt g.val + rt a.val + rt b.val + rt c.val;rw [show rt g.val + rt a.val + rt b.val + rt c.val = rt b.val + rt c.val + rt g.val + rt a.val by ac_rfl];exact four_swap k2.1
  | 2,_=>show rt b.val + rt b.val ≤ rt g.val + rt a.val + rt b.val + rt c.val;rw [show rt g.val + rt a.val + rt b.val + rt c.val = rt g.val + rt a.val + rt c.val + rt b.val by ac_rfl];exact four_swap k1.2
  | 3,_=>show rt c.val + rt c.val ≤ rt g.val + rt a.val + rt b.val + rt c.val;exact four_swap k1.1
theorem can_chk {g a b c : FR} (hp : [g,a,b,c].all posR = true) {k : Rat} (k1 : -1 ≤ k) (k2 : k ≤ 1) (h1 : nearF g a b c k ≥ 0) (h2 : farF g a b c k ≥ 0) : chkF [g,a,b,c] = 0:=by
  have:=near_anti hp k1;have:=far_mono hp k2
  exact near_far_chk hp (by omega) (by omega)
theorem dir_one {h : Bool} {t : Rat} : dirC h t * dirC h t + dirS h t * dirS h t = 1:=by
  unfold dirC dirS
  cases h with
  | true=>rw [if_pos rfl,if_pos rfl];decide +kernel
  | false =>
    rw [if_neg (by decide),if_neg (by decide)]
    have hd:=one_sq t
    generalize hD : 1 + t * t = D at *
    have e1 : (1 - t * t) / D * ((1 - t * t) / D) + (t + t) / D * ((t + t) / D) = ((1 - t * t) * (1 - t * t) + (t + t) * (t + t)) / (D * D):=by grind
    rw [e1,show (1 - t * t) * (1 - t * t) + (t + t) * (t + t) = D * D by rw [← hD];grind]
    rw [Rat.div_def];exact Rat.mul_inv_cancel _ (by intro e;rcases Rat.mul_eq_zero.1 e with e | e <;> exact hd e)
theorem dir_rng {h : Bool} {t : Rat} : -1 ≤ dirC h t ∧ dirC h t ≤ 1:=by
  have h1:=dir_one (h:=h) (t:=t)
  have sq : ∀ z : Rat,0 ≤ z * z:=fun z=>by
    rcases (Rat.le_total : 0 ≤ z ∨ z ≤ 0) with h | h
    · exact Rat.mul_nonneg h h
    · have:=Rat.mul_nonneg (show 0 ≤ -z by grind) (show 0 ≤ -z by grind);grind
  have h2:=sq (dirS h t)
  generalize dirC h t = x at *
  generalize dirS h t = y at *
  constructor
  · apply Classical.byContradiction;intro e
    have:=Rat.mul_pos (show 0 < -1 - x by grind) (show 0 < -1 - x by grind);grind
  · apply Classical.byContradiction;intro e
    have:=Rat.mul_pos (show 0 < x - 1 by grind) (show 0 < x - 1 by grind);grind
theorem way_cos {g a t : Rat} {h : Bool} : d2F (wayX g a h t) (wayY a h t) = g * g + a * a - 2 * dirC h t * (g * a):=by
  have h1:=dir_one (h:=h) (t:=t)
  unfold d2F wayX wayY
  generalize dirC h t = x at *
  generalize dirS h t = y at *
  have : a * a * (x * x + y * y) = a * a:=by rw [h1];grind
  grind
theorem sqF_pos {g a b c : FR} (hb : [g,a,b,c].all posR = true) : (sqF g a b c).all posR = true:=by
  simp only [List.all_cons,List.all_nil,Bool.and_true,Bool.and_eq_true] at hb
  have h1:=posR_val hb.1;have h2:=posR_val hb.2.1;have h3:=posR_val hb.2.2.1;have h4:=posR_val hb.2.2.2
  simp only [sqF,List.all_cons,List.all_nil,posR_of4,Bool.and_true,Bool.and_eq_true,decide_eq_true_eq]
  exact ⟨Rat.mul_pos h1 h1,Rat.mul_pos h2 h2,h3,h4⟩
theorem dsc_sg {g a b c : FR} (hb : [g,a,b,c].all posR = true) {h : Bool} {t : Rat} : (dsc g a b c h t).num.sign = nearF (FR.of (g.val * g.val)) (FR.of (a.val * a.val)) (FR.of b.val) (FR.of c.val) (dirC h t) * farF (FR.of (g.val * g.val)) (FR.of (a.val * a.val)) (FR.of b.val) (FR.of c.val) (dirC h t):=by
  have hs:=sqF_pos hb
  simp only [List.all_cons,List.all_nil,Bool.and_true,Bool.and_eq_true] at hb
  have h1:=Rat.le_of_lt (posR_val hb.1);have h2:=Rat.le_of_lt (posR_val hb.2.1);have h3:=Rat.le_of_lt (posR_val hb.2.2.1);have h4:=Rat.le_of_lt (posR_val hb.2.2.2)
  rw [near_R hs,far_R hs,← sgR_mul,← sgR_of]
  congr 1
  simp only [FR.of_val]
  unfold dsc discF nearR
  rw [way_cos,rt_mul (Rat.mul_nonneg h2 h2) (Rat.mul_nonneg h1 h1),rt_c h1,rt_c h2]
  have e : RR.of (4 * (b.val * c.val) - (b.val + c.val - (g.val * g.val + a.val * a.val - 2 * dirC h t * (g.val * a.val))) * (b.val + c.val - (g.val * g.val + a.val * a.val - 2 * dirC h t * (g.val * a.val)))) = RR.of 4 * (rt (b.val * c.val) * rt (b.val * c.val)) - RR.of ((b.val + c.val - (g.val * g.val + a.val * a.val - 2 * dirC h t * (g.val * a.val))) * (b.val + c.val - (g.val * g.val + a.val * a.val - 2 * dirC h t * (g.val * a.val)))):=by
    rw [rt_sq (Rat.mul_nonneg h3 h4),← RR.of_mul,← RR.of_sub]
  rw [e]
  generalize rt (b.val * c.val) = X
  generalize dirC h t = k
  obtain ⟨f,hf,rfl⟩:=RR.rep X
  exact RR.ext fun n=>by grind
end Go.Proofs.YtnjbcjmkkejfpaaGreatDoor
set_option linter.unusedVariables false
set_option linter.unusedSimpArgs false
set_option maxHeartbeats 4000000
set_option maxRecDepth 100000
set_option synthInstance.maxSize 100000
set_option synthInstance.maxHeartbeats 400000
namespace Go.Proofs.YtnjbcjmkkejfpaaGreatDoor
open Go.RowKit (Below)
attribute [local irreducible] Go.Code.wp Go.wpList Go.bodyPost
section
variable {g a b c : FR} {h : Bool} {t : Rat}
theorem nf_sum8 {x : Rat} {u v : RR} {k : Rat} : nearR x u v k + nearR (-x) u v (-k) = RR.of 4 * v:=by
  unfold nearR
  obtain ⟨f,hf,rfl⟩:=RR.rep u;obtain ⟨g,hg,rfl⟩:=RR.rep v
  exact RR.ext fun n=>by grind
def qG (g : FR) : FR:=FR.of (g.val * g.val)
theorem nf_one {G A B C : FR} (hp : [G,A,B,C].all posR = true) {k : Rat} : ¬ (nearF G A B C k ≤ 0 ∧ farF G A B C k ≤ 0):=by
  rintro ⟨h1,h2⟩
  rw [near_R hp] at h1
  rw [far_R hp] at h2
  have hs:=nf_sum8 (x:=G.val + A.val - (B.val + C.val)) (u:=rt (A.val * G.val)) (v:=rt (B.val * C.val)) (k:=k)
  have hb : 0 < B.val * C.val:=by
    simp only [List.all_cons,List.all_nil,Bool.and_true,Bool.and_eq_true] at hp
    exact Rat.mul_pos (posR_val hp.2.2.1) (posR_val hp.2.2.2)
  have hpos : 0 < RR.of 4 * rt (B.val * C.val):=RR.mul_pos (RR.of_lt (p:=0) |>.2 (by decide)) (rt_pos hb)
  rw [← hs] at hpos
  have n1 : ∀ x : RR,sgR x ≤ 0 → 0 ≤ -x:=fun x hx=>by
    rw [← sgR_nn,sgR_negate];omega
  have e:=RR.add_nn (n1 _ h1) (n1 _ h2)
  generalize nearR (G.val + A.val - (B.val + C.val)) (rt (A.val * G.val)) (rt (B.val * C.val)) k = X at *
  generalize nearR (-(G.val + A.val - (B.val + C.val))) (rt (A.val * G.val)) (rt (B.val * C.val)) (-k) = Y at *
  have e2 : -X + -Y = -(X + Y):=by obtain ⟨f,hf,rfl⟩:=RR.rep X;obtain ⟨f1,hf1,rfl⟩:=RR.rep Y;exact RR.ext fun n=>by grind
  rw [e2] at e
  have h5:=sgR_pos hpos
  have h6:=sgR_nn.2 e
  rw [sgR_negate] at h6
  omega
theorem bar_nf (hb : [g,a,b,c].all posR = true) (hn : nearF (qG g) (qG a) (FR.of b.val) (FR.of c.val) (dirC h t) < 0 ∨ farF (qG g) (qG a) (FR.of b.val) (FR.of c.val) (dirC h t) < 0) : (dsc g a b c h t).num.sign < 0:=by
  have h1:=dsc_sg hb (h:=h) (t:=t)
  have h2:=nf_one (sqF_pos hb) (k:=dirC h t)
  have h3:=sgn_cases (dsc g a b c h t).num
  rw [h1] at h3 ⊢
  unfold qG at *
  generalize nearF (FR.of (g.val * g.val)) (FR.of (a.val * a.val)) (FR.of b.val) (FR.of c.val) (dirC h t) = X at *
  generalize farF (FR.of (g.val * g.val)) (FR.of (a.val * a.val)) (FR.of b.val) (FR.of c.val) (dirC h t) = Y at *
  rcases hn with hn | hn
  · exact Int.mul_neg_of_neg_of_pos hn (by omega)
  · exact Int.mul_neg_of_pos_of_neg (by omega) hn
theorem gap_16 (hb : [g,a,b,c].all posR = true) (hs : gapC (qG g) (qG a) (FR.of b.val) (FR.of c.val) (FR.of (dirC h t)) ≠ 0) : gapC (qG g) (qG a) (FR.of b.val) (FR.of c.val) (FR.of (dirC h t)) = 16 ∧ (dsc g a b c h t).num.sign < 0:=by
  have hq : [qG g,qG a,FR.of b.val,FR.of c.val].all posR = true:=sqF_pos hb
  have hr:=dir_rng (h:=h) (t:=t)
  by_cases hc : chkF [qG g,qG a,FR.of b.val,FR.of c.val] = 0
  · exfalso
    refine hs ?_
    unfold gapC
    rw [if_pos hc,FR.of_ok,if_pos rfl,FR.of_val,if_neg (by intro e;rcases e with e | e <;> grind)]
  · have h16 : chkF [qG g, qG a, FR.of b.val, FR.of c.val] = 16 := by
      unfold chkF at hc ⊢
      rw [if_pos hq] at hc ⊢
      split at hc
      · exact absurd rfl hc
      · rename_i h9;rw [if_neg h9]
    refine ⟨by rw [gapC_0 hc,h16],bar_nf hb ?_⟩
    apply Classical.byContradiction
    intro hn
    exact hc (can_chk hq hr.1 hr.2 (by omega) (by omega))
theorem rot_fin {N F D : Int} (hN : N = -1 ∨ N = 0 ∨ N = 1) (hF : F = -1 ∨ F = 0 ∨ F = 1) (h1 : ¬ (N ≤ 0 ∧ F ≤ 0)) (hD : D = N * F) : (decide (D ≥ 0) = (decide (N ≥ 0) && decide (F ≥ 0))) ∧ (decide (D = 0) = ((decide (N * F = 0) && decide (N ≥ 0)) && decide (F ≥ 0))) ∧ (-1 ≤ N * F ∧ N * F ≤ 1):=by
  subst hD
  rcases hN with rfl | rfl | rfl <;> rcases hF with rfl | rfl | rfl <;> revert h1 <;> decide
theorem rot_nf (hb : [g,a,b,c].all posR = true) : (decide ((dsc g a b c h t).num.sign ≥ 0) = (decide (nearF (qG g) (qG a) (FR.of b.val) (FR.of c.val) (dirC h t) ≥ 0) && decide (farF (qG g) (qG a) (FR.of b.val) (FR.of c.val) (dirC h t) ≥ 0))) ∧ (decide ((dsc g a b c h t).num.sign = 0) = ((decide (nearF (qG g) (qG a) (FR.of b.val) (FR.of c.val) (dirC h t) * farF (qG g) (qG a) (FR.of b.val) (FR.of c.val) (dirC h t) = 0) && decide (nearF (qG g) (qG a) (FR.of b.val) (FR.of c.val) (dirC h t) ≥ 0)) && decide (farF (qG g) (qG a) (FR.of b.val) (FR.of c.val) (dirC h t) ≥ 0))) ∧ (-1 ≤ nearF (qG g) (qG a) (FR.of b.val) (FR.of c.val) (dirC h t) * farF (qG g) (qG a) (FR.of b.val) (FR.of c.val) (dirC h t) ∧ nearF (qG g) (qG a) (FR.of b.val) (FR.of c.val) (dirC h t) * farF (qG g) (qG a) (FR.of b.val) (FR.of c.val) (dirC h t) ≤ 1):=by
  have hq : [qG g,qG a,FR.of b.val,FR.of c.val].all posR = true:=sqF_pos hb
  refine rot_fin ?_ ?_ (nf_one hq) (dsc_sg hb)
  · rw [near_R hq];rcases sgR_cases (nearR ((qG g).val + (qG a).val - ((FR.of b.val).val + (FR.of c.val).val)) (rt ((qG a).val * (qG g).val)) (rt ((FR.of b.val).val * (FR.of c.val).val)) (dirC h t)) with ⟨_,k⟩ | ⟨_,k⟩ | ⟨_,k⟩ <;> rw [k] <;> simp
  · have h2:=far_R hq (k:=dirC h t)
    rw [h2]
    generalize nearR _ _ _ _ = X
    rcases sgR_cases X with ⟨_,k⟩ | ⟨_,k⟩ | ⟨_,k⟩ <;> rw [k] <;> simp
theorem quF_at (hb : barC [g,a,b,c] = 0) : quF [g,a,b,c] 0 = qG g ∧ quF [g,a,b,c] 1 = qG a ∧ quF [g,a,b,c] 2 = FR.of b.val ∧ quF [g,a,b,c] 3 = FR.of c.val:=quF_0 hb
end
end Go.Proofs.YtnjbcjmkkejfpaaGreatDoor
