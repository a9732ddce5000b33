import Derived.ChangeArms
import Derived.SizedLaws
import Derived.WideShapes
import Derived.Test.YtnjbcjmkkejfpaaGreatDoorQi
set_option linter.unusedVariables false
set_option linter.unusedSimpArgs false
set_option linter.unusedVariables false
set_option linter.unusedSimpArgs false
set_option maxHeartbeats 4000000
set_option maxRecDepth 100000
set_option synthInstance.maxSize 100000
set_option synthInstance.maxHeartbeats 400000
namespace Go.Proofs.YtnjbcjmkkejfpaaGreatDoor
open Go.RowKit (Below)
attribute [local irreducible] Go.Code.wp Go.wpList Go.bodyPost
private theorem gS_ {W0 : World} {G0 : Gh} {N : Nat} {L : List (Nat × MT)} {B : List BX} {a : Act} {w : World} {G : Gh} {q : Prop} (h : St W0 G0 N L B a w G → q) : St W0 G0 N L B a w G → q:=h
private theorem gL_ {p : Prop} {P : Program} {arr : Array Oper} {Q : Exit → Act → World → Prop} {l : List Oper} {a : Act} {w : World} (h : p → wpList P arr Q l a w) : p → wpList P arr Q l a w:=h
private theorem gC_ {p : Prop} {P : Program} {c : Code} {Q : Exit → Act → World → Prop} {a : Act} {w : World} (h : p → c.wp P Q a w) : p → c.wp P Q a w:=h
private theorem mixedOrders : Tryz.prog.follows .mixedOrders = true:=by kernel_rfl
attribute [local irreducible] barC trnC btC dirC dirS dsc ouE ouR ouL ouX ouY ouMX ouMY oaE oaR oaL okV quF
theorem lnPM {n m : Nat} {rg ra rb rc t : FR} {h : Bool} : Con Tryz.prog 30 [QUD n rg ra rb rc,TRN m t h] (10000 * n + 10000 * m + 100000 ≤ BIG ∧ barC [rg,ra,rb,rc] = 0 ∧ trnF h t = true) (MT.tup4 (QC (20 * n + 40 * m + 1400) (2 * wayX rg.val ra.val h t.val)) (QC (20 * n + 40 * m + 1400) (2 * wayY ra.val h t.val)) (QC (20 * n + 40 * m + 1400) (w2F rg ra h t.val + rc.val - rb.val)) (.ex (errV 67 (0)))):=.o2 fun hok h1 h2 hp=>by
  refine St.enter (N:=42) Tryz.func30 rfl rfl rfl hok (enter2 h1 h2) fun a=>?_
  have hb:=hp.2.1
  have ht:=trn_0 hp.2.2
  have hbt:=bt_0 hp.2.1 hp.2.2
  repeat' (first|((with_reducible refine gS_ ?_);first|((with_reducible refine gL_ ?_);first|refine W.run ?_ fun a w G=>?_|refine W.mv fun a w G=>?_|refine W.asg fun a w G=>?_|refine W.bx fun b a w G=>?_|(refine W.nn hK ?_;clear hK K)|refine W.nl ?_|refine W.al fun b a w G=>?_|refine W.st fun w=>?_|refine W.stp fun w=>?_|refine W.ste ?_ fun w=>?_)|((with_reducible refine gC_ ?_);first|refine W.reg fun K hK=>?_|refine W.reg1 ?_|refine W.sq fun K hK=>?_|refine W.ds ?_ (fun β a w G hu=>W.fin ?_ hu) mixedOrders (by kernel_rfl)|refine W.sk ?_|refine W.cd (fun hc=>?_) (fun hc=>?_)|refine W.cb (fun hc=>?_) (fun hc=>?_)|refine W.bl ?_|refine W.ex ?_|refine W.rt ?_)|((with_reducible refine W.kn hK ?_);clear hK K)|(with_reducible first|refine W.bn ?_|refine W.xt ?_|refine W.xb ?_|refine W.xo ?_|refine W.tr ?_|refine W.br ?_)|refine W.rt1 rfl ?_|refine W.rt2 rfl ?_ ?_|refine W.rt3 rfl ?_ ?_ ?_)|refine W.rt5 rfl ?_ ?_ ?_ ?_ ?_|refine W.rt4 rfl ?_ ?_ ?_ ?_|clear hK K|clear hu|exact True.intro|exact Nat.le_trans (by clear hp;omega) hp|exact Nat.le_trans (by clear hp;omega) hp.1|exact Nat.le_trans (by clear hp;omega) hp.2|(clear hp;omega)|apply And.intro|refine GI.i fun _=>?_|with_reducible rfl|decide|(simp only [List.length_cons,List.length_nil];omega))
  all_goals first | (exfalso;omega) | assumption | exact hp.2.2 | exact hp.2.1 | (simp only [okV_0 hbt];done) | (simp only [okV_0 hbt];rfl) | rfl
theorem bad30 {n m : Nat} {rg ra rb rc t : FR} {h : Bool} : Con Tryz.prog 30 [QUD n rg ra rb rc,TRN m t h] (10000 * n + 10000 * m + 100000 ≤ BIG ∧ ¬ btC [rg,ra,rb,rc] h t = 0) (MT.tup4 (QC (20 * n + 40 * m + 1400) (okV (btC [rg,ra,rb,rc] h t) (2 * wayX rg.val ra.val h t.val))) (QC (20 * n + 40 * m + 1400) (okV (btC [rg,ra,rb,rc] h t) (2 * wayY ra.val h t.val))) (QC (20 * n + 40 * m + 1400) (okV (btC [rg,ra,rb,rc] h t) (w2F rg ra h t.val + rc.val - rb.val))) (.ex (errV 67 (btC [rg,ra,rb,rc] h t)))):=.o2 fun hok h1 h2 hp=>by
  refine St.enter (N:=42) Tryz.func30 rfl rfl rfl hok (enter2 h1 h2) fun a=>?_
  have hz:=hp.2
  repeat' (first|((with_reducible refine gS_ ?_);first|((with_reducible refine gL_ ?_);first|refine W.run ?_ fun a w G=>?_|refine W.mv fun a w G=>?_|refine W.asg fun a w G=>?_|refine W.bx fun b a w G=>?_|(refine W.nn hK ?_;clear hK K)|refine W.nl ?_|refine W.al fun b a w G=>?_|refine W.st fun w=>?_|refine W.stp fun w=>?_|refine W.ste ?_ fun w=>?_)|((with_reducible refine gC_ ?_);first|with_reducible refine W.cbt (by first|assumption|(simp [hz];done)|fail) ?_|with_reducible refine W.cbf (by first|assumption|(simp [hz];done)|fail) ?_|refine W.reg fun K hK=>?_|refine W.reg1 ?_|refine W.sq fun K hK=>?_|refine W.ds ?_ (fun β a w G hu=>W.fin ?_ hu) mixedOrders (by kernel_rfl)|refine W.sk ?_|refine W.cd (fun hc=>?_) (fun hc=>?_)|refine W.cb (fun hc=>?_) (fun hc=>?_)|refine W.bl ?_|refine W.ex ?_|refine W.rt ?_)|((with_reducible refine W.kn hK ?_);clear hK K)|(with_reducible first|refine W.bn ?_|refine W.xt ?_|refine W.xb ?_|refine W.xo ?_|refine W.tr ?_|refine W.br ?_)|refine W.rt1 rfl ?_|refine W.rt2 rfl ?_ ?_|refine W.rt3 rfl ?_ ?_ ?_)|refine W.rt5 rfl ?_ ?_ ?_ ?_ ?_|refine W.rt4 rfl ?_ ?_ ?_ ?_|clear hK K|clear hu|exact True.intro|exact Nat.le_trans (by clear hp;omega) hp|exact Nat.le_trans (by clear hp;omega) hp.1|exact Nat.le_trans (by clear hp;omega) hp.2|(clear hp;omega)|apply And.intro|refine GI.i fun _=>?_|with_reducible rfl|decide|(simp only [List.length_cons,List.length_nil];omega))
  all_goals first
    | omega
    | exact hp.1
    | exact okV_n hp.2
    | exact (okV_n hp.2).symm
    | exact (if_neg hp.2).symm
    | exact if_neg hp.2
    | rfl
    | skip
instance (priority:=2000) {n m : Nat} {rg ra rb rc t : FR} {h : Bool} {τ1 τ2 : MT} [j1 : NF τ1 (QUD n rg ra rb rc)] [j2 : NF τ2 (TRN m t h)] : Con Tryz.prog 30 [τ1,τ2] (10000 * n + 10000 * m + 100000 ≤ BIG) (MT.tup4 (QC (20 * n + 40 * m + 1400) (okV (btC [rg,ra,rb,rc] h t) (2 * wayX rg.val ra.val h t.val))) (QC (20 * n + 40 * m + 1400) (okV (btC [rg,ra,rb,rc] h t) (2 * wayY ra.val h t.val))) (QC (20 * n + 40 * m + 1400) (okV (btC [rg,ra,rb,rc] h t) (w2F rg ra h t.val + rc.val - rb.val))) (.ex (errV 67 (btC [rg,ra,rb,rc] h t)))):=.o2 fun hok h1 h2 hp=>by
  by_cases e : btC [rg,ra,rb,rc] h t = 0
  · simp only [oaE,oaR,oaL,okV,e,if_true,ite_true]
    exact lnPM.c2 hok (j1.h h1) (j2.h h2) ⟨hp,bt_00 e⟩
  · exact bad30.c2 hok (j1.h h1) (j2.h h2) ⟨hp,e⟩
def hoB (g a b c : FR) (h : Bool) (t x y : Rat) : Bool:=decide (cmpQ (d2F (x - a.val * dirC h t) (y - a.val * dirS h t)) b.val = 0) && decide (cmpQ (d2F (x - g.val) y) c.val = 0)
def hoC (l : List FR) (h : Bool) (t x y : FR) : Int:=if btC l h t = 0 then (if (x.ok && y.ok) = true then 0 else 2) else btC l h t
section
variable {l : List FR} {h : Bool} {t x y : FR}
theorem ho_n (e : ¬ btC l h t = 0) : hoC l h t x y = btC l h t:=by unfold hoC;rw [if_neg e]
theorem ho_0 (e : btC l h t = 0) (k : (x.ok && y.ok) = true) : hoC l h t x y = 0:=by unfold hoC;rw [if_pos e,if_pos k]
theorem ho_2 (e : btC l h t = 0) (k : (x.ok && y.ok) = false) : hoC l h t x y = 2:=by unfold hoC;rw [if_pos e,k];rfl
theorem ho_k (e : (!x.ok || !y.ok) = false) : (x.ok && y.ok) = true:=by cases hx : x.ok <;> cases hy : y.ok <;> simp_all
theorem ho_f (e : (!x.ok || !y.ok) = true) : (x.ok && y.ok) = false:=by cases hx : x.ok <;> cases hy : y.ok <;> simp_all
end
theorem w36 {k : Nat} {rx ry : FR} : Con Tryz.prog 36 [PTS [(some 3,FX k rx),(some 3,FX k ry)]] (k ≤ BIG) (BT (rx.ok && ry.ok)):=.o1 fun hok h1 hp=>by
  refine St.enter (N:=11) Tryz.func36 rfl rfl rfl hok (enter1 h1) fun a=>?_
  repeat' (first|((with_reducible refine gS_ ?_);first|((with_reducible refine gL_ ?_);first|refine W.run ?_ fun a w G=>?_|refine W.mv fun a w G=>?_|refine W.asg fun a w G=>?_|refine W.bx fun b a w G=>?_|(refine W.nn hK ?_;clear hK K)|refine W.nl ?_|refine W.al fun b a w G=>?_|refine W.st fun w=>?_|refine W.stp fun w=>?_|refine W.ste ?_ fun w=>?_)|((with_reducible refine gC_ ?_);first|refine W.reg fun K hK=>?_|refine W.reg1 ?_|refine W.sq fun K hK=>?_|refine W.ds ?_ (fun β a w G hu=>W.fin ?_ hu) mixedOrders (by kernel_rfl)|refine W.sk ?_|refine W.cd (fun hc=>?_) (fun hc=>?_)|refine W.cb (fun hc=>?_) (fun hc=>?_)|refine W.bl ?_|refine W.ex ?_|refine W.rt ?_)|((with_reducible refine W.kn hK ?_);clear hK K)|(with_reducible first|refine W.bn ?_|refine W.xt ?_|refine W.xb ?_|refine W.xo ?_|refine W.tr ?_|refine W.br ?_)|refine W.rt1 rfl ?_|refine W.rt2 rfl ?_ ?_|refine W.rt3 rfl ?_ ?_ ?_)|clear hK K|clear hu|exact True.intro|exact Nat.le_trans (by clear hp;omega) hp|exact Nat.le_trans (by clear hp;omega) hp.1|exact Nat.le_trans (by clear hp;omega) hp.2|(clear hp;omega)|apply And.intro|refine GI.i fun _=>?_|with_reducible rfl|decide|(simp only [List.length_cons,List.length_nil];omega))
  all_goals first | omega | rfl | skip
instance {k : Nat} {rx ry : FR} {τ1 : MT} [j1 : NF τ1 (PTS [(some 3,FX k rx),(some 3,FX k ry)])] : Con Tryz.prog 36 [τ1] (k ≤ BIG) (BT (rx.ok && ry.ok)):=.o1 fun hok h1 hp=>w36.c1 hok (j1.h h1) hp
def plR (x : FR × FR) : MT:=PTS [(some 3,RX x.1),(some 3,RX x.2)]
instance {x : FR × FR} : Shp (plR x) (some 6):=⟨fun h=>PTS.shaped rfl h⟩
instance (priority:=800) Prt.plr {x : FR × FR} {i : Nat} {kt : Option Nat} {τ : MT} [h : PrtL [(some 3,RX x.1),(some 3,RX x.2)] i kt τ] : Prt (plR x) i kt τ:=(inferInstance : Prt (PTS [(some 3,RX x.1),(some 3,RX x.2)]) i kt τ)
instance {r s : FR} : AsT (PTS [(some 3,RX r),(some 3,RX s)]) plR (r,s):=⟨fun h=>h⟩
instance {n : Nat} {r s : FR} : AsT (PTS [(some 3,FX n r),(some 3,FX n s)]) plR (r,s):=⟨fun h=>NR.h h⟩
instance NR.plr {τs : List MT} {xs : List (FR × FR)} [h : AsTL τs plR xs] : NR (LSC (some 6) τs) (LS (some 6) (xs.map plR)):=⟨fun hv=>h.ls hv.1⟩
def shP (x : FR × FR) : Bool:=[x.1,x.2].all shortR
theorem shR_t9 {r : FR} (h : (decide (((r.p.length : Nat) : Int) > 2) || decide (((r.q.length : Nat) : Int) > 2)) = true) : shortR r = false:=by
  simp only [Bool.or_eq_true,decide_eq_true_eq] at h
  exact shortR_not (by omega)
theorem shR_f9 {r : FR} (h : (decide (((r.p.length : Nat) : Int) > 2) || decide (((r.q.length : Nat) : Int) > 2)) = false) : shortR r = true:=by
  simp only [Bool.or_eq_false_iff,decide_eq_false_iff_not] at h
  exact shortR_of (by omega) (by omega)
theorem pair_at {x : FR × FR} {j : Nat} (hj : j < 2) : [x.1,x.2].getD j default = if j = 0 then x.1 else x.2:=by
  match j,hj with
  | 0,_=>rfl
  | 1,_=>rfl
theorem w29 {l : List (FR × FR)} : Con Tryz.prog 29 [LS (some 6) (l.map plR)] (True) (BT (l.all shP)):=.o1 fun hok h1 hp=>by
  refine St.enter (N:=35) Tryz.func29 rfl rfl rfl hok (enter1 h1) fun a=>?_
  have hlim:=LS.lenM h1
  simp only [LIM] at hlim
  repeat' (first|((with_reducible refine gS_ ?_);first|((with_reducible refine gL_ ?_);first|refine W.run ?_ fun a w G=>?_|refine W.mv fun a w G=>?_|refine W.asg fun a w G=>?_|refine W.bx fun b a w G=>?_|(refine W.nn hK ?_;clear hK K)|refine W.nl ?_|refine W.al fun b a w G=>?_|refine W.st fun w=>?_|refine W.stp fun w=>?_|refine W.ste ?_ fun w=>?_)|((with_reducible refine gC_ ?_);first|refine W.reg fun K hK=>?_|refine W.reg1 ?_|refine W.sq fun K hK=>?_|refine W.ds ?_ (fun β a w G hu=>W.fin ?_ hu) mixedOrders (by kernel_rfl)|refine W.sk ?_|refine W.cd (fun hc=>?_) (fun hc=>?_)|refine W.cb (fun hc=>?_) (fun hc=>?_)|refine W.bl ?_|refine W.ex ?_|refine W.rt ?_)|((with_reducible refine W.kn hK ?_);clear hK K)|(with_reducible first|refine W.bn ?_|refine W.xt ?_|refine W.xb ?_|refine W.xo ?_|refine W.tr ?_|refine W.br ?_)|refine W.rt1 rfl ?_|refine W.rt2 rfl ?_ ?_|refine W.rt3 rfl ?_ ?_ ?_)|refine W.lp 10 (α:=Nat) (fun i=>l.length - i) (fun i=>i ≤ l.length ∧ (l.take i).all shP = true) [2,4,6,9,10,11,12,13,14,15,16,17,18,19,20,21,22,23,24,25,26,27,28,29,30,31,32,33,34] (fun i=>[(9,NT i)]) (fun i=>[]) (0) ?_ ?_ ?_ fun i hi a w G=>?_|refine W.ag (x:=i) (i+1) ?_ ?_ ?_ ?_|refine W.lp 20 (α:=Nat) (fun j=>2 - j) (fun j=>j ≤ 2 ∧ ([(l.getD i default).1,(l.getD i default).2].take j).all shortR = true) [2,6,17,18,19,20,21,22,23,24,25,26,27,28,29,30,31,32,33] (fun j=>[(19,NT j),(18,NT 2),(17,LS (some 3) ([(l.getD i default).1,(l.getD i default).2].map RX))]) (fun j=>[]) (0) ?_ ?_ ?_ fun j hj a w G=>?_|refine W.ag (x:=j) (j+1) ?_ ?_ ?_ ?_|clear hK K|clear hu|exact True.intro|exact Nat.le_trans (by clear hp;omega) hp|exact Nat.le_trans (by clear hp;omega) hp.1|exact Nat.le_trans (by clear hp;omega) hp.2|(clear hp;omega)|apply And.intro|refine GI.i fun _=>?_|with_reducible rfl|decide|(simp only [List.length_cons,List.length_nil];omega))
  all_goals first
    | omega
    | rfl
    | exact (all_not (p:=shP) (show i < l.length by omega) (all_not (show j < 2 by omega) (shR_t9 hc))).symm
    | exact all_snoc (show j < 2 by omega) hj.2 (shR_f9 hc)
    | exact all_snoc (p:=shP) (by omega) hi.2 (all_end (show ¬ j < 2 by omega) hj.2)
    | exact (all_end (by omega) hi.2).symm
    | skip
instance {l : List (FR × FR)} {τ1 : MT} [j1 : NR τ1 (LS (some 6) (l.map plR))] : Con Tryz.prog 29 [τ1] (True) (BT (l.all shP)):=.o1 fun hok h1 hp=>w29.c1 hok (j1.h h1) hp
theorem w31 {n m k : Nat} {rg ra rb rc t rx ry : FR} {h : Bool} : Con Tryz.prog 31 [QUD n rg ra rb rc,TRN m t h,PTS [(some 3,FX k rx),(some 3,FX k ry)]] (10000 * n + 10000 * m + 10000 * k + 200000 ≤ BIG) (MT.tup2 (BT (decide (hoC [rg,ra,rb,rc] h t rx ry = 0) && hoB rg ra rb rc h t.val rx.val ry.val)) (.ex (errV 67 (hoC [rg,ra,rb,rc] h t rx ry)))):=.o3 fun hok h1 h2 h3 hp=>by
  refine St.enter (N:=69) Tryz.func31 rfl rfl rfl hok (enter3 h1 h2 h3) fun a=>?_
  repeat' (first|((with_reducible refine gS_ ?_);first|((with_reducible refine gL_ ?_);first|refine W.run ?_ fun a w G=>?_|refine W.mv fun a w G=>?_|refine W.asg fun a w G=>?_|refine W.bx fun b a w G=>?_|(refine W.nn hK ?_;clear hK K)|refine W.nl ?_|refine W.al fun b a w G=>?_|refine W.st fun w=>?_|refine W.stp fun w=>?_|refine W.ste ?_ fun w=>?_)|((with_reducible refine gC_ ?_);first|refine W.reg fun K hK=>?_|refine W.reg1 ?_|refine W.sq fun K hK=>?_|refine W.ds ?_ (fun β a w G hu=>W.fin ?_ hu) mixedOrders (by kernel_rfl)|refine W.sk ?_|refine W.cd (fun hc=>?_) (fun hc=>?_)|refine W.cb (fun hc=>?_) (fun hc=>?_)|refine W.bl ?_|refine W.ex ?_|refine W.rt ?_)|((with_reducible refine W.kn hK ?_);clear hK K)|(with_reducible first|refine W.bn ?_|refine W.xt ?_|refine W.xb ?_|refine W.xo ?_|refine W.tr ?_|refine W.br ?_)|refine W.rt1 rfl ?_|refine W.rt2 rfl ?_ ?_|refine W.rt3 rfl ?_ ?_ ?_)|clear hK K|clear hu|exact True.intro|exact Nat.le_trans (by clear hp;omega) hp|exact Nat.le_trans (by clear hp;omega) hp.1|exact Nat.le_trans (by clear hp;omega) hp.2|(clear hp;omega)|apply And.intro|refine GI.i fun _=>?_|with_reducible rfl|decide|(simp only [List.length_cons,List.length_nil];omega))
  all_goals first
    | omega
    | (by_cases e0 : btC [rg, ra, rb, rc] h t = 0
       · first
         | omega
         | (exfalso;omega)
         | exact okV_0 e0
         | (have hk:=ho_k (x:=rx) (y:=ry) (by assumption);rw [ho_0 e0 hk];simp only [okV_0 e0,decide_true,Bool.true_and];rfl)
         | (have hk:=ho_k (x:=rx) (y:=ry) (by assumption);rw [ho_0 e0 hk])
         | exact (ho_0 e0 (ho_k (by assumption))).symm
         | exact (ho_2 e0 (ho_f (by assumption)))
         | exact (ho_2 e0 (ho_f (by assumption))).symm
         | (rw [ho_2 e0 (ho_f (by assumption))];rfl)
         | skip
       · first
         | (exfalso;omega)
         | exact ho_n e0
         | exact (ho_n e0).symm
         | (rw [ho_n e0,decide_eq_false e0];rfl)
         | skip)
    | skip
instance {n m k : Nat} {rg ra rb rc t rx ry : FR} {h : Bool} {τ1 : MT} [j1 : NF τ1 (QUD n rg ra rb rc)] {τ2 : MT} [j2 : NF τ2 (TRN m t h)] {τ3 : MT} [j3 : NF τ3 (PTS [(some 3,FX k rx),(some 3,FX k ry)])] : Con Tryz.prog 31 [τ1,τ2,τ3] (10000 * n + 10000 * m + 10000 * k + 200000 ≤ BIG) (MT.tup2 (BT (decide (hoC [rg,ra,rb,rc] h t rx ry = 0) && hoB rg ra rb rc h t.val rx.val ry.val)) (.ex (errV 67 (hoC [rg,ra,rb,rc] h t rx ry)))):=.o3 fun hok h1 h2 h3 hp=>w31.c3 hok (j1.h h1) (j2.h h2) (j3.h h3) hp
def poK (b c : FR) : Rat:=4 * (b.val * c.val)
def poU (g a b c : FR) : Rat:=b.val + c.val - (g.val - a.val) * (g.val - a.val)
def poV (g a b c : FR) : Rat:=b.val + c.val - (g.val + a.val) * (g.val + a.val)
def poL (g a b c : FR) : List Rat:=[poK b c - poU g a b c * poU g a b c,0,2 * poK b c - 2 * (poU g a b c * poV g a b c),0,poK b c - poV g a b c * poV g a b c]
def poP (g a b c : FR) : List Rat:=if barC [g,a,b,c] = 0 then poL g a b c else []
theorem po_0 {g a b c : FR} (e : barC [g,a,b,c] = 0) : poP g a b c = poL g a b c:=if_pos e
theorem po_n {g a b c : FR} (e : ¬ barC [g,a,b,c] = 0) : poP g a b c = []:=if_neg e
theorem w32 {n : Nat} {rg ra rb rc : FR} : Con Tryz.prog 32 [QUD n rg ra rb rc] (10000 * n + 100000 ≤ BIG) (MT.tup2 (NM (60 * n + 300) (poP rg ra rb rc)) (.ex (errV 67 (barC [rg,ra,rb,rc])))):=.o1 fun hok h1 hp=>by
  refine St.enter (N:=64) Tryz.func32 rfl rfl rfl hok (enter1 h1) fun a=>?_
  repeat' (first|((with_reducible refine gS_ ?_);first|((with_reducible refine gL_ ?_);first|refine W.run ?_ fun a w G=>?_|refine W.mv fun a w G=>?_|refine W.asg fun a w G=>?_|refine W.bx fun b a w G=>?_|(refine W.nn hK ?_;clear hK K)|refine W.nl ?_|refine W.al fun b a w G=>?_|refine W.st fun w=>?_|refine W.stp fun w=>?_|refine W.ste ?_ fun w=>?_)|((with_reducible refine gC_ ?_);first|refine W.reg fun K hK=>?_|refine W.reg1 ?_|refine W.sq fun K hK=>?_|refine W.ds ?_ (fun β a w G hu=>W.fin ?_ hu) mixedOrders (by kernel_rfl)|refine W.sk ?_|refine W.cd (fun hc=>?_) (fun hc=>?_)|refine W.cb (fun hc=>?_) (fun hc=>?_)|refine W.bl ?_|refine W.ex ?_|refine W.rt ?_)|((with_reducible refine W.kn hK ?_);clear hK K)|(with_reducible first|refine W.bn ?_|refine W.xt ?_|refine W.xb ?_|refine W.xo ?_|refine W.tr ?_|refine W.br ?_)|refine W.rt1 rfl ?_|refine W.rt2 rfl ?_ ?_|refine W.rt3 rfl ?_ ?_ ?_)|clear hK K|clear hu|exact True.intro|exact Nat.le_trans (by clear hp;omega) hp|exact Nat.le_trans (by clear hp;omega) hp.1|exact Nat.le_trans (by clear hp;omega) hp.2|(clear hp;omega)|apply And.intro|refine GI.i fun _=>?_|with_reducible rfl|decide|(simp only [List.length_cons,List.length_nil];omega))
  all_goals first
    | omega
    | exact po_n (by omega)
    | exact (po_n (by omega)).symm
    | (rw [po_0 (by omega)];rfl)
    | (rw [po_n (by omega)];rfl)
    | skip
instance {n : Nat} {rg ra rb rc : FR} {τ1 : MT} [j1 : NF τ1 (QUD n rg ra rb rc)] : Con Tryz.prog 32 [τ1] (10000 * n + 100000 ≤ BIG) (MT.tup2 (NM (60 * n + 300) (poP rg ra rb rc)) (.ex (errV 67 (barC [rg,ra,rb,rc])))):=.o1 fun hok h1 hp=>w32.c1 hok (j1.h h1) hp
theorem w34 {n : Nat} {rg ra rb rc : FR} : Con Tryz.prog 34 [QUD n rg ra rb rc] (10000 * n + 100000 ≤ BIG) (NM (60 * n + 300) (poL rg ra rb rc)):=.o1 fun hok h1 hp=>by
  refine St.enter (N:=61) Tryz.func34 rfl rfl rfl hok (enter1 h1) fun a=>?_
  repeat' (first|((with_reducible refine gS_ ?_);first|((with_reducible refine gL_ ?_);first|refine W.run ?_ fun a w G=>?_|refine W.mv fun a w G=>?_|refine W.asg fun a w G=>?_|refine W.bx fun b a w G=>?_|(refine W.nn hK ?_;clear hK K)|refine W.nl ?_|refine W.al fun b a w G=>?_|refine W.st fun w=>?_|refine W.stp fun w=>?_|refine W.ste ?_ fun w=>?_)|((with_reducible refine gC_ ?_);first|refine W.reg fun K hK=>?_|refine W.reg1 ?_|refine W.sq fun K hK=>?_|refine W.ds ?_ (fun β a w G hu=>W.fin ?_ hu) mixedOrders (by kernel_rfl)|refine W.sk ?_|refine W.cd (fun hc=>?_) (fun hc=>?_)|refine W.cb (fun hc=>?_) (fun hc=>?_)|refine W.bl ?_|refine W.ex ?_|refine W.rt ?_)|((with_reducible refine W.kn hK ?_);clear hK K)|(with_reducible first|refine W.bn ?_|refine W.xt ?_|refine W.xb ?_|refine W.xo ?_|refine W.tr ?_|refine W.br ?_)|refine W.rt1 rfl ?_|refine W.rt2 rfl ?_ ?_|refine W.rt3 rfl ?_ ?_ ?_)|clear hK K|clear hu|exact True.intro|exact Nat.le_trans (by clear hp;omega) hp|exact Nat.le_trans (by clear hp;omega) hp.1|exact Nat.le_trans (by clear hp;omega) hp.2|(clear hp;omega)|apply And.intro|refine GI.i fun _=>?_|with_reducible rfl|decide|(simp only [List.length_cons,List.length_nil];omega))
  all_goals first
    | omega
    | rfl
    | (have e2 : ∀ x y : Rat, 2 * (x - y) = 2 * x - 2 * y := fun x y => by grind
       unfold poL poK poU poV;rw [e2])
    | skip
instance {n : Nat} {rg ra rb rc : FR} {τ1 : MT} [j1 : NF τ1 (QUD n rg ra rb rc)] : Con Tryz.prog 34 [τ1] (10000 * n + 100000 ≤ BIG) (NM (60 * n + 300) (poL rg ra rb rc)):=.o1 fun hok h1 hp=>w34.c1 hok (j1.h h1) hp
theorem w35 {n m : Nat} {rg ra rb rc t : FR} {h : Bool} : Con Tryz.prog 35 [QUD n rg ra rb rc,TRN m t h] (10000 * n + 10000 * m + 100000 ≤ BIG) (MT.tup3 (QC (20 * n + 40 * m + 1400) (2 * wayX rg.val ra.val h t.val)) (QC (20 * n + 40 * m + 1400) (2 * wayY ra.val h t.val)) (QC (20 * n + 40 * m + 1400) (w2F rg ra h t.val + rc.val - rb.val))):=.o2 fun hok h1 h2 hp=>by
  refine St.enter (N:=27) Tryz.func35 rfl rfl rfl hok (enter2 h1 h2) fun a=>?_
  repeat' (first|((with_reducible refine gS_ ?_);first|((with_reducible refine gL_ ?_);first|refine W.run ?_ fun a w G=>?_|refine W.mv fun a w G=>?_|refine W.asg fun a w G=>?_|refine W.bx fun b a w G=>?_|(refine W.nn hK ?_;clear hK K)|refine W.nl ?_|refine W.al fun b a w G=>?_|refine W.st fun w=>?_|refine W.stp fun w=>?_|refine W.ste ?_ fun w=>?_)|((with_reducible refine gC_ ?_);first|refine W.reg fun K hK=>?_|refine W.reg1 ?_|refine W.sq fun K hK=>?_|refine W.ds ?_ (fun β a w G hu=>W.fin ?_ hu) mixedOrders (by kernel_rfl)|refine W.sk ?_|refine W.cd (fun hc=>?_) (fun hc=>?_)|refine W.cb (fun hc=>?_) (fun hc=>?_)|refine W.bl ?_|refine W.ex ?_|refine W.rt ?_)|((with_reducible refine W.kn hK ?_);clear hK K)|(with_reducible first|refine W.bn ?_|refine W.xt ?_|refine W.xb ?_|refine W.xo ?_|refine W.tr ?_|refine W.br ?_)|refine W.rt1 rfl ?_|refine W.rt2 rfl ?_ ?_|refine W.rt3 rfl ?_ ?_ ?_)|clear hK K|clear hu|exact True.intro|exact Nat.le_trans (by clear hp;omega) hp|exact Nat.le_trans (by clear hp;omega) hp.1|exact Nat.le_trans (by clear hp;omega) hp.2|(clear hp;omega)|apply And.intro|refine GI.i fun _=>?_|with_reducible rfl|decide|(simp only [List.length_cons,List.length_nil];omega))
  all_goals first | omega | exact hp | rfl | skip
instance {n m : Nat} {rg ra rb rc t : FR} {h : Bool} {τ1 : MT} [j1 : NF τ1 (QUD n rg ra rb rc)] {τ2 : MT} [j2 : NF τ2 (TRN m t h)] : Con Tryz.prog 35 [τ1,τ2] (10000 * n + 10000 * m + 100000 ≤ BIG) (MT.tup3 (QC (20 * n + 40 * m + 1400) (2 * wayX rg.val ra.val h t.val)) (QC (20 * n + 40 * m + 1400) (2 * wayY ra.val h t.val)) (QC (20 * n + 40 * m + 1400) (w2F rg ra h t.val + rc.val - rb.val))):=.o2 fun hok h1 h2 hp=>w35.c2 hok (j1.h h1) (j2.h h2) hp
theorem w37 {n m k : Nat} {rg ra rb rc t rx ry : FR} {h : Bool} : Con Tryz.prog 37 [QUD n rg ra rb rc,TRN m t h,PTS [(some 3,FX k rx),(some 3,FX k ry)]] (10000 * n + 10000 * m + 10000 * k + 200000 ≤ BIG) (BT (hoB rg ra rb rc h t.val rx.val ry.val)):=.o3 fun hok h1 h2 h3 hp=>by
  refine St.enter (N:=33) Tryz.func37 rfl rfl rfl hok (enter3 h1 h2 h3) fun a=>?_
  repeat' (first|((with_reducible refine gS_ ?_);first|((with_reducible refine gL_ ?_);first|refine W.run ?_ fun a w G=>?_|refine W.mv fun a w G=>?_|refine W.asg fun a w G=>?_|refine W.bx fun b a w G=>?_|(refine W.nn hK ?_;clear hK K)|refine W.nl ?_|refine W.al fun b a w G=>?_|refine W.st fun w=>?_|refine W.stp fun w=>?_|refine W.ste ?_ fun w=>?_)|((with_reducible refine gC_ ?_);first|refine W.reg fun K hK=>?_|refine W.reg1 ?_|refine W.sq fun K hK=>?_|refine W.ds ?_ (fun β a w G hu=>W.fin ?_ hu) mixedOrders (by kernel_rfl)|refine W.sk ?_|refine W.cd (fun hc=>?_) (fun hc=>?_)|refine W.cb (fun hc=>?_) (fun hc=>?_)|refine W.bl ?_|refine W.ex ?_|refine W.rt ?_)|((with_reducible refine W.kn hK ?_);clear hK K)|(with_reducible first|refine W.bn ?_|refine W.xt ?_|refine W.xb ?_|refine W.xo ?_|refine W.tr ?_|refine W.br ?_)|refine W.rt1 rfl ?_|refine W.rt2 rfl ?_ ?_|refine W.rt3 rfl ?_ ?_ ?_)|clear hK K|clear hu|exact True.intro|exact Nat.le_trans (by clear hp;omega) hp|exact Nat.le_trans (by clear hp;omega) hp.1|exact Nat.le_trans (by clear hp;omega) hp.2|(clear hp;omega)|apply And.intro|refine GI.i fun _=>?_|with_reducible rfl|decide|(simp only [List.length_cons,List.length_nil];omega))
  all_goals first
    | omega
    | exact hp
    | rfl
    | (unfold hoB;congr 3;grind [zv0])
    | skip
instance {n m k : Nat} {rg ra rb rc t rx ry : FR} {h : Bool} {τ1 : MT} [j1 : NF τ1 (QUD n rg ra rb rc)] {τ2 : MT} [j2 : NF τ2 (TRN m t h)] {τ3 : MT} [j3 : NF τ3 (PTS [(some 3,FX k rx),(some 3,FX k ry)])] : Con Tryz.prog 37 [τ1,τ2,τ3] (10000 * n + 10000 * m + 10000 * k + 200000 ≤ BIG) (BT (hoB rg ra rb rc h t.val rx.val ry.val)):=.o3 fun hok h1 h2 h3 hp=>w37.c3 hok (j1.h h1) (j2.h h2) (j3.h h3) hp
attribute [local irreducible] hoB hoC poL poP
instance gTO7_5_2 : GcT 5 2 false 3 [4,5,6,19,20,21,22,23,24,25,26,27,28,29,30,31,32,33,34,35,36]:=⟨⟩
instance gTO7_5_3 : GcT 5 3 false 6 [19,20,21,22,23,24,25,26,27,28,29,30,31,32,33,34,35,36]:=⟨⟩
instance gTO7_5_4 : GcT 5 4 false 38 [39,40,41,42,43,44,45]:=⟨⟩
instance gTO7_5_5 : GcT 5 5 false 46 [47,48,49,50,51,52]:=⟨⟩
instance gTO7_5_7 : GcT 5 7 false 53 [54,55,56,57,58,59]:=⟨⟩
instance gTO7_5_8 : GcT 5 8 false 3 [4,5,8,9,60,61]:=⟨⟩
instance gTO7_5_10 : GcT 5 10 false 3 [4,5,7,8,9,10,11,12,13,14,15,60,61,92,93,94,95,96,97,98,99,100]:=⟨⟩
instance gTO7_5_11 : GcT 5 11 false 13 [14,15,60,61,92,93,94,95,96,97,98,99,100]:=⟨⟩
instance gTO7_5_12 : GcT 5 12 false 3 [4,5,7,8,101,102,103]:=⟨⟩
instance gTO7_5_14 : GcT 5 14 false 101 [102,103,119,120,121,122,123,124,125]:=⟨⟩
instance gTO7_5_15 : GcT 5 15 false 3 [4,5,7,8,9,10,11,12,16,17,18,126,127,128,129,130,131,132,133,134,135,136,137,138,139,140,141,142,143,144,145]:=⟨⟩
instance gTO7_5_16 : GcT 5 16 false 7 [8,9,10,16,17,18,126,127,128,129,130,131,132,133,134,135,136,137,138,139,140,141,142,143,144,145]:=⟨⟩
instance gTO7_5_17 : GcT 5 17 false 3 [4,5,146,147,148]:=⟨⟩
theorem shortOutputLinesB {rg ra rb rc t rx ry : FR} {h : Bool} : ConT Tryz.prog 5 [QUD 64 rg ra rb rc,TRN 64 t h,PTS [(some 3,FX 64 rx),(some 3,FX 64 ry)]] ((([rg,ra,rb,rc].all shortR && shortR t) && [(rx,ry)].all shP) = true ∧ (¬ barC [rg,ra,rb,rc] = 0)) (BT true):=.o3 fun hok ht h1 h2 h3 hp=>by
  refine St.enter (N:=165) Tryz.func5 rfl rfl rfl hok (enter3 h1 h2 h3) fun a=>?_
  refine W.tab ht ?_
  have e0:=short3 hp.1
  have e1:=hp.2
  have e2:=(bt_3 (h:=h) (t:=t) e1).symm
  have e3 : ∀ x,okV (barC [rg,ra,rb,rc]) x = 0:=fun x=>okV_n e1
  have e4:=po_n e1
  have e6:=(ho_n (l:=[rg,ra,rb,rc]) (h:=h) (t:=t) (x:=rx) (y:=ry) (by rw [e2];exact e1)).trans e2
  repeat' (first|((with_reducible refine gS_ ?_);first|((with_reducible refine gL_ ?_);first|refine W.run ?_ fun a w G=>?_|refine W.mv fun a w G=>?_|refine W.asg fun a w G=>?_|refine W.bx fun b a w G=>?_|(refine W.nn hK ?_;clear hK K)|refine W.nl ?_|refine W.al fun b a w G=>?_|refine W.st fun w=>?_|refine W.stp fun w=>?_|refine W.ste ?_ fun w=>?_)|((with_reducible refine gC_ ?_);first|with_reducible refine W.cbt (by first|assumption|(simp [e0,e1,e2,e3,e4,e6,fr_00];done)|fail) ?_|with_reducible refine W.cbf (by first|assumption|(simp [e0,e1,e2,e3,e4,e6,fr_00];done)|fail) ?_|with_reducible refine W.gcc 5 ?_|with_reducible refine W.gcd 5 ?_|refine W.reg fun K hK=>?_|refine W.reg1 ?_|refine W.sq fun K hK=>?_|refine W.ds ?_ (fun β a w G hu=>W.fin ?_ hu) mixedOrders (by kernel_rfl)|refine W.sk ?_|refine W.cd (fun hc=>?_) (fun hc=>?_)|refine W.cb (fun hc=>?_) (fun hc=>?_)|refine W.bl ?_|refine W.ex ?_|refine W.rt ?_)|((with_reducible refine W.kn hK ?_);clear hK K)|(with_reducible first|refine W.bn ?_|refine W.xt ?_|refine W.xb ?_|refine W.xo ?_|refine W.tr ?_|refine W.br ?_)|refine W.rt1 rfl ?_|refine W.rt2 rfl ?_ ?_|refine W.rt3 rfl ?_ ?_ ?_)|clear hK K|clear hu|exact True.intro|exact Nat.le_trans (by clear hp;omega) hp|exact Nat.le_trans (by clear hp;omega) hp.1|exact Nat.le_trans (by clear hp;omega) hp.2|(clear hp;omega)|apply And.intro|refine GI.i fun _=>?_|with_reducible rfl|decide|(simp only [List.length_cons,List.length_nil];omega))
  all_goals first
    | omega
    | (simp [e0,e1,e2,e3,e4,e6,fr_00];done)
    | exact e1
    | exact e5
    | rfl
    | skip
theorem shortOutputLinesC {rg ra rb rc t rx ry : FR} {h : Bool} : ConT Tryz.prog 5 [QUD 64 rg ra rb rc,TRN 64 t h,PTS [(some 3,FX 64 rx),(some 3,FX 64 ry)]] ((([rg,ra,rb,rc].all shortR && shortR t) && [(rx,ry)].all shP) = true ∧ (barC [rg,ra,rb,rc] = 0 ∧ trnF h t = false)) (BT true):=.o3 fun hok ht h1 h2 h3 hp=>by
  refine St.enter (N:=165) Tryz.func5 rfl rfl rfl hok (enter3 h1 h2 h3) fun a=>?_
  refine W.tab ht ?_
  have e0:=short3 hp.1
  have e1:=hp.2.1
  have e5:=hp.2.2
  have e2:=bt_22 e1 e5
  have e3 : ∀ x,okV 2 x = 0:=fun x=>okV_n (by decide)
  have e4:=po_0 e1
  have e6:=(ho_n (l:=[rg,ra,rb,rc]) (h:=h) (t:=t) (x:=rx) (y:=ry) (by rw [e2];decide)).trans e2
  repeat' (first|((with_reducible refine gS_ ?_);first|((with_reducible refine gL_ ?_);first|refine W.run ?_ fun a w G=>?_|refine W.mv fun a w G=>?_|refine W.asg fun a w G=>?_|refine W.bx fun b a w G=>?_|(refine W.nn hK ?_;clear hK K)|refine W.nl ?_|refine W.al fun b a w G=>?_|refine W.st fun w=>?_|refine W.stp fun w=>?_|refine W.ste ?_ fun w=>?_)|((with_reducible refine gC_ ?_);first|with_reducible refine W.cbt (by first|assumption|(simp [e0,e1,e2,e3,e4,e5,e6,fr_00];done)|fail) ?_|with_reducible refine W.cbf (by first|assumption|(simp [e0,e1,e2,e3,e4,e5,e6,fr_00];done)|fail) ?_|with_reducible refine W.gcc 5 ?_|with_reducible refine W.gcd 5 ?_|refine W.reg fun K hK=>?_|refine W.reg1 ?_|refine W.sq fun K hK=>?_|refine W.ds ?_ (fun β a w G hu=>W.fin ?_ hu) mixedOrders (by kernel_rfl)|refine W.sk ?_|refine W.cd (fun hc=>?_) (fun hc=>?_)|refine W.cb (fun hc=>?_) (fun hc=>?_)|refine W.bl ?_|refine W.ex ?_|refine W.rt ?_)|((with_reducible refine W.kn hK ?_);clear hK K)|(with_reducible first|refine W.bn ?_|refine W.xt ?_|refine W.xb ?_|refine W.xo ?_|refine W.tr ?_|refine W.br ?_)|refine W.rt1 rfl ?_|refine W.rt2 rfl ?_ ?_|refine W.rt3 rfl ?_ ?_ ?_)|clear hK K|clear hu|exact True.intro|exact Nat.le_trans (by clear hp;omega) hp|exact Nat.le_trans (by clear hp;omega) hp.1|exact Nat.le_trans (by clear hp;omega) hp.2|(clear hp;omega)|apply And.intro|refine GI.i fun _=>?_|with_reducible rfl|decide|(simp only [List.length_cons,List.length_nil];omega))
  all_goals first
    | omega
    | (simp [e0,e1,e2,e3,e4,e5,e6,fr_00];done)
    | exact e1
    | exact e5
    | rfl
    | skip
theorem shortOutputLinesD {rg ra rb rc t rx ry : FR} {h : Bool} : ConT Tryz.prog 5 [QUD 64 rg ra rb rc,TRN 64 t h,PTS [(some 3,FX 64 rx),(some 3,FX 64 ry)]] ((([rg,ra,rb,rc].all shortR && shortR t) && [(rx,ry)].all shP) = true ∧ (barC [rg,ra,rb,rc] = 0 ∧ trnF h t = true ∧ (rx.ok && ry.ok) = true)) (BT true):=.o3 fun hok ht h1 h2 h3 hp=>by
  refine St.enter (N:=165) Tryz.func5 rfl rfl rfl hok (enter3 h1 h2 h3) fun a=>?_
  refine W.tab ht ?_
  have e0:=short3 hp.1
  have e1:=hp.2.1
  have e5:=hp.2.2.1
  have e7:=hp.2.2.2
  have e2:=bt_0 e1 e5
  have e3 : ∀ x,okV 0 x = x:=fun x=>okV_0 rfl
  have e4:=po_0 e1
  have e6:=ho_0 e2 e7
  repeat' (first|((with_reducible refine gS_ ?_);first|((with_reducible refine gL_ ?_);first|refine W.run ?_ fun a w G=>?_|refine W.mv fun a w G=>?_|refine W.asg fun a w G=>?_|refine W.bx fun b a w G=>?_|(refine W.nn hK ?_;clear hK K)|refine W.nl ?_|refine W.al fun b a w G=>?_|refine W.st fun w=>?_|refine W.stp fun w=>?_|refine W.ste ?_ fun w=>?_)|((with_reducible refine gC_ ?_);first|with_reducible refine W.cbt (by first|assumption|(simp [e0,e1,e2,e3,e4,e5,e6,e7,fr_00];done)|fail) ?_|with_reducible refine W.cbf (by first|assumption|(simp [e0,e1,e2,e3,e4,e5,e6,e7,fr_00];done)|fail) ?_|with_reducible refine W.gcc 5 ?_|with_reducible refine W.gcd 5 ?_|refine W.reg fun K hK=>?_|refine W.reg1 ?_|refine W.sq fun K hK=>?_|refine W.ds ?_ (fun β a w G hu=>W.fin ?_ hu) mixedOrders (by kernel_rfl)|refine W.sk ?_|refine W.cd (fun hc=>?_) (fun hc=>?_)|refine W.cb (fun hc=>?_) (fun hc=>?_)|refine W.bl ?_|refine W.ex ?_|refine W.rt ?_)|((with_reducible refine W.kn hK ?_);clear hK K)|(with_reducible first|refine W.bn ?_|refine W.xt ?_|refine W.xb ?_|refine W.xo ?_|refine W.tr ?_|refine W.br ?_)|refine W.rt1 rfl ?_|refine W.rt2 rfl ?_ ?_|refine W.rt3 rfl ?_ ?_ ?_)|clear hK K|clear hu|exact True.intro|exact Nat.le_trans (by clear hp;omega) hp|exact Nat.le_trans (by clear hp;omega) hp.1|exact Nat.le_trans (by clear hp;omega) hp.2|(clear hp;omega)|apply And.intro|refine GI.i fun _=>?_|with_reducible rfl|decide|(simp only [List.length_cons,List.length_nil];omega))
  all_goals first
    | omega
    | (simp [e0,e1,e2,e3,e4,e5,e6,e7,fr_00];done)
    | exact e1
    | exact e5
    | rfl
    | skip
theorem shortOutputLinesE {rg ra rb rc t rx ry : FR} {h : Bool} : ConT Tryz.prog 5 [QUD 64 rg ra rb rc,TRN 64 t h,PTS [(some 3,FX 64 rx),(some 3,FX 64 ry)]] ((([rg,ra,rb,rc].all shortR && shortR t) && [(rx,ry)].all shP) = true ∧ (barC [rg,ra,rb,rc] = 0 ∧ trnF h t = true ∧ (rx.ok && ry.ok) = false)) (BT true):=.o3 fun hok ht h1 h2 h3 hp=>by
  refine St.enter (N:=165) Tryz.func5 rfl rfl rfl hok (enter3 h1 h2 h3) fun a=>?_
  refine W.tab ht ?_
  have e0:=short3 hp.1
  have e1:=hp.2.1
  have e5:=hp.2.2.1
  have e7:=hp.2.2.2
  have e2:=bt_0 e1 e5
  have e3 : ∀ x,okV 0 x = x:=fun x=>okV_0 rfl
  have e4:=po_0 e1
  have e6:=ho_2 e2 e7
  repeat' (first|((with_reducible refine gS_ ?_);first|((with_reducible refine gL_ ?_);first|refine W.run ?_ fun a w G=>?_|refine W.mv fun a w G=>?_|refine W.asg fun a w G=>?_|refine W.bx fun b a w G=>?_|(refine W.nn hK ?_;clear hK K)|refine W.nl ?_|refine W.al fun b a w G=>?_|refine W.st fun w=>?_|refine W.stp fun w=>?_|refine W.ste ?_ fun w=>?_)|((with_reducible refine gC_ ?_);first|with_reducible refine W.cbt (by first|assumption|(simp [e0,e1,e2,e3,e4,e5,e6,e7,fr_00];done)|fail) ?_|with_reducible refine W.cbf (by first|assumption|(simp [e0,e1,e2,e3,e4,e5,e6,e7,fr_00];done)|fail) ?_|with_reducible refine W.gcc 5 ?_|with_reducible refine W.gcd 5 ?_|refine W.reg fun K hK=>?_|refine W.reg1 ?_|refine W.sq fun K hK=>?_|refine W.ds ?_ (fun β a w G hu=>W.fin ?_ hu) mixedOrders (by kernel_rfl)|refine W.sk ?_|refine W.cd (fun hc=>?_) (fun hc=>?_)|refine W.cb (fun hc=>?_) (fun hc=>?_)|refine W.bl ?_|refine W.ex ?_|refine W.rt ?_)|((with_reducible refine W.kn hK ?_);clear hK K)|(with_reducible first|refine W.bn ?_|refine W.xt ?_|refine W.xb ?_|refine W.xo ?_|refine W.tr ?_|refine W.br ?_)|refine W.rt1 rfl ?_|refine W.rt2 rfl ?_ ?_|refine W.rt3 rfl ?_ ?_ ?_)|clear hK K|clear hu|exact True.intro|exact Nat.le_trans (by clear hp;omega) hp|exact Nat.le_trans (by clear hp;omega) hp.1|exact Nat.le_trans (by clear hp;omega) hp.2|(clear hp;omega)|apply And.intro|refine GI.i fun _=>?_|with_reducible rfl|decide|(simp only [List.length_cons,List.length_nil];omega))
  all_goals first
    | omega
    | (simp [e0,e1,e2,e3,e4,e5,e6,e7,fr_00];done)
    | exact e1
    | exact e5
    | rfl
    | skip
theorem longOutputLines {rg ra rb rc t rx ry : FR} {h : Bool} : ConT Tryz.prog 5 [PTS [(some 3,RX rg),(some 3,RX ra),(some 3,RX rb),(some 3,RX rc)],PTS [(some 3,RX t),(none,BT h)],PTS [(some 3,RX rx),(some 3,RX ry)]] ((([rg,ra,rb,rc].all shortR && shortR t) && [(rx,ry)].all shP) = false) (BT true):=.o3 fun hok ht h1 h2 h3 hp=>by
  refine St.enter (N:=165) Tryz.func5 rfl rfl rfl hok (enter3 h1 h2 h3) fun a=>?_
  refine W.tab ht ?_
  repeat' (first|refine W.cbt (long3_0 hp) ?_|((with_reducible refine gS_ ?_);first|((with_reducible refine gL_ ?_);first|refine W.run ?_ fun a w G=>?_|refine W.mv fun a w G=>?_|refine W.asg fun a w G=>?_|refine W.bx fun b a w G=>?_|(refine W.nn hK ?_;clear hK K)|refine W.nl ?_|refine W.al fun b a w G=>?_|refine W.st fun w=>?_|refine W.stp fun w=>?_|refine W.ste ?_ fun w=>?_)|((with_reducible refine gC_ ?_);first|refine W.reg fun K hK=>?_|refine W.reg1 ?_|refine W.sq fun K hK=>?_|refine W.ds ?_ (fun β a w G hu=>W.fin ?_ hu) mixedOrders (by kernel_rfl)|refine W.sk ?_|refine W.cd (fun hc=>?_) (fun hc=>?_)|refine W.cb (fun hc=>?_) (fun hc=>?_)|refine W.bl ?_|refine W.ex ?_|refine W.rt ?_)|((with_reducible refine W.kn hK ?_);clear hK K)|(with_reducible first|refine W.bn ?_|refine W.xt ?_|refine W.xb ?_|refine W.xo ?_|refine W.tr ?_|refine W.br ?_)|refine W.rt1 rfl ?_|refine W.rt2 rfl ?_ ?_|refine W.rt3 rfl ?_ ?_ ?_)|clear hK K|clear hu|exact True.intro|exact Nat.le_trans (by clear hp;omega) hp|exact Nat.le_trans (by clear hp;omega) hp.1|exact Nat.le_trans (by clear hp;omega) hp.2|(clear hp;omega)|apply And.intro|refine GI.i fun _=>?_|with_reducible rfl|decide|(simp only [List.length_cons,List.length_nil];omega))
  all_goals skip
theorem lawOutputLines {rg ra rb rc t rx ry : FR} {h : Bool} {w : World} {G : Gh} {v1 v2 v3 : Value} (hok : Gok w G) (ht : TAB G) (h1 : (PTS [(some 3,RX rg),(some 3,RX ra),(some 3,RX rb),(some 3,RX rc)]).t v1 G) (h2 : (PTS [(some 3,RX t),(none,BT h)]).t v2 G) (h3 : (PTS [(some 3,RX rx),(some 3,RX ry)]).t v3 G) : Calls Tryz.prog 5 #[v1,v2,v3] w (Ret w G (BT true)):=by
  cases hs : (([rg,ra,rb,rc].all shortR && shortR t) && [(rx,ry)].all shP) with
  | true =>
    have hq:=hs
    (try simp only [shortF,List.all_cons,List.all_nil,Bool.and_true,Bool.and_eq_true,shP] at hq)
    have hcs : (¬ barC [rg,ra,rb,rc] = 0) ∨ (barC [rg,ra,rb,rc] = 0 ∧ trnF h t = false) ∨ (barC [rg,ra,rb,rc] = 0 ∧ trnF h t = true ∧ (rx.ok && ry.ok) = true) ∨ (barC [rg,ra,rb,rc] = 0 ∧ trnF h t = true ∧ (rx.ok && ry.ok) = false):=by
      by_cases e : barC [rg,ra,rb,rc] = 0
      · cases e2 : trnF h t with
        | false=>exact .inr (.inl ⟨e,rfl⟩)
        | true=>cases e3 : (rx.ok && ry.ok) with
          | true=>exact .inr (.inr (.inl ⟨e,rfl,rfl⟩))
          | false=>exact .inr (.inr (.inr ⟨e,rfl,rfl⟩))
      · exact .inl e
    rcases hcs with hcs | hcs | hcs | hcs
    · exact shortOutputLinesB.c3 hok ht (NS.h (τ':=QUD 64 rg ra rb rc) (by (try simp only [and_true,true_and]);grind) h1) (NS.h (τ':=TRN 64 t h) (by (try simp only [and_true,true_and]);grind) h2) (NS.h (τ':=PTS [(some 3,FX 64 rx),(some 3,FX 64 ry)]) (by (try simp only [and_true,true_and]);grind) h3) ⟨hs,hcs⟩
    · exact shortOutputLinesC.c3 hok ht (NS.h (τ':=QUD 64 rg ra rb rc) (by (try simp only [and_true,true_and]);grind) h1) (NS.h (τ':=TRN 64 t h) (by (try simp only [and_true,true_and]);grind) h2) (NS.h (τ':=PTS [(some 3,FX 64 rx),(some 3,FX 64 ry)]) (by (try simp only [and_true,true_and]);grind) h3) ⟨hs,hcs⟩
    · exact shortOutputLinesD.c3 hok ht (NS.h (τ':=QUD 64 rg ra rb rc) (by (try simp only [and_true,true_and]);grind) h1) (NS.h (τ':=TRN 64 t h) (by (try simp only [and_true,true_and]);grind) h2) (NS.h (τ':=PTS [(some 3,FX 64 rx),(some 3,FX 64 ry)]) (by (try simp only [and_true,true_and]);grind) h3) ⟨hs,hcs⟩
    · exact shortOutputLinesE.c3 hok ht (NS.h (τ':=QUD 64 rg ra rb rc) (by (try simp only [and_true,true_and]);grind) h1) (NS.h (τ':=TRN 64 t h) (by (try simp only [and_true,true_and]);grind) h2) (NS.h (τ':=PTS [(some 3,FX 64 rx),(some 3,FX 64 ry)]) (by (try simp only [and_true,true_and]);grind) h3) ⟨hs,hcs⟩
  | false=>exact longOutputLines.c3 hok ht h1 h2 h3 hs
end Go.Proofs.YtnjbcjmkkejfpaaGreatDoor
namespace Go.Proofs.YtnjbcjmkkejfpaaGreatDoor
open Go.RowKit (Below)
def G0of (W : World) : Gh:=fun b=>W.heap[b]?
theorem G0of_ok (W : World) : Gok W (G0of W):=fun _ _ h=>h
theorem Gc_G0 {W : World} {b i : Nat} : Gc (G0of W) b i = W.cell? ⟨b,i,none⟩:=by
  unfold Gc G0of World.cell?;cases W.heap[b]? with
  | none=>rfl
  | some o=>cases o <;> rfl
def RdA (P : Program) (W : World) (t : TypeId) (k : Option Nat) (A : MT → Prop) : Prop:=∀ (H : Type) (enc : TypeId × Value → H) (fuel : Nat) (cs : List Value) (x : DataW H × List MemPlace),
  DataW.trod enc P W 0 (fun _=>true) true fuel t cs = some x → (x.1.weights P t).all (· ≤ reachBytes) = true → ∃ (v : Value) (τ : MT),A τ ∧ v.cells.toList = cs ∧ Shaped k v ∧ τ.t v (G0of W)
section
variable {P : Program} {W : World} {t e : TypeId} {k : Option Nat} {A A' : MT → Prop}
theorem RdA.mono (h : RdA P W t k A) (hA : ∀ τ v,A τ → τ.t v (G0of W) → ∃ σ,A' σ ∧ σ.t v (G0of W)) : RdA P W t k A':=fun H enc fuel cs x hx hw=>by
  obtain ⟨v,τ,h1,h2,h3,h4⟩:=h H enc fuel cs x hx hw
  obtain ⟨σ,h5,h6⟩:=hA τ v h1 h4
  exact ⟨v,σ,h5,h2,h3,h6⟩
theorem rd_bool (ht : P.underlying t = some .bool) : RdA P W t none (fun τ=>∃ b,τ = .ex (.bool b)):=fun H enc fuel cs x hx hw=>by
  obtain ⟨b,rfl,rfl⟩:=DataW.trod_bool ht hx
  exact ⟨.bool b,_,⟨b,rfl⟩,rfl,⟨rfl,rfl⟩,rfl⟩
theorem rd_int {kk : IntKind} (ht : P.underlying t = some (.int kk)) : RdA P W t none (fun τ=>∃ z,(Lit.int kk z).wf = true ∧ τ = .ex (.int kk z)):=fun H enc fuel cs x hx hw=>by
  obtain ⟨z,rfl,rfl,h⟩:=DataW.trod_int ht hx
  exact ⟨.int kk z,_,⟨z,h,rfl⟩,rfl,⟨rfl,rfl⟩,rfl⟩
theorem rd_i64 (ht : P.underlying t = some (.int .i64)) : RdA P W t none (fun τ=>∃ z : Int,τ = .ex (.int .i64 z)):=(rd_int ht).mono fun τ v ⟨z,_,e⟩ hv=>⟨τ,⟨z,e⟩,hv⟩
theorem rd_u8 (ht : P.underlying t = some (.int .u8)) : RdA P W t none (fun τ=>∃ z : Fin 256,τ = .ex (.int .u8 ((z.val : Nat) : Int))):=(rd_int ht).mono fun τ v ⟨z,hz,e⟩ hv=>by
  have h0 : (0 : Int) ≤ z:=of_decide_eq_true (Bool.and_eq_true_iff.1 hz).1
  have h1 : z ≤ 255:=of_decide_eq_true (Bool.and_eq_true_iff.1 hz).2
  refine ⟨τ,⟨⟨z.toNat,by omega⟩,?_⟩,hv⟩
  rw [e];show _ = MT.ex (.int .u8 ((z.toNat : Nat) : Int));rw [Int.toNat_of_nonneg h0]
theorem cells_get {a : Addr} {n : Nat} {L : List Value} (h : W.cells? 0 a n = some L) : L.length = n ∧ ∀ j,j < n → W.cell? (a.add j) = L[j]?:=by
  unfold World.cells? at h
  rw [if_pos (Nat.zero_le _)] at h
  exact ⟨by simpa using mapM_some_length h,fun j hj=>mapM_some_get h j j (by simp [hj])⟩
theorem weightsAll_mem {H : Type} {es : List (DataW H)} {d : DataW H} {i : Nat} (hi : es[i]? = some d) : ∀ n ∈ d.weights P e,n ∈ DataW.weightsAll P e es:=by
  induction es generalizing i with
  | nil=>simp at hi
  | cons x r ih =>
    intro n hn
    rw [DataW.weightsAll,List.mem_append]
    cases i with
    | zero=>simp at hi;subst hi;exact .inl hn
    | succ j=>exact .inr (ih (by simpa using hi) n hn)
theorem rd_sliceB (ht : P.underlying t = some (.slice e)) (hc : P.cellsOf e = k.getD 1) (hc0 : 0 < k.getD 1) (hb : 4 ≤ P.bytesOf e) (h : RdA P W e k A) : RdA P W t none (fun τ=>∃ τs,(∀ σ ∈ τs,A σ) ∧ τs.length * P.bytesOf e ≤ 140737488351232 ∧ τ = LS k τs):=fun H enc fuel cs x hx hw=>by
  rcases DataW.trod_slice ht hx with ⟨rfl,rfl⟩ | ⟨a,len,cap,elems,rest,n,rfl,rfl,rfl,hb0,hlc,hcm,hel,hE,_,_⟩
  · exact ⟨.slice none 0 0,LS k [],⟨[],by simp,by simp,rfl⟩,rfl,⟨rfl,rfl⟩,LS.nil⟩
  · simp only [DataW.weights,ht,List.all_cons,List.all_append,Bool.and_eq_true,decide_eq_true_eq] at hw
    obtain ⟨hw1,hw2,_⟩:=hw
    have hlim : len ≤ LIM:=by
      have h1 : len * 4 ≤ ((elems.map (·.1)).length + (rest.map (·.1)).length) * P.bytesOf e:=Nat.mul_le_mul (by simp;omega) hb
      have h2 : reachBytes = 140737488351232:=rfl
      simp only [LIM];omega
    have hby : len * P.bytesOf e ≤ 140737488351232:=by
      have h1 : len * P.bytesOf e ≤ ((elems.map (·.1)).length + (rest.map (·.1)).length) * P.bytesOf e:=Nat.mul_le_mul_right _ (by simp;omega)
      have h2 : reachBytes = 140737488351232:=rfl
      omega
    have each : ∀ i,∃ (v : Value) (τ : MT),i < len → W.cells? 0 (a.add (i * k.getD 1)) (k.getD 1) = some v.cells.toList ∧ A τ ∧ Shaped k v ∧ τ.t v (G0of W):=fun i=>by
      by_cases hi : i < len
      · have h1:=hE i hi
        rw [List.getElem?_eq_getElem (by omega),Option.bind_eq_some_iff,hc] at h1
        obtain ⟨cs',h2,h3⟩:=h1
        obtain ⟨v,τ,h4,h5,h6,h7⟩:=h H enc n cs' _ h3 (List.all_eq_true.2 fun m hm=>List.all_eq_true.1 hw2 m (weightsAll_mem (i:=i) (by rw [List.getElem?_map,List.getElem?_eq_getElem (by omega)];rfl) m hm))
        exact ⟨v,τ,fun _=>⟨by rw [h5];exact h2,h4,h6,h7⟩⟩
      · exact ⟨undef,.ex undef,fun h=>absurd h hi⟩
    obtain ⟨f,g,hfg⟩ : ∃ (f : Nat → Value) (g : Nat → MT),∀ i,i < len → W.cells? 0 (a.add (i * k.getD 1)) (k.getD 1) = some (f i).cells.toList ∧ A (g i) ∧ Shaped k (f i) ∧ (g i).t (f i) (G0of W):=⟨fun i=>(each i).choose,fun i=>(each i).choose_spec.choose,fun i=>(each i).choose_spec.choose_spec⟩
    refine ⟨.slice (some a) len cap,LS k ((List.range len).map g),⟨_,fun σ hσ=>?_,by simpa using hby,rfl⟩,rfl,⟨rfl,rfl⟩,LS.of_vals (us:=(List.range len).map f) (A:=some a) (c:=cap) (by simp) (by simpa using hlc) (by simpa using hlim) ⟨by simp,fun i τ u hi hu=>?_⟩ fun i u hu=>?_⟩
    · obtain ⟨i,hi,rfl⟩:=List.mem_map.1 hσ
      exact (hfg i (by simpa using hi)).2.1
    · have hlt : i < len:=by have:=(List.getElem?_eq_some_iff.1 hi).1;simpa using this
      simp [List.getElem?_range hlt] at hi hu
      subst hi;subst hu
      exact (hfg i hlt).2.2
    · have hlt : i < len:=by have:=(List.getElem?_eq_some_iff.1 hu).1;simpa using this
      simp [List.getElem?_range hlt] at hu
      subst hu
      obtain ⟨h1,h2,h3,h4⟩:=hfg i hlt
      obtain ⟨h5,h6⟩:=cells_get h1
      obtain ⟨g5,g6⟩:=cells_get (hfg 0 (by omega)).1
      obtain ⟨b,off,spot⟩:=a
      have h7:=g6 0 hc0
      rw [List.getElem?_eq_getElem (by omega)] at h7
      have hs : spot = none:=by simpa [Addr.add] using World.cell?_spot h7
      subst hs
      refine ⟨b,off,rfl,fun j x hj=>?_⟩
      have hjl : j < k.getD 1:=by have:=(Array.getElem?_eq_some_iff.1 hj).1;rw [← h5,Array.length_toList];exact this
      have h8:=h6 j hjl
      rw [Gc_G0]
      rw [addr_add,addr_add,Array.getElem?_toList,hj] at h8
      exact h8
theorem rd_slice (ht : P.underlying t = some (.slice e)) (hc : P.cellsOf e = k.getD 1) (hc0 : 0 < k.getD 1) (hb : 4 ≤ P.bytesOf e) (h : RdA P W e k A) : RdA P W t none (fun τ=>∃ τs,(∀ σ ∈ τs,A σ) ∧ τ = LS k τs) :=
  (rd_sliceB ht hc hc0 hb h).mono fun τ v ⟨τs,h1,_,h2⟩ hv=>⟨τ,⟨τs,h1,h2⟩,hv⟩
theorem forall_map {α : Type} {T : α → MT} {τs : List MT} (h : ∀ σ ∈ τs,∃ x,σ = T x) : ∃ xs : List α,τs = xs.map T:=by
  induction τs with
  | nil=>exact ⟨[],rfl⟩
  | cons a r ih =>
    obtain ⟨l,rfl⟩:=ih fun σ h'=>h σ (List.mem_cons_of_mem _ h')
    obtain ⟨x,rfl⟩:=h a (List.mem_cons_self ..)
    exact ⟨x :: l,rfl⟩
theorem forall_map' {α : Type} {T : α → MT} {p : α → Prop} {τs : List MT} (h : ∀ σ ∈ τs,∃ x,p x ∧ σ = T x) : ∃ xs : List α,τs = xs.map T ∧ ∀ x ∈ xs,p x:=by
  induction τs with
  | nil=>exact ⟨[],rfl,by simp⟩
  | cons a r ih =>
    obtain ⟨l,rfl,hl⟩:=ih fun σ h'=>h σ (List.mem_cons_of_mem _ h')
    obtain ⟨x,hx,rfl⟩:=h a (List.mem_cons_self ..)
    exact ⟨x :: l,rfl,by simpa using ⟨hx,hl⟩⟩
theorem rd_words (ht : P.underlying t = some (.slice e)) (hu : P.underlying e = some (.int .u32)) (hc : P.cellsOf e = 1) (hb : 4 ≤ P.bytesOf e) : RdA P W t none (fun τ=>∃ l,τ = SL l):=by
  have h1 : RdA P W e none (fun τ=>∃ x : Nat,x < 4294967296 ∧ τ = .ex (u32 x)):=(rd_int hu).mono fun τ v ⟨z,hz,hτ⟩ hv=>by
    subst hτ
    have hm : IntKind.u32.min = 0:=by decide
    have hM : IntKind.u32.max = 4294967295:=by decide
    simp [Lit.wf,hm,hM] at hz
    exact ⟨_,⟨z.toNat,by omega,rfl⟩,by
      have : (z.toNat : Int) = z:=by omega
      show v = .int .u32 (z.toNat : Int);rw [this];exact hv⟩
  refine (rd_slice (k:=none) ht hc (by decide) hb h1).mono fun τ v ⟨τs,hσ,hτ⟩ hv=>?_
  subst hτ
  obtain ⟨l,hl,hlt⟩:=forall_map' hσ
  subst hl
  obtain ⟨A,c,us,h2,h3,h4,h5,h6⟩:=LS.vals hv
  rw [List.length_map] at h2 h3 h4
  refine ⟨_,⟨l,rfl⟩,A,c,h2,h3,h4,hlt,fun i x hi=>?_⟩
  have hil:=(List.getElem?_eq_some_iff.1 hi).1
  have hul : i < us.length:=by rw [h5.1,List.length_map];exact hil
  have hui : us[i]? = some us[i]:=by rw [List.getElem?_eq_getElem hul]
  have h7:=(h5.2 i (.ex (u32 x)) us[i] (by rw [List.getElem?_map,hi];rfl) hui).2
  obtain ⟨b,off,e1,h8⟩:=h6 i us[i] hui
  refine ⟨b,off,e1,?_⟩
  have h9 : us[i] = u32 x:=h7
  rw [h9] at h8
  simpa using h8 0 (u32 x) rfl
def FldOk (P : Program) (W : World) : Nat → List Field → List (Option Nat × (MT → Prop)) → Prop
  | _,[],[]=>True
  | off,f :: fs,a :: As=>f.offset = off ∧ P.cellsOf f.type = a.1.getD 1 ∧ RdA P W f.type a.1 a.2 ∧ FldOk P W (off + a.1.getD 1) fs As
  | _,_,_=>False
def Mt : List (Option Nat × (MT → Prop)) → List (Option Nat × MT) → Prop
  | [],[]=>True
  | a :: As,f :: F=>f.1 = a.1 ∧ a.2 f.2 ∧ Mt As F
  | _,_=>False
def tot (As : List (Option Nat × (MT → Prop))) : Nat:=(As.map fun a=>a.1.getD 1).sum
theorem Mt.tot : ∀ {As : List (Option Nat × (MT → Prop))} {F : List (Option Nat × MT)},Mt As F → (F.map fun f=>f.1.getD 1).sum = Go.Proofs.YtnjbcjmkkejfpaaGreatDoor.tot As
  | [],[],_=>rfl
  | a :: As,f :: F,h=>by
    have:=Mt.tot h.2.2
    simp only [Go.Proofs.YtnjbcjmkkejfpaaGreatDoor.tot,List.map_cons,List.sum_cons,h.1] at this ⊢
    rw [this]
  | [],_ :: _,h=>h.elim
  | _ :: _,[],h=>h.elim
theorem rd_fields {H : Type} {enc : TypeId × Value → H} {n : Nat} {cs : List Value} : ∀ (fs : List Field) (As : List (Option Nat × (MT → Prop))) (xs : List (DataW H × List MemPlace)) (off : Nat), FldOk P W off fs As → xs.length = fs.length →
    (∀ (i : Nat) (f : Field),fs[i]? = some f → DataW.trod enc P W 0 (fun _=>true) true n f.type ((cs.drop f.offset).take (P.cellsOf f.type)) = xs[i]?) → (DataW.weightsEach P (fs.map (·.type)) (xs.map (·.1))).all (· ≤ reachBytes) = true → cs.length = off + tot As →
    ∃ us F,Mt As F ∧ flat us = cs.drop off ∧ us.length = F.length ∧ ∀ (i : Nat) (f : Option Nat × MT) (u : Value),F[i]? = some f → us[i]? = some u → Shaped f.1 u ∧ f.2.t u (G0of W)
  | [],[],xs,off,_,_,_,_,hl=>⟨[],[],trivial,by rw [List.drop_eq_nil_of_le (by rw [hl];simp [tot])];rfl,rfl,fun i f u h=>by simp at h⟩
  | f :: fs,a :: As,[],off,_,hx,_,_,_=>by simp at hx
  | f :: fs,a :: As,x :: xs,off,hF,hx,hT,hw,hl=>by
    obtain ⟨h1,h2,h3,h4⟩:=hF
    simp only [List.map_cons,DataW.weightsEach,List.all_append,Bool.and_eq_true] at hw
    obtain ⟨v,τ,h5,h6,h7,h8⟩:=h3 H enc n _ x (hT 0 f rfl) hw.1
    obtain ⟨us,F,g1,g2,g3,g4⟩:=rd_fields fs As xs (off + a.1.getD 1) h4 (by simpa using hx) (fun i g hg=>by simpa using hT (i + 1) g (by simpa using hg)) hw.2 (by rw [hl];simp [tot];omega)
    refine ⟨v :: us,(a.1,τ) :: F,⟨rfl,h5,g1⟩,?_,by simp [g3],fun i f' u hf hu=>?_⟩
    · rw [flat_cons,h6,g2,h1,h2,← List.drop_drop,List.take_append_drop]
    · cases i with
      | zero=>simp at hf hu;subst hf;subst hu;exact ⟨h7,h8⟩
      | succ i=>exact g4 i f' u (by simpa using hf) (by simpa using hu)
  | [],_ :: _,_,_,h,_,_,_,_=>h.elim
  | _ :: _,[],_,_,h,_,_,_,_=>h.elim
theorem rd_struct {fs : Array Field} {As : List (Option Nat × (MT → Prop))} {n : Nat} (ht : P.underlying t = some (.struct fs)) (hn : P.cellsOf t = n) (hnA : tot As = n) (hF : FldOk P W 0 fs.toList As) : RdA P W t (some n) (fun τ=>∃ F,Mt As F ∧ τ = PTS F):=fun H enc fuel cs x hx hw=>by
  obtain ⟨xs,m,rfl,rfl,hl,hxl,hT⟩:=DataW.trod_struct ht hx
  simp only [DataW.weights,ht] at hw
  obtain ⟨us,F,h1,h2,h3,h4⟩:=rd_fields fs.toList As xs 0 hF (by simpa using hxl) (fun i f hf=>hT i f (by simpa using hf)) hw (by omega)
  have hP : (PTS F).t (.agg (flat us).toArray) (G0of W):=⟨us,rfl,h3,h4⟩
  refine ⟨.agg (flat us).toArray,PTS F,⟨F,h1,rfl⟩,by rw [h2];rfl,PTS.shaped (by unfold offs;rw [List.take_length,h1.tot,hnA]) hP,hP⟩
theorem shaped1 {u : Value} (h : Shaped none u) : u.cells = #[u]:=h.1
theorem PTS.toQR {s : Bool} {p q : List Nat} {v : Value} {G : Gh} (h : (PTS [(none,.ex (.bool s)),(none,SL p),(none,SL q)]).t v G) : (QR s p q).t v G:=by
  obtain ⟨us,rfl,hl,h⟩:=h
  match us,hl,h with
  | [u0,u1,u2],_,h =>
    obtain ⟨a0,b0⟩:=h 0 _ u0 rfl rfl
    obtain ⟨a1,b1⟩:=h 1 _ u1 rfl rfl
    obtain ⟨a2,b2⟩:=h 2 _ u2 rfl rfl
    refine ⟨u1,u2,?_,b1,b2⟩
    have e0 : u0 = .bool s:=b0
    simp only [flat,List.flatMap_cons,List.flatMap_nil,shaped1 a0,shaped1 a1,shaped1 a2]
    rw [e0];rfl
theorem rd_frac {fs : Array Field} {f0 f1 f2 : Field} {tw : TypeId} (ht : P.underlying t = some (.struct fs)) (hf : fs.toList = [f0, f1, f2]) (hn : P.cellsOf t = 3) (h0 : f0.offset = 0 ∧ P.cellsOf f0.type = 1 ∧ P.underlying f0.type = some .bool) (h1 : f1.offset = 1 ∧ f1.type = tw) (h2 : f2.offset = 2 ∧ f2.type = tw)
    (hw : P.underlying tw = some (.slice e) ∧ P.cellsOf tw = 1) (he : P.underlying e = some (.int .u32) ∧ P.cellsOf e = 1 ∧ 4 ≤ P.bytesOf e) : RdA P W t (some 3) (fun τ=>∃ r : FR,τ = QR r.s r.p r.q):=by
  have hW : RdA P W tw none (fun τ=>∃ l,τ = SL l):=rd_words hw.1 he.1 he.2.1 he.2.2
  refine (rd_struct (As:=[(none,fun τ=>∃ b,τ = .ex (.bool b)),(none,fun τ=>∃ l,τ = SL l),(none,fun τ=>∃ l,τ = SL l)]) ht hn rfl (by
    rw [hf];exact ⟨h0.1,h0.2.1,rd_bool h0.2.2,h1.1,by rw [h1.2];exact hw.2,by rw [h1.2];exact hW,h2.1,by rw [h2.2];exact hw.2,by rw [h2.2];exact hW,trivial⟩)).mono fun τ v ⟨F,hM,hτ⟩ hv=>?_
  subst hτ
  match F,hM with
  | [a,b,c],⟨a1,⟨s,a2⟩,b1,⟨p,b2⟩,c1,⟨q,c2⟩,_⟩ =>
    obtain ⟨a0,a'⟩:=a;obtain ⟨b0,b'⟩:=b;obtain ⟨c0,c'⟩:=c
    simp only at a1 a2 b1 b2 c1 c2
    subst a1;subst a2;subst b1;subst b2;subst c1;subst c2
    exact ⟨_,⟨⟨s,p,q⟩,rfl⟩,PTS.toQR hv⟩
theorem rd_list {α : Type} {T : α → MT} (ht : P.underlying t = some (.slice e)) (hc : P.cellsOf e = k.getD 1) (hc0 : 0 < k.getD 1) (hb : 4 ≤ P.bytesOf e) (h : RdA P W e k (fun τ=>∃ x,τ = T x)) : RdA P W t none (fun τ=>∃ xs : List α,τ = LS k (xs.map T)) :=
  (rd_slice ht hc hc0 hb h).mono fun τ v ⟨τs,hσ,hτ⟩ hv=>by
    obtain ⟨xs,rfl⟩:=forall_map hσ
    subst hτ
    exact ⟨_,⟨xs,rfl⟩,hv⟩
theorem rd_listB {α : Type} {T : α → MT} {c : Nat} (ht : P.underlying t = some (.slice e)) (hc : P.cellsOf e = k.getD 1) (hc0 : 0 < k.getD 1) (hb : 4 ≤ P.bytesOf e) (hbc : P.bytesOf e = c) (h : RdA P W e k (fun τ=>∃ x,τ = T x)) : RdA P W t none (fun τ=>∃ xs : { xs : List α // xs.length * c ≤ 140737488351232 },τ = LS k (xs.1.map T)) :=
  (rd_sliceB ht hc hc0 hb h).mono fun τ v ⟨τs,hσ,hl,hτ⟩ hv=>by
    obtain ⟨xs,rfl⟩:=forall_map hσ
    subst hτ
    rw [List.length_map,hbc] at hl
    exact ⟨_,⟨⟨xs,hl⟩,rfl⟩,hv⟩
theorem rd_arg {H : Type} {enc : TypeId × Value → H} {v : Value} {d : DataW H} {ps : List MemPlace} (h : RdA P W t k A) (hd : DataW.Trod enc P W 0 (fun _ => true) true t v d ps) (hw : (d.weights P t).all (· ≤ reachBytes) = true)
    (hv : match k with | none=>v.cells = #[v] | some _=>∃ cs,v = .agg cs) : ∃ τ,A τ ∧ Shaped k v ∧ τ.t v (G0of W):=by
  obtain ⟨fuel,hf⟩:=hd
  obtain ⟨u,τ,h1,h2,h3,h4⟩:=h H enc fuel _ _ hf hw
  have : u = v:=by
    cases k with
    | none =>
      have h5 : u.cells = #[u]:=h3.1
      rw [h5,hv] at h2
      simpa using h2
    | some n =>
      obtain ⟨cs,rfl⟩:=hv
      obtain ⟨cs',rfl,_⟩:=h3
      have : cs'.toList = cs.toList:=h2
      rw [Array.toList_inj.1 this]
  subst this
  exact ⟨τ,h1,h3,h4⟩
end
end Go.Proofs.YtnjbcjmkkejfpaaGreatDoor
