import Derived.Test.YtlbdoeliaeennaaGreatQh
set_option linter.unusedVariables false
set_option linter.unusedSimpArgs false
set_option linter.unusedVariables false
set_option linter.unusedSimpArgs false
set_option maxHeartbeats 4000000
set_option maxRecDepth 100000
set_option synthInstance.maxSize 100000
set_option synthInstance.maxHeartbeats 400000
namespace Go.Proofs.YtlbdoeliaeennaaGreat
open Go.RowKit (Below)
private theorem mixedOrders : Tryz.prog.follows .mixedOrders = true:=by kernel_rfl
theorem nsg (x : Rat) : x.num.sign < 0 ↔ x < 0:=by
  have h1:=@rat_pos_iff x;have h2:=@Rat.num_eq_zero x;have h3:=sgn_cases x.num
  constructor
  · intro h;have : ¬ 0 < x:=fun k=>by have:=h1.1 k;omega
    have : x ≠ 0:=fun e=>by have:=h2.2 e;omega
    grind
  · intro h;have : ¬ 0 < x.num:=fun k=>by have:=h1.2 k;grind
    have : x.num ≠ 0:=fun e=>by have:=h2.1 e;grind
    omega
def absQ (x : Rat) : Rat:=if x < 0 then -x else x
theorem W.drp {L L' : List (Nat × MT)} {B : List BX} {W0 : World} {G0 : Gh} {N : Nat} {a : Act} {w : World} {G : Gh} {q : Prop} (t : Nat) (τ : MT) [h : Lk L t τ] [r : Rm L t L'] (K : St W0 G0 N L' B a w G → q) : St W0 G0 N L B a w G → q:=fun S=>K (S.only r.h)
attribute [local irreducible] plusF minusF joinF levI lev PW RLN tB sB timesF stepF tmF normF TOK sgL surdsF chkF gapC fullF
theorem w52 {n : Nat} {x : Rat} : Con Tryz.prog 52 [QV n x] (n + 2 ≤ BIG) (QC (n + 2) (absQ x)):=.o1 fun hok h1 hp=>by
  refine St.enter (N:=11) Tryz.func52 rfl rfl rfl hok (enter1 h1) fun a=>?_
  repeat' (first | refine W.run ?_ fun a w G=>?_ | refine W.mv fun a w G=>?_ | refine W.asg fun a w G=>?_ | refine W.bx fun b a w G=>?_ | (refine W.nn hK ?_;clear hK K) | refine W.reg fun K hK=>?_ | refine W.reg1 ?_ | refine W.nl ?_ | refine W.sq fun K hK=>?_ | refine W.ds ?_ (fun β a w G hu=>W.fin ?_ hu) mixedOrders (by kernel_rfl) | refine W.sk ?_ | (refine W.kn hK ?_;clear hK K) | refine W.cd (fun hc=>?_) (fun hc=>?_) | refine W.cb (fun hc=>?_) (fun hc=>?_) | refine W.al fun b a w G=>?_ | refine W.st fun w=>?_ | refine W.stp fun w=>?_ | refine W.ste ?_ fun w=>?_ | refine W.bl ?_ | refine W.bn ?_ | refine W.ex ?_ | refine W.xt ?_ | refine W.xb ?_ | refine W.xo ?_ | refine W.rt ?_ | refine W.tr ?_ | refine W.br ?_ | refine W.rt1 rfl ?_ | refine W.rt2 rfl ?_ ?_ | refine W.rt3 rfl ?_ ?_ ?_ | clear hK K | clear hu | exact True.intro | exact Nat.le_trans (by clear hp;omega) hp | exact Nat.le_trans (by clear hp;omega) hp.1 | exact Nat.le_trans (by clear hp;omega) hp.2 | (clear hp;omega) | apply And.intro | refine GI.i fun _=>?_ | with_reducible rfl | decide | (simp only [List.length_cons,List.length_nil];omega))
  all_goals first
    | omega
    | (unfold absQ;rw [if_pos ((nsg x).1 hc)])
    | (unfold absQ;rw [if_neg (fun e=>hc ((nsg x).2 e))];grind [zv0'])
    | skip
instance {n : Nat} {x : Rat} {τ1 : MT} [j1 : NQ τ1 (QV n x)] : Con Tryz.prog 52 [τ1] (n + 2 ≤ BIG) (QC (n + 2) (absQ x)):=.o1 fun hok h1 hp=>w52.c1 hok (j1.h h1) hp
theorem w53 {n : Nat} {rg ra rb rc : FR} : Con Tryz.prog 53 [QUD n rg ra rb rc] (100 * n + 1000 ≤ BIG) (MT.tup3 (QC (4 * n + 3) (rg.val + ra.val - (rb.val + rc.val))) (QC (n + n) (ra.val * rg.val)) (QC (n + n) (rb.val * rc.val))):=.o1 fun hok h1 hp=>by
  refine St.enter (N:=27) Tryz.func53 rfl rfl rfl hok (enter1 h1) fun a=>?_
  repeat' (first | refine W.run ?_ fun a w G=>?_ | refine W.mv fun a w G=>?_ | refine W.asg fun a w G=>?_ | refine W.bx fun b a w G=>?_ | (refine W.nn hK ?_;clear hK K) | refine W.reg fun K hK=>?_ | refine W.reg1 ?_ | refine W.nl ?_ | refine W.sq fun K hK=>?_ | refine W.ds ?_ (fun β a w G hu=>W.fin ?_ hu) mixedOrders (by kernel_rfl) | refine W.sk ?_ | (refine W.kn hK ?_;clear hK K) | refine W.cd (fun hc=>?_) (fun hc=>?_) | refine W.cb (fun hc=>?_) (fun hc=>?_) | refine W.al fun b a w G=>?_ | refine W.st fun w=>?_ | refine W.stp fun w=>?_ | refine W.ste ?_ fun w=>?_ | refine W.bl ?_ | refine W.bn ?_ | refine W.ex ?_ | refine W.xt ?_ | refine W.xb ?_ | refine W.xo ?_ | refine W.rt ?_ | refine W.tr ?_ | refine W.br ?_ | refine W.rt1 rfl ?_ | refine W.rt2 rfl ?_ ?_ | refine W.rt3 rfl ?_ ?_ ?_ | clear hK K | clear hu | exact True.intro | exact Nat.le_trans (by clear hp;omega) hp | exact Nat.le_trans (by clear hp;omega) hp.1 | exact Nat.le_trans (by clear hp;omega) hp.2 | (clear hp;omega) | apply And.intro | refine GI.i fun _=>?_ | with_reducible rfl | decide | (simp only [List.length_cons,List.length_nil];omega))
  all_goals first | omega | skip
instance {n : Nat} {rg ra rb rc : FR} {τ1 : MT} [j1 : NF τ1 (QUD n rg ra rb rc)] : Con Tryz.prog 53 [τ1] (100 * n + 1000 ≤ BIG) (MT.tup3 (QC (4 * n + 3) (rg.val + ra.val - (rb.val + rc.val))) (QC (n + n) (ra.val * rg.val)) (QC (n + n) (rb.val * rc.val))):=.o1 fun hok h1 hp=>w53.c1 hok (j1.h h1) hp
theorem w17 {n : Nat} {r : FR} : Con Tryz.prog 17 [FX n r] (n + 100 ≤ BIG) (MT.tup2 (BT r.ok) (BT (decide (cmpQ (absQ r.val) 1 ≤ 0)))):=.o1 fun hok h1 hp=>by
  refine St.enter (N:=13) Tryz.func17 rfl rfl rfl hok (enter1 h1) fun a=>?_
  repeat' (first | refine W.drp 2 (.ex (.bool false)) ?_ | refine W.drp 3 (.ex (.bool false)) ?_ | refine W.run ?_ fun a w G=>?_ | refine W.mv fun a w G=>?_ | refine W.asg fun a w G=>?_ | refine W.bx fun b a w G=>?_ | (refine W.nn hK ?_;clear hK K) | refine W.reg fun K hK=>?_ | refine W.reg1 ?_ | refine W.nl ?_ | refine W.sq fun K hK=>?_ | refine W.ds ?_ (fun β a w G hu=>W.fin ?_ hu) mixedOrders (by kernel_rfl) | refine W.sk ?_ | (refine W.kn hK ?_;clear hK K) | refine W.cd (fun hc=>?_) (fun hc=>?_) | refine W.cb (fun hc=>?_) (fun hc=>?_) | refine W.al fun b a w G=>?_ | refine W.st fun w=>?_ | refine W.stp fun w=>?_ | refine W.ste ?_ fun w=>?_ | refine W.bl ?_ | refine W.bn ?_ | refine W.ex ?_ | refine W.xt ?_ | refine W.xb ?_ | refine W.xo ?_ | refine W.rt ?_ | refine W.tr ?_ | refine W.br ?_ | refine W.rt1 rfl ?_ | refine W.rt2 rfl ?_ ?_ | refine W.rt3 rfl ?_ ?_ ?_ | clear hK K | clear hu | exact True.intro | exact Nat.le_trans (by clear hp;omega) hp | exact Nat.le_trans (by clear hp;omega) hp.1 | exact Nat.le_trans (by clear hp;omega) hp.2 | (clear hp;omega) | apply And.intro | refine GI.i fun _=>?_ | with_reducible rfl | decide | (simp only [List.length_cons,List.length_nil];omega))
  all_goals first | omega | skip
instance {n : Nat} {r : FR} {τ1 : MT} [j1 : NF τ1 (FX n r)] : Con Tryz.prog 17 [τ1] (n + 100 ≤ BIG) (MT.tup2 (BT r.ok) (BT (decide (cmpQ (absQ r.val) 1 ≤ 0)))):=.o1 fun hok h1 hp=>w17.c1 hok (j1.h h1) hp
theorem w19 {n m : Nat} {rg ra rb rc : FR} {k : Rat} : Con Tryz.prog 19 [QUD n rg ra rb rc,QV m k] (1000 * n + 1000 * m + 200000 ≤ BIG) (MT.tup2 (IT (nearF rg ra rb rc k)) (IT (farF rg ra rb rc k))):=.o2 fun hok h1 h2 hp=>by
  refine St.enter (N:=39) Tryz.func19 rfl rfl rfl hok (enter2 h1 h2) fun a=>?_
  repeat' (first | refine W.run ?_ fun a w G=>?_ | refine W.mv fun a w G=>?_ | refine W.asg fun a w G=>?_ | refine W.bx fun b a w G=>?_ | (refine W.nn hK ?_;clear hK K) | refine W.reg fun K hK=>?_ | refine W.reg1 ?_ | refine W.nl ?_ | refine W.sq fun K hK=>?_ | refine W.ds ?_ (fun β a w G hu=>W.fin ?_ hu) mixedOrders (by kernel_rfl) | refine W.sk ?_ | (refine W.kn hK ?_;clear hK K) | refine W.cd (fun hc=>?_) (fun hc=>?_) | refine W.cb (fun hc=>?_) (fun hc=>?_) | refine W.al fun b a w G=>?_ | refine W.st fun w=>?_ | refine W.stp fun w=>?_ | refine W.ste ?_ fun w=>?_ | refine W.bl ?_ | refine W.bn ?_ | refine W.ex ?_ | refine W.xt ?_ | refine W.xb ?_ | refine W.xo ?_ | refine W.rt ?_ | refine W.tr ?_ | refine W.br ?_ | refine W.rt1 rfl ?_ | refine W.rt2 rfl ?_ ?_ | refine W.rt3 rfl ?_ ?_ ?_ | clear hK K | clear hu | exact True.intro | exact Nat.le_trans (by clear hp;omega) hp | exact Nat.le_trans (by clear hp;omega) hp.1 | exact Nat.le_trans (by clear hp;omega) hp.2 | (clear hp;omega) | apply And.intro | refine GI.i fun _=>?_ | with_reducible rfl | decide | (simp only [List.length_cons,List.length_nil];omega))
  all_goals first
    | omega
    | rfl
    | (unfold farF;congr 1;grind)
    | skip
instance {n m : Nat} {rg ra rb rc : FR} {k : Rat} {τ1 : MT} [j1 : NF τ1 (QUD n rg ra rb rc)] {τ2 : MT} [j2 : NQ τ2 (QV m k)] : Con Tryz.prog 19 [τ1,τ2] (1000 * n + 1000 * m + 200000 ≤ BIG) (MT.tup2 (IT (nearF rg ra rb rc k)) (IT (farF rg ra rb rc k))):=.o2 fun hok h1 h2 hp=>w19.c2 hok (j1.h h1) (j2.h h2) hp
theorem w16 {n : Nat} {rg ra rb rc : FR} : Con Tryz.prog 16 [QUD n rg ra rb rc] (1000 * n + 300000 ≤ BIG) (BT (decide (nearF rg ra rb rc 1 ≥ 0) && decide (farF rg ra rb rc (-1) ≥ 0))):=.o1 fun hok h1 hp=>by
  refine St.enter (N:=25) Tryz.func16 rfl rfl rfl hok (enter1 h1) fun a=>?_
  repeat' (first | refine W.run ?_ fun a w G=>?_ | refine W.mv fun a w G=>?_ | refine W.asg fun a w G=>?_ | refine W.bx fun b a w G=>?_ | (refine W.nn hK ?_;clear hK K) | refine W.reg fun K hK=>?_ | refine W.reg1 ?_ | refine W.nl ?_ | refine W.sq fun K hK=>?_ | refine W.ds ?_ (fun β a w G hu=>W.fin ?_ hu) mixedOrders (by kernel_rfl) | refine W.sk ?_ | (refine W.kn hK ?_;clear hK K) | refine W.cd (fun hc=>?_) (fun hc=>?_) | refine W.cb (fun hc=>?_) (fun hc=>?_) | refine W.al fun b a w G=>?_ | refine W.st fun w=>?_ | refine W.stp fun w=>?_ | refine W.ste ?_ fun w=>?_ | refine W.bl ?_ | refine W.bn ?_ | refine W.ex ?_ | refine W.xt ?_ | refine W.xb ?_ | refine W.xo ?_ | refine W.rt ?_ | refine W.tr ?_ | refine W.br ?_ | refine W.rt1 rfl ?_ | refine W.rt2 rfl ?_ ?_ | refine W.rt3 rfl ?_ ?_ ?_ | clear hK K | clear hu | exact True.intro | exact Nat.le_trans (by clear hp;omega) hp | exact Nat.le_trans (by clear hp;omega) hp.1 | exact Nat.le_trans (by clear hp;omega) hp.2 | (clear hp;omega) | apply And.intro | refine GI.i fun _=>?_ | with_reducible rfl | decide | (simp only [List.length_cons,List.length_nil];omega))
  all_goals first | omega | rfl | skip
instance {n : Nat} {rg ra rb rc : FR} {τ1 : MT} [j1 : NF τ1 (QUD n rg ra rb rc)] : Con Tryz.prog 16 [τ1] (1000 * n + 300000 ≤ BIG) (BT (decide (nearF rg ra rb rc 1 ≥ 0) && decide (farF rg ra rb rc (-1) ≥ 0))):=.o1 fun hok h1 hp=>w16.c1 hok (j1.h h1) hp
theorem shF_t {l : List FR} {j : Nat} (hj : j < l.length) (h : (decide ((((l.getD j default).p.length : Nat) : Int) > 2) || decide ((((l.getD j default).q.length : Nat) : Int) > 2)) = true) : shortF l = false:=by
  unfold shortF
  rw [all_not hj (p:=shortR) (by simp only [Bool.or_eq_true,decide_eq_true_eq] at h;exact shortR_not (by omega)),Bool.false_and]
theorem shR_f {r : FR} (h : (decide (((r.p.length : Nat) : Int) > 2) || decide (((r.q.length : Nat) : Int) > 2)) = false) : shortR r = true:=by
  simp only [Bool.or_eq_false_iff,decide_eq_false_iff_not] at h
  exact shortR_of (by omega) (by omega)
theorem shF_e {l : List FR} {j : Nat} (hj : ¬ j < l.length) (h : (l.take j).all shortR = true) : decide (((l.length : Nat) : Int) < 60) = shortF l:=by
  unfold shortF;rw [all_end hj h,Bool.true_and];exact decide_eq_decide.2 (by omega)
theorem w11 {l : List FR} : Con Tryz.prog 11 [LS (some 3) (l.map RX)] (True) (BT (shortF l)):=.o1 fun hok h1 hp=>by
  refine St.enter (N:=25) Tryz.func11 rfl rfl rfl hok (enter1 h1) fun a=>?_
  have hlim:=LS.lenM h1
  simp only [LIM] at hlim
  repeat' (first | refine W.run ?_ fun a w G=>?_ | refine W.mv fun a w G=>?_ | refine W.asg fun a w G=>?_ | refine W.bx fun b a w G=>?_ | (refine W.nn hK ?_;clear hK K) | refine W.reg fun K hK=>?_ | refine W.reg1 ?_ | refine W.nl ?_ | refine W.sq fun K hK=>?_ | refine W.ds ?_ (fun β a w G hu=>W.fin ?_ hu) mixedOrders (by kernel_rfl) | refine W.sk ?_ | (refine W.kn hK ?_;clear hK K) | refine W.cd (fun hc=>?_) (fun hc=>?_) | refine W.cb (fun hc=>?_) (fun hc=>?_) | refine W.al fun b a w G=>?_ | refine W.st fun w=>?_ | refine W.stp fun w=>?_ | refine W.ste ?_ fun w=>?_ | refine W.bl ?_ | refine W.bn ?_ | refine W.ex ?_ | refine W.xt ?_ | refine W.xb ?_ | refine W.xo ?_ | refine W.rt ?_ | refine W.tr ?_ | refine W.br ?_ | refine W.rt1 rfl ?_ | refine W.rt2 rfl ?_ ?_ | refine W.rt3 rfl ?_ ?_ ?_ | refine W.lp 8 (α:=Nat) (fun j=>l.length - j) (fun j=>j ≤ l.length ∧ (l.take j).all shortR = true) [2,4,7,8,9,10,11,12,13,14,15,16,17,18,19,20,21] (fun j=>[(7,NT j)]) (fun j=>[]) (0) ?_ ?_ ?_ fun j hj a w G=>?_ | refine W.ag (x:=j) (j+1) ?_ ?_ ?_ ?_ | clear hK K | clear hu | exact True.intro | exact Nat.le_trans (by clear hp;omega) hp | exact Nat.le_trans (by clear hp;omega) hp.1 | exact Nat.le_trans (by clear hp;omega) hp.2 | (clear hp;omega) | apply And.intro | refine GI.i fun _=>?_ | with_reducible rfl | decide | (simp only [List.length_cons,List.length_nil];omega))
  all_goals first
    | omega
    | rfl
    | exact (shF_t (by omega) hc).symm
    | exact all_snoc (by omega) hj.2 (shR_f hc)
    | exact shF_e (by omega) hj.2
    | skip
instance {l : List FR} {τ1 : MT} [j1 : NR τ1 (LS (some 3) (l.map RX))] : Con Tryz.prog 11 [τ1] (True) (BT (shortF l)):=.o1 fun hok h1 hp=>w11.c1 hok (j1.h h1) hp
theorem sqX {rg ra rb rc : FR} : Con Tryz.prog 42 [PTS [(some 3,RX rg),(some 3,RX ra),(some 3,RX rb),(some 3,RX rc)]] (True) (AR 12 (some 3) ([rg,ra,rb,rc].map RX)):=.o1 fun hok h1 hp=>by
  refine St.enter (N:=12) Tryz.func42 rfl rfl rfl hok (enter1 h1) fun a=>?_
  repeat' (first | refine W.run ?_ fun a w G=>?_ | refine W.mv fun a w G=>?_ | refine W.asg fun a w G=>?_ | refine W.bx fun b a w G=>?_ | (refine W.nn hK ?_;clear hK K) | refine W.reg fun K hK=>?_ | refine W.reg1 ?_ | refine W.nl ?_ | refine W.sq fun K hK=>?_ | refine W.ds ?_ (fun β a w G hu=>W.fin ?_ hu) mixedOrders (by kernel_rfl) | refine W.sk ?_ | (refine W.kn hK ?_;clear hK K) | refine W.cd (fun hc=>?_) (fun hc=>?_) | refine W.cb (fun hc=>?_) (fun hc=>?_) | refine W.al fun b a w G=>?_ | refine W.st fun w=>?_ | refine W.stp fun w=>?_ | refine W.ste ?_ fun w=>?_ | refine W.bl ?_ | refine W.bn ?_ | refine W.ex ?_ | refine W.xt ?_ | refine W.xb ?_ | refine W.xo ?_ | refine W.rt ?_ | refine W.tr ?_ | refine W.br ?_ | refine W.rt1 rfl ?_ | refine W.rt2 rfl ?_ ?_ | refine W.rt3 rfl ?_ ?_ ?_ | clear hK K | clear hu | exact True.intro | exact Nat.le_trans (by clear hp;omega) hp | exact Nat.le_trans (by clear hp;omega) hp.1 | exact Nat.le_trans (by clear hp;omega) hp.2 | (clear hp;omega) | apply And.intro | refine GI.i fun _=>?_ | with_reducible rfl | decide | (simp only [List.length_cons,List.length_nil];omega))
instance {rg ra rb rc : FR} : Con Tryz.prog 42 [PTS [(some 3,RX rg),(some 3,RX ra),(some 3,RX rb),(some 3,RX rc)]] True (AR 12 (some 3) ([rg,ra,rb,rc].map RX)):=sqX
instance  : Con Tryz.prog 40 [] (True) (QUD 64 (FR.of 16) (FR.of 1) (FR.of 9) (FR.of 9)):=.o0 fun hok  hp=>by
  refine St.enter (N:=6) Tryz.func40 rfl rfl rfl hok enter0 fun a=>?_
  repeat' (first | refine W.run ?_ fun a w G=>?_ | refine W.mv fun a w G=>?_ | refine W.asg fun a w G=>?_ | refine W.bx fun b a w G=>?_ | (refine W.nn hK ?_;clear hK K) | refine W.reg fun K hK=>?_ | refine W.reg1 ?_ | refine W.nl ?_ | refine W.sq fun K hK=>?_ | refine W.ds ?_ (fun β a w G hu=>W.fin ?_ hu) mixedOrders (by kernel_rfl) | refine W.sk ?_ | (refine W.kn hK ?_;clear hK K) | refine W.cd (fun hc=>?_) (fun hc=>?_) | refine W.cb (fun hc=>?_) (fun hc=>?_) | refine W.al fun b a w G=>?_ | refine W.st fun w=>?_ | refine W.stp fun w=>?_ | refine W.ste ?_ fun w=>?_ | refine W.bl ?_ | refine W.bn ?_ | refine W.ex ?_ | refine W.xt ?_ | refine W.xb ?_ | refine W.xo ?_ | refine W.rt ?_ | refine W.tr ?_ | refine W.br ?_ | refine W.rt1 rfl ?_ | refine W.rt2 rfl ?_ ?_ | refine W.rt3 rfl ?_ ?_ ?_ | clear hK K | clear hu | exact True.intro | exact Nat.le_trans (by clear hp;omega) hp | exact Nat.le_trans (by clear hp;omega) hp.1 | exact Nat.le_trans (by clear hp;omega) hp.2 | (clear hp;omega) | apply And.intro | refine GI.i fun _=>?_ | with_reducible rfl | decide | (simp only [List.length_cons,List.length_nil];omega))
theorem w10 {rg ra rb rc : FR} : Con Tryz.prog 10 [PTS [(some 3,RX rg),(some 3,RX ra),(some 3,RX rb),(some 3,RX rc)]] (True) (BT (shortF [rg,ra,rb,rc])):=.o1 fun hok h1 hp=>by
  refine St.enter (N:=8) Tryz.func10 rfl rfl rfl hok (enter1 h1) fun a=>?_
  repeat' (first | refine W.run ?_ fun a w G=>?_ | refine W.mv fun a w G=>?_ | refine W.asg fun a w G=>?_ | refine W.bx fun b a w G=>?_ | (refine W.nn hK ?_;clear hK K) | refine W.reg fun K hK=>?_ | refine W.reg1 ?_ | refine W.nl ?_ | refine W.sq fun K hK=>?_ | refine W.ds ?_ (fun β a w G hu=>W.fin ?_ hu) mixedOrders (by kernel_rfl) | refine W.sk ?_ | (refine W.kn hK ?_;clear hK K) | refine W.cd (fun hc=>?_) (fun hc=>?_) | refine W.cb (fun hc=>?_) (fun hc=>?_) | refine W.al fun b a w G=>?_ | refine W.st fun w=>?_ | refine W.stp fun w=>?_ | refine W.ste ?_ fun w=>?_ | refine W.bl ?_ | refine W.bn ?_ | refine W.ex ?_ | refine W.xt ?_ | refine W.xb ?_ | refine W.xo ?_ | refine W.rt ?_ | refine W.tr ?_ | refine W.br ?_ | refine W.rt1 rfl ?_ | refine W.rt2 rfl ?_ ?_ | refine W.rt3 rfl ?_ ?_ ?_ | clear hK K | clear hu | exact True.intro | exact Nat.le_trans (by clear hp;omega) hp | exact Nat.le_trans (by clear hp;omega) hp.1 | exact Nat.le_trans (by clear hp;omega) hp.2 | (clear hp;omega) | apply And.intro | refine GI.i fun _=>?_ | with_reducible rfl | decide | (simp only [List.length_cons,List.length_nil];omega))
  all_goals first | rfl | (simp only [LIM,List.length_cons,List.length_nil];omega) | skip
instance {rg ra rb rc : FR} {τ1 : MT} [j1 : NR τ1 (PTS [(some 3,RX rg),(some 3,RX ra),(some 3,RX rb),(some 3,RX rc)])] : Con Tryz.prog 10 [τ1] (True) (BT (shortF [rg,ra,rb,rc])):=.o1 fun hok h1 hp=>w10.c1 hok (j1.h h1) hp
end Go.Proofs.YtlbdoeliaeennaaGreat
set_option linter.unusedVariables false
set_option linter.unusedSimpArgs false
set_option maxHeartbeats 4000000
set_option maxRecDepth 100000
set_option synthInstance.maxSize 100000
set_option synthInstance.maxHeartbeats 400000
namespace Go.Proofs.YtlbdoeliaeennaaGreat
open Go.RowKit (Below)
theorem sho_c {x : Rat} (h : x ≠ 0) : shoF [x] = [x]:=sho_of (k:=0) (by decide) (.inr ⟨0,Nat.le_refl _,rfl⟩) (.inr (.inl ⟨rfl,h⟩))
def limN (y u : Rat) : List Rat:=[0,y,0,u]
theorem lim_sub {y u c : Rat} : plusF (limN y u) (minusF [c]) = [-c,y,0,u]:=by
  unfold plusF minusF limN
  show [cf [0,y,0,u] 0 + cf [-c] 0,cf [0,y,0,u] 1 + cf [-c] 1,cf [0,y,0,u] 2 + cf [-c] 2,cf [0,y,0,u] 3 + cf [-c] 3] = _
  show [0 + -c,y + 0,0 + 0,u + 0] = _
  rw [Rat.zero_add,Rat.add_zero,Rat.add_zero,Rat.add_zero]
def limA (g a b c : FR) : Rat:=(g.val + a.val - (b.val + c.val)) / (2 * (a.val * g.val))
def limI (g a b c : FR) (u : Rat) : Bool:=decide (surdsF (-1) (limA g a b c) (a.val * g.val) u (a.val * g.val * (b.val * c.val)) ≤ 0) && decide (surdsF 1 (limA g a b c) (a.val * g.val) u (a.val * g.val * (b.val * c.val)) ≥ 0)
def limK (g a : FR) : List Rat:=[-(1 / (a.val * g.val)),1 / (a.val * g.val)]
def limJ (g a b c : FR) (j : Nat) : List (List Rat):=(((limK g a).take j).filter fun u=>limI g a b c u).map fun u=>limN (limA g a b c) u
def limL (g a b c : FR) : List (List Rat):=if chkF [g,a,b,c] = 0 then limJ g a b c 2 else []
theorem lim_len (g a b c : FR) (j : Nat) : (limJ g a b c j).length ≤ 2:=by
  unfold limJ
  rw [List.length_map]
  exact Nat.le_trans (List.length_filter_le _ _) (by rw [List.length_take];exact Nat.min_le_right _ _)
theorem lim_go {g a b c : FR} {j : Nat} (hj : j < 2) : limJ g a b c (j + 1) = limJ g a b c j ++ (if limI g a b c ((limK g a).getD j default) then [limN (limA g a b c) ((limK g a).getD j default)] else []):=by
  have e : (limK g a).take (j + 1) = (limK g a).take j ++ [(limK g a).getD j default]:=by
    match j,hj with
    | 0,_=>rfl
    | 1,_=>rfl
  unfold limJ
  rw [e,List.filter_append,List.map_append]
  congr 1
  generalize (limK g a).getD j default = u
  by_cases h : limI g a b c u = true
  · rw [if_pos h,List.filter_cons_of_pos h];rfl
  · rw [if_neg h,List.filter_cons_of_neg h];rfl
theorem LSC.nm {b c : Nat} {l : List Rat} {v : Value} {G : Gh} (h : (LSC none [NM b l]).t v G) (e : b ≤ c) : (LSC none [NM c l]).t v G:=⟨LS.els h.1 rfl fun i τ σ h1 h2 _ hv=>by
  match i,h1,h2 with
  | 0,h1,h2=>cases h1;cases h2;exact NM.up hv e,h.2⟩
instance AsT.nm {b : Nat} {l : List Rat} : AsT (NM b l) (NM b) l:=⟨fun h=>h⟩
theorem lim_0 {g a b c : FR} : [] = limJ g a b c 0:=rfl
theorem lim_k {g a : FR} : [-(1 / (a.val * g.val)),1 / (a.val * g.val)] = limK g a:=rfl
theorem pw1 {x : Rat} : PW 2 [x]:=.inr ⟨0,by decide,rfl⟩
theorem ag_ne {g a b c : FR} (h : [g,a,b,c].all posR = true) : a.val * g.val ≠ 0 ∧ 2 * (a.val * g.val) ≠ 0:=by
  simp only [List.all_cons,List.all_nil,Bool.and_true,Bool.and_eq_true] at h
  have h1:=posR_val h.1;have h2:=posR_val h.2.1
  have h3:=Rat.mul_pos h2 h1
  exact ⟨fun e=>by grind,fun e=>by grind⟩
theorem limL_bad {g a b c : FR} (h : chkF [g,a,b,c] ≠ 0) : limL g a b c = []:=by unfold limL;rw [if_neg h]
theorem limL_ok {g a b c : FR} (h : ¬ chkF [g,a,b,c] ≠ 0) : limL g a b c = limJ g a b c 2:=by unfold limL;rw [if_pos (by omega)]
theorem ps_bad {g a b c : FR} (h : chkF [g,a,b,c] ≠ 0) : (if chkF [g,a,b,c] = 0 then [[a.val * g.val],[b.val * c.val,0]] else []) = []:=if_neg h
theorem ps_ok {g a b c : FR} (h : ¬ chkF [g,a,b,c] ≠ 0) : (if chkF [g,a,b,c] = 0 then [[a.val * g.val],[b.val * c.val,0]] else []) = [[a.val * g.val],[b.val * c.val,0]]:=if_pos (by omega)
theorem lim_t {g a b c : FR} {j : Nat} (hp : [g, a, b, c].all posR = true) (hj : j < 2) : sgL [[a.val * g.val], [b.val * c.val, 0]] (plusF [0, limA g a b c, 0, (limK g a).getD j default] (minusF (shoF [1]))) = surdsF (-1) (limA g a b c) (a.val * g.val) ((limK g a).getD j default) (a.val * g.val * (b.val * c.val)) ∧
    sgL [[a.val * g.val],[b.val * c.val,0]] (plusF [0,limA g a b c,0,(limK g a).getD j default] (minusF (shoF [-1]))) = surdsF 1 (limA g a b c) (a.val * g.val) ((limK g a).getD j default) (a.val * g.val * (b.val * c.val)):=by
  have hn:=pos_nn hp
  rw [sho_c (by decide),sho_c (by decide)]
  constructor
  · rw [← sg2p hn.1 hn.2];exact congrArg _ lim_sub
  · rw [← sg2p hn.1 hn.2];exact congrArg _ (lim_sub.trans (by rw [show (- -1 : Rat) = 1 by decide]))
theorem lim_y {g a b c : FR} {j : Nat} (hp : [g, a, b, c].all posR = true) (hj : j < 2) (hc : (decide (sgL [[a.val * g.val], [b.val * c.val, 0]] (plusF [0, limA g a b c, 0, (limK g a).getD j default] (minusF (shoF [1]))) ≤ 0) && decide (sgL [[a.val * g.val], [b.val * c.val, 0]] (plusF [0, limA g a b c, 0, (limK g a).getD j default] (minusF (shoF [-1]))) ≥ 0)) = true) :
    limJ g a b c j ++ [[0,limA g a b c,0,(limK g a).getD j default]] = limJ g a b c (j + 1):=by
  rw [lim_go hj,(lim_t hp hj).1,(lim_t hp hj).2] at *
  rw [if_pos (show limI g a b c ((limK g a).getD j default) = true from hc)];rfl
theorem lim_n {g a b c : FR} {j : Nat} (hp : [g, a, b, c].all posR = true) (hj : j < 2) (hc : (decide (sgL [[a.val * g.val], [b.val * c.val, 0]] (plusF [0, limA g a b c, 0, (limK g a).getD j default] (minusF (shoF [1]))) ≤ 0) && decide (sgL [[a.val * g.val], [b.val * c.val, 0]] (plusF [0, limA g a b c, 0, (limK g a).getD j default] (minusF (shoF [-1]))) ≥ 0)) = false) :
    limJ g a b c j = limJ g a b c (j + 1):=by
  rw [(lim_t hp hj).1,(lim_t hp hj).2] at hc
  rw [lim_go hj,if_neg (show ¬ limI g a b c ((limK g a).getD j default) = true from fun e=>by rw [show limI g a b c ((limK g a).getD j default) = false from hc] at e;cases e),List.append_nil]
attribute [local irreducible] plusF minusF joinF levI lev PW RLN tB sB timesF stepF tmF normF TOK sgL surdsF chkF nearF farF gapC fullF
attribute [local irreducible] limJ limL limI
theorem w20 {n : Nat} {rg ra rb rc : FR} : Con Tryz.prog 20 [QUD n rg ra rb rc] (1000 * n + 300000 ≤ BIG) (MT.tup3 (TWR (n + n) (if chkF [rg,ra,rb,rc] = 0 then [[ra.val * rg.val],[rb.val * rc.val,0]] else [])) (LS none ((limL rg ra rb rc).map (NM (6 * n + 100)))) (.ex (errV 42 (chkF [rg,ra,rb,rc])))):=.o1 fun hok h1 hp=>by
  refine St.enter (N:=116) Tryz.func20 rfl rfl rfl hok (enter1 h1) fun a=>?_
  have hn1:=qud_pos h1
  have own112 : OwnAt 112:=⟨⟩
  repeat' (first | refine W.run ?_ fun a w G=>?_ | refine W.mv fun a w G=>?_ | refine W.asg fun a w G=>?_ | refine W.bx fun b a w G=>?_ | (refine W.nn hK ?_;clear hK K) | refine W.reg fun K hK=>?_ | refine W.reg1 ?_ | refine W.nl ?_ | refine W.sq fun K hK=>?_ | refine W.ds ?_ (fun β a w G hu=>W.fin ?_ hu) mixedOrders (by kernel_rfl) | refine W.sk ?_ | (refine W.kn hK ?_;clear hK K) | refine W.cd (fun hc=>?_) (fun hc=>?_) | refine W.cb (fun hc=>?_) (fun hc=>?_) | refine W.al fun b a w G=>?_ | refine W.st fun w=>?_ | refine W.stp fun w=>?_ | refine W.ste ?_ fun w=>?_ | refine W.bl ?_ | refine W.bn ?_ | refine W.ex ?_ | refine W.xt ?_ | refine W.xb ?_ | refine W.xo ?_ | refine W.rt ?_ | refine W.tr ?_ | refine W.br ?_ | refine W.rt1 rfl ?_ | refine W.rt2 rfl ?_ ?_ | refine W.rt3 rfl ?_ ?_ ?_ | refine W.lpo 71 (OWNS.nil (k:=none) (e:=55)) (T:=NM (6 * n + 100)) (xs0:=[]) (fun j=>2 - j) (fun j=>j ≤ 2) (fun j=>limJ rg ra rb rc j) [12,14,15,16,17,18,70,71,72,73,74,75,76,77,78,79,80,81,82,83,84,85,86,87,88,89,90,91,92,93,94,95,96,97,98,99,100,101,102,103,104,105,106,107,108,109,110,111,112,113,68,69] (fun j V=>[(70,NT j),(12,.ex V),(68,NM (6 * n + 100) (limK rg ra)),(69,NT 2)]) (fun j=>[]) 0 ?_ ?_ ?_ ?_ fun j hj V own a w G hO=>?_ | refine W.ds ?_ (fun β a w G hu=>W.fing ?_) mixedOrders (by kernel_rfl) | refine W.ap (mt:=.ex (.slice none 0 0)) (T:=NM (6 * n + 100)) hO ?_ fun V own a w G hO=>?_ | refine W.ago (K:=fun _ _=>True) (T:=NM (6 * n + 100)) hO (x:=j) (j+1) ?_ ?_ ?_ ?_ ?_ | refine W.fzo (T:=NM (6 * n + 100)) 3 hO ?_ fun G=>?_ | refine W.cast (t:=111) (τ:=LSC none [NM (max 1 (max (n + n + 1 + (n + n + 1) + 1 + (64 + (n + n))) (max 1 (6 * n + 100)))) [0,(rg.val + ra.val - (rb.val + rc.val)) / (2 * (ra.val * rg.val)),0,(limK rg ra).getD j default]]) (τ':=LSC none [NM (6 * n + 100) [0,(rg.val + ra.val - (rb.val + rc.val)) / (2 * (ra.val * rg.val)),0,(limK rg ra).getD j default]]) (fun h=>LSC.nm h (by omega)) ?_ | clear hK K | clear hu | exact True.intro | exact Nat.le_trans (by clear hp;omega) hp | exact Nat.le_trans (by clear hp;omega) hp.1 | exact Nat.le_trans (by clear hp;omega) hp.2 | (clear hp;omega) | apply And.intro | refine GI.i fun _=>?_ | with_reducible rfl | decide | (simp only [List.length_cons,List.length_nil];omega))
  all_goals first
    | omega
    | exact (ps_bad (by assumption)).symm
    | exact limL_bad (by assumption)
    | (have hp2 := chk_pos (l := [rg, ra, rb, rc]) (by omega)
       have hag:=ag_ne hp2
       have hlj:=lim_len rg ra rb rc j
       first
       | exact hag.1
       | exact hag.2
       | exact tok2 (pos_nn hp2).1 (pos_nn hp2).2
       | exact pw4
       | (rw [sho_c (by decide)];exact pw1)
       | (show sB 2 _ _ ≤ BIG;rw [sB2];omega)
       | exact lim_y hp2 (by omega) (by assumption)
       | exact lim_n hp2 (by omega) (by assumption)
       | exact (ps_ok (by assumption)).symm
       | (show j < 2;omega)
       | exact lim_0
       | exact lim_k
       | (simp only [LIM,List.length_append,List.length_cons,List.length_nil];omega)
       | (rw [limL_ok (by assumption),show j = 2 by omega])
       | skip)
    | (have hp2 := chk_pos (l := [rg, ra, rb, rc]) (by omega)
       have hag:=ag_ne hp2
       first
       | exact hag.1
       | exact hag.2
       | exact lim_0
       | exact lim_k
       | exact (ps_ok (by assumption)).symm)
    | skip
instance {n : Nat} {rg ra rb rc : FR} {τ1 : MT} [j1 : NF τ1 (QUD n rg ra rb rc)] : Con Tryz.prog 20 [τ1] (1000 * n + 300000 ≤ BIG) (MT.tup3 (TWR (n + n) (if chkF [rg,ra,rb,rc] = 0 then [[ra.val * rg.val],[rb.val * rc.val,0]] else [])) (LS none ((limL rg ra rb rc).map (NM (6 * n + 100)))) (.ex (errV 42 (chkF [rg,ra,rb,rc])))):=.o1 fun hok h1 hp=>w20.c1 hok (j1.h h1) hp
end Go.Proofs.YtlbdoeliaeennaaGreat
set_option linter.unusedVariables false
set_option linter.unusedSimpArgs false
set_option maxHeartbeats 4000000
set_option maxRecDepth 100000
set_option synthInstance.maxSize 100000
set_option synthInstance.maxHeartbeats 400000
namespace Go.Proofs.YtlbdoeliaeennaaGreat
open Go.RowKit (Below)
theorem ex_gap : gapC (FR.of 16) (FR.of 1) (FR.of 9) (FR.of 9) (FR.of (-1)) = 0:=by
  unfold gapC
  rw [ex_chk,if_pos rfl,FR.of_ok,if_pos rfl,FR.of_val]
  decide
theorem ex_near : nearF (FR.of 16) (FR.of 1) (FR.of 9) (FR.of 9) (-1) = 1:=by
  unfold nearF
  rw [FR.of_val,FR.of_val,FR.of_val]
  decide +kernel
theorem ex_far : farF (FR.of 16) (FR.of 1) (FR.of 9) (FR.of 9) (-1) = 1:=by
  unfold farF
  rw [FR.of_val,FR.of_val,FR.of_val]
  decide +kernel
theorem ex_full : fullF (FR.of 16) (FR.of 1) (FR.of 9) (FR.of 9) = true:=by
  have h : nearF (FR.of 16) (FR.of 1) (FR.of 9) (FR.of 9) 1 = 1:=by
    unfold nearF
    rw [FR.of_val,FR.of_val,FR.of_val]
    decide +kernel
  unfold fullF
  rw [ex_chk,ex_far,h];rfl
theorem ex_lim : limL (FR.of 16) (FR.of 1) (FR.of 9) (FR.of 9) = []:=by
  have h : (limK (FR.of 16) (FR.of 1)).filter (fun u=>limI (FR.of 16) (FR.of 1) (FR.of 9) (FR.of 9) u) = []:=by
    unfold limI limK limA
    rw [FR.of_val,FR.of_val,FR.of_val]
    decide +kernel
  unfold limL limJ
  rw [ex_chk,if_pos rfl,show (limK (FR.of 16) (FR.of 1)).take 2 = limK (FR.of 16) (FR.of 1) from rfl,h];rfl
attribute [local irreducible] plusF minusF joinF levI lev PW RLN tB sB timesF stepF tmF normF TOK sgL surdsF chkF gapC fullF nearF farF limL limJ
instance  : Con Tryz.prog 9 [] (True) (BT true):=.o0 fun hok  hp=>by
  refine St.enter (N:=53) Tryz.func9 rfl rfl rfl hok enter0 fun a=>?_
  repeat' (first | refine W.run ?_ fun a w G=>?_ | refine W.mv fun a w G=>?_ | refine W.asg fun a w G=>?_ | refine W.bx fun b a w G=>?_ | (refine W.nn hK ?_;clear hK K) | refine W.reg fun K hK=>?_ | refine W.reg1 ?_ | refine W.nl ?_ | refine W.sq fun K hK=>?_ | refine W.ds ?_ (fun β a w G hu=>W.fin ?_ hu) mixedOrders (by kernel_rfl) | refine W.sk ?_ | (refine W.kn hK ?_;clear hK K) | refine W.cd (fun hc=>?_) (fun hc=>?_) | refine W.cb (fun hc=>?_) (fun hc=>?_) | refine W.al fun b a w G=>?_ | refine W.st fun w=>?_ | refine W.stp fun w=>?_ | refine W.ste ?_ fun w=>?_ | refine W.bl ?_ | refine W.bn ?_ | refine W.ex ?_ | refine W.xt ?_ | refine W.xb ?_ | refine W.xo ?_ | refine W.rt ?_ | refine W.tr ?_ | refine W.br ?_ | refine W.rt1 rfl ?_ | refine W.rt2 rfl ?_ ?_ | refine W.rt3 rfl ?_ ?_ ?_ | clear hK K | clear hu | exact True.intro | exact Nat.le_trans (by clear hp;omega) hp | exact Nat.le_trans (by clear hp;omega) hp.1 | exact Nat.le_trans (by clear hp;omega) hp.2 | (clear hp;omega) | apply And.intro | refine GI.i fun _=>?_ | with_reducible rfl | decide | (simp only [List.length_cons,List.length_nil];omega))
  all_goals first
    | (rw [ex_gap,ex_chk,FR.of_val,if_pos rfl,if_pos rfl,ex_near,ex_far,ex_full,ex_lim];rfl)
    | (simp only [ex_gap,ex_chk,FR.of_val,if_true,ex_near,ex_far,ex_full,ex_lim];decide)
    | decide
    | skip
end Go.Proofs.YtlbdoeliaeennaaGreat
