import Derived.Test.YtdbdnabpaadigaaGreatQi
set_option linter.unusedVariables false
set_option linter.unusedSimpArgs false
set_option linter.unusedVariables false
set_option linter.unusedSimpArgs false
set_option maxHeartbeats 4000000
set_option maxRecDepth 100000
set_option synthInstance.maxSize 100000
set_option synthInstance.maxHeartbeats 400000
namespace Go.Proofs.YtdbdnabpaadigaaGreat
open Go.RowKit (Below)
attribute [local irreducible] Go.Code.wp Go.wpList Go.bodyPost
private theorem gS_ {W0 : World} {G0 : Gh} {N : Nat} {L : List (Nat × MT)} {B : List BX} {a : Act} {w : World} {G : Gh} {q : Prop} (h : St W0 G0 N L B a w G → q) : St W0 G0 N L B a w G → q:=h
private theorem gL_ {p : Prop} {P : Program} {arr : Array Oper} {Q : Exit → Act → World → Prop} {l : List Oper} {a : Act} {w : World} (h : p → wpList P arr Q l a w) : p → wpList P arr Q l a w:=h
private theorem gC_ {p : Prop} {P : Program} {c : Code} {Q : Exit → Act → World → Prop} {a : Act} {w : World} (h : p → c.wp P Q a w) : p → c.wp P Q a w:=h
private theorem mixedOrders : Tryz.prog.follows .mixedOrders = true:=by kernel_rfl
theorem nsg (x : Rat) : x.num.sign < 0 ↔ x < 0:=by
  have h1:=@rat_pos_iff x;have h2:=@Rat.num_eq_zero x;have h3:=sgn_cases x.num
  constructor
  · intro h;have : ¬ 0 < x:=fun k=>by have:=h1.1 k;omega
    have : x ≠ 0:=fun e=>by have:=h2.2 e;omega
    grind
  · intro h;have : ¬ 0 < x.num:=fun k=>by have:=h1.2 k;grind
    have : x.num ≠ 0:=fun e=>by have:=h2.1 e;grind
    omega
def absQ (x : Rat) : Rat:=if x < 0 then -x else x
theorem W.drp {L L' : List (Nat × MT)} {B : List BX} {W0 : World} {G0 : Gh} {N : Nat} {a : Act} {w : World} {G : Gh} {q : Prop} (t : Nat) (τ : MT) [h : Lk L t τ] [r : Rm L t L'] (K : St W0 G0 N L' B a w G → q) : St W0 G0 N L B a w G → q:=fun S=>K (S.only r.h)
attribute [local irreducible] plusF minusF joinF levI lev PW RLN tB sB timesF stepF tmF normF TOK sgL surdsF chkF gapC fullF
theorem w108 {n : Nat} {x : Rat} : Con Tryz.prog 108 [QV n x] (n + 2 ≤ BIG) (QC (n + 2) (absQ x)):=.o1 fun hok h1 hp=>by
  refine St.enter (N:=11) Tryz.func108 rfl rfl rfl hok (enter1 h1) fun a=>?_
  repeat' (first|((with_reducible refine gS_ ?_);first|((with_reducible refine gL_ ?_);first|refine W.run ?_ fun a w G=>?_|refine W.mv fun a w G=>?_|refine W.asg fun a w G=>?_|refine W.bx fun b a w G=>?_|(refine W.nn hK ?_;clear hK K)|refine W.nl ?_|refine W.al fun b a w G=>?_|refine W.st fun w=>?_|refine W.stp fun w=>?_|refine W.ste ?_ fun w=>?_)|((with_reducible refine gC_ ?_);first|refine W.reg fun K hK=>?_|refine W.reg1 ?_|refine W.sq fun K hK=>?_|refine W.ds ?_ (fun β a w G hu=>W.fin ?_ hu) mixedOrders (by kernel_rfl)|refine W.sk ?_|refine W.cd (fun hc=>?_) (fun hc=>?_)|refine W.cb (fun hc=>?_) (fun hc=>?_)|refine W.bl ?_|refine W.ex ?_|refine W.rt ?_)|((with_reducible refine W.kn hK ?_);clear hK K)|(with_reducible first|refine W.bn ?_|refine W.xt ?_|refine W.xb ?_|refine W.xo ?_|refine W.tr ?_|refine W.br ?_)|refine W.rt1 rfl ?_|refine W.rt2 rfl ?_ ?_|refine W.rt3 rfl ?_ ?_ ?_)|clear hK K|clear hu|exact True.intro|exact Nat.le_trans (by clear hp;omega) hp|exact Nat.le_trans (by clear hp;omega) hp.1|exact Nat.le_trans (by clear hp;omega) hp.2|(clear hp;omega)|apply And.intro|refine GI.i fun _=>?_|with_reducible rfl|decide|(simp only [List.length_cons,List.length_nil];omega))
  all_goals first
    | omega
    | (unfold absQ;rw [if_pos ((nsg x).1 hc)])
    | (unfold absQ;rw [if_neg (fun e=>hc ((nsg x).2 e))];grind [zv0'])
    | skip
instance {n : Nat} {x : Rat} {τ1 : MT} [j1 : NQ τ1 (QV n x)] : Con Tryz.prog 108 [τ1] (n + 2 ≤ BIG) (QC (n + 2) (absQ x)):=.o1 fun hok h1 hp=>w108.c1 hok (j1.h h1) hp
theorem w89 {n : Nat} {rg ra rb rc : FR} : Con Tryz.prog 89 [QUD n rg ra rb rc] (100 * n + 1000 ≤ BIG) (MT.tup3 (QC (4 * n + 3) (rg.val + ra.val - (rb.val + rc.val))) (QC (n + n) (ra.val * rg.val)) (QC (n + n) (rb.val * rc.val))):=.o1 fun hok h1 hp=>by
  refine St.enter (N:=27) Tryz.func89 rfl rfl rfl hok (enter1 h1) fun a=>?_
  repeat' (first|((with_reducible refine gS_ ?_);first|((with_reducible refine gL_ ?_);first|refine W.run ?_ fun a w G=>?_|refine W.mv fun a w G=>?_|refine W.asg fun a w G=>?_|refine W.bx fun b a w G=>?_|(refine W.nn hK ?_;clear hK K)|refine W.nl ?_|refine W.al fun b a w G=>?_|refine W.st fun w=>?_|refine W.stp fun w=>?_|refine W.ste ?_ fun w=>?_)|((with_reducible refine gC_ ?_);first|refine W.reg fun K hK=>?_|refine W.reg1 ?_|refine W.sq fun K hK=>?_|refine W.ds ?_ (fun β a w G hu=>W.fin ?_ hu) mixedOrders (by kernel_rfl)|refine W.sk ?_|refine W.cd (fun hc=>?_) (fun hc=>?_)|refine W.cb (fun hc=>?_) (fun hc=>?_)|refine W.bl ?_|refine W.ex ?_|refine W.rt ?_)|((with_reducible refine W.kn hK ?_);clear hK K)|(with_reducible first|refine W.bn ?_|refine W.xt ?_|refine W.xb ?_|refine W.xo ?_|refine W.tr ?_|refine W.br ?_)|refine W.rt1 rfl ?_|refine W.rt2 rfl ?_ ?_|refine W.rt3 rfl ?_ ?_ ?_)|clear hK K|clear hu|exact True.intro|exact Nat.le_trans (by clear hp;omega) hp|exact Nat.le_trans (by clear hp;omega) hp.1|exact Nat.le_trans (by clear hp;omega) hp.2|(clear hp;omega)|apply And.intro|refine GI.i fun _=>?_|with_reducible rfl|decide|(simp only [List.length_cons,List.length_nil];omega))
  all_goals first | omega | skip
instance {n : Nat} {rg ra rb rc : FR} {τ1 : MT} [j1 : NF τ1 (QUD n rg ra rb rc)] : Con Tryz.prog 89 [τ1] (100 * n + 1000 ≤ BIG) (MT.tup3 (QC (4 * n + 3) (rg.val + ra.val - (rb.val + rc.val))) (QC (n + n) (ra.val * rg.val)) (QC (n + n) (rb.val * rc.val))):=.o1 fun hok h1 hp=>w89.c1 hok (j1.h h1) hp
theorem w45 {n : Nat} {r : FR} : Con Tryz.prog 45 [FX n r] (n + 100 ≤ BIG) (MT.tup2 (BT r.ok) (BT (decide (cmpQ (absQ r.val) 1 ≤ 0)))):=.o1 fun hok h1 hp=>by
  refine St.enter (N:=13) Tryz.func45 rfl rfl rfl hok (enter1 h1) fun a=>?_
  repeat' (first|refine W.drp 2 (.ex (.bool false)) ?_|refine W.drp 3 (.ex (.bool false)) ?_|((with_reducible refine gS_ ?_);first|((with_reducible refine gL_ ?_);first|refine W.run ?_ fun a w G=>?_|refine W.mv fun a w G=>?_|refine W.asg fun a w G=>?_|refine W.bx fun b a w G=>?_|(refine W.nn hK ?_;clear hK K)|refine W.nl ?_|refine W.al fun b a w G=>?_|refine W.st fun w=>?_|refine W.stp fun w=>?_|refine W.ste ?_ fun w=>?_)|((with_reducible refine gC_ ?_);first|refine W.reg fun K hK=>?_|refine W.reg1 ?_|refine W.sq fun K hK=>?_|refine W.ds ?_ (fun β a w G hu=>W.fin ?_ hu) mixedOrders (by kernel_rfl)|refine W.sk ?_|refine W.cd (fun hc=>?_) (fun hc=>?_)|refine W.cb (fun hc=>?_) (fun hc=>?_)|refine W.bl ?_|refine W.ex ?_|refine W.rt ?_)|((with_reducible refine W.kn hK ?_);clear hK K)|(with_reducible first|refine W.bn ?_|refine W.xt ?_|refine W.xb ?_|refine W.xo ?_|refine W.tr ?_|refine W.br ?_)|refine W.rt1 rfl ?_|refine W.rt2 rfl ?_ ?_|refine W.rt3 rfl ?_ ?_ ?_)|clear hK K|clear hu|exact True.intro|exact Nat.le_trans (by clear hp;omega) hp|exact Nat.le_trans (by clear hp;omega) hp.1|exact Nat.le_trans (by clear hp;omega) hp.2|(clear hp;omega)|apply And.intro|refine GI.i fun _=>?_|with_reducible rfl|decide|(simp only [List.length_cons,List.length_nil];omega))
  all_goals first | omega | skip
instance {n : Nat} {r : FR} {τ1 : MT} [j1 : NF τ1 (FX n r)] : Con Tryz.prog 45 [τ1] (n + 100 ≤ BIG) (MT.tup2 (BT r.ok) (BT (decide (cmpQ (absQ r.val) 1 ≤ 0)))):=.o1 fun hok h1 hp=>w45.c1 hok (j1.h h1) hp
theorem w46 {n m : Nat} {rg ra rb rc : FR} {k : Rat} : Con Tryz.prog 46 [QUD n rg ra rb rc,QV m k] (1000 * n + 1000 * m + 200000 ≤ BIG) (MT.tup2 (IT (nearF rg ra rb rc k)) (IT (farF rg ra rb rc k))):=.o2 fun hok h1 h2 hp=>by
  refine St.enter (N:=39) Tryz.func46 rfl rfl rfl hok (enter2 h1 h2) fun a=>?_
  repeat' (first|((with_reducible refine gS_ ?_);first|((with_reducible refine gL_ ?_);first|refine W.run ?_ fun a w G=>?_|refine W.mv fun a w G=>?_|refine W.asg fun a w G=>?_|refine W.bx fun b a w G=>?_|(refine W.nn hK ?_;clear hK K)|refine W.nl ?_|refine W.al fun b a w G=>?_|refine W.st fun w=>?_|refine W.stp fun w=>?_|refine W.ste ?_ fun w=>?_)|((with_reducible refine gC_ ?_);first|refine W.reg fun K hK=>?_|refine W.reg1 ?_|refine W.sq fun K hK=>?_|refine W.ds ?_ (fun β a w G hu=>W.fin ?_ hu) mixedOrders (by kernel_rfl)|refine W.sk ?_|refine W.cd (fun hc=>?_) (fun hc=>?_)|refine W.cb (fun hc=>?_) (fun hc=>?_)|refine W.bl ?_|refine W.ex ?_|refine W.rt ?_)|((with_reducible refine W.kn hK ?_);clear hK K)|(with_reducible first|refine W.bn ?_|refine W.xt ?_|refine W.xb ?_|refine W.xo ?_|refine W.tr ?_|refine W.br ?_)|refine W.rt1 rfl ?_|refine W.rt2 rfl ?_ ?_|refine W.rt3 rfl ?_ ?_ ?_)|clear hK K|clear hu|exact True.intro|exact Nat.le_trans (by clear hp;omega) hp|exact Nat.le_trans (by clear hp;omega) hp.1|exact Nat.le_trans (by clear hp;omega) hp.2|(clear hp;omega)|apply And.intro|refine GI.i fun _=>?_|with_reducible rfl|decide|(simp only [List.length_cons,List.length_nil];omega))
  all_goals first
    | omega
    | rfl
    | (unfold farF;congr 1;grind)
    | skip
instance {n m : Nat} {rg ra rb rc : FR} {k : Rat} {τ1 : MT} [j1 : NF τ1 (QUD n rg ra rb rc)] {τ2 : MT} [j2 : NQ τ2 (QV m k)] : Con Tryz.prog 46 [τ1,τ2] (1000 * n + 1000 * m + 200000 ≤ BIG) (MT.tup2 (IT (nearF rg ra rb rc k)) (IT (farF rg ra rb rc k))):=.o2 fun hok h1 h2 hp=>w46.c2 hok (j1.h h1) (j2.h h2) hp
theorem w21 {n : Nat} {rg ra rb rc : FR} : Con Tryz.prog 21 [QUD n rg ra rb rc] (1000 * n + 300000 ≤ BIG) (BT (decide (nearF rg ra rb rc 1 ≥ 0) && decide (farF rg ra rb rc (-1) ≥ 0))):=.o1 fun hok h1 hp=>by
  refine St.enter (N:=25) Tryz.func21 rfl rfl rfl hok (enter1 h1) fun a=>?_
  repeat' (first|((with_reducible refine gS_ ?_);first|((with_reducible refine gL_ ?_);first|refine W.run ?_ fun a w G=>?_|refine W.mv fun a w G=>?_|refine W.asg fun a w G=>?_|refine W.bx fun b a w G=>?_|(refine W.nn hK ?_;clear hK K)|refine W.nl ?_|refine W.al fun b a w G=>?_|refine W.st fun w=>?_|refine W.stp fun w=>?_|refine W.ste ?_ fun w=>?_)|((with_reducible refine gC_ ?_);first|refine W.reg fun K hK=>?_|refine W.reg1 ?_|refine W.sq fun K hK=>?_|refine W.ds ?_ (fun β a w G hu=>W.fin ?_ hu) mixedOrders (by kernel_rfl)|refine W.sk ?_|refine W.cd (fun hc=>?_) (fun hc=>?_)|refine W.cb (fun hc=>?_) (fun hc=>?_)|refine W.bl ?_|refine W.ex ?_|refine W.rt ?_)|((with_reducible refine W.kn hK ?_);clear hK K)|(with_reducible first|refine W.bn ?_|refine W.xt ?_|refine W.xb ?_|refine W.xo ?_|refine W.tr ?_|refine W.br ?_)|refine W.rt1 rfl ?_|refine W.rt2 rfl ?_ ?_|refine W.rt3 rfl ?_ ?_ ?_)|clear hK K|clear hu|exact True.intro|exact Nat.le_trans (by clear hp;omega) hp|exact Nat.le_trans (by clear hp;omega) hp.1|exact Nat.le_trans (by clear hp;omega) hp.2|(clear hp;omega)|apply And.intro|refine GI.i fun _=>?_|with_reducible rfl|decide|(simp only [List.length_cons,List.length_nil];omega))
  all_goals first | omega | rfl | skip
instance {n : Nat} {rg ra rb rc : FR} {τ1 : MT} [j1 : NF τ1 (QUD n rg ra rb rc)] : Con Tryz.prog 21 [τ1] (1000 * n + 300000 ≤ BIG) (BT (decide (nearF rg ra rb rc 1 ≥ 0) && decide (farF rg ra rb rc (-1) ≥ 0))):=.o1 fun hok h1 hp=>w21.c1 hok (j1.h h1) hp
theorem shF_t {l : List FR} {j : Nat} (hj : j < l.length) (h : (decide ((((l.getD j default).p.length : Nat) : Int) > 2) || decide ((((l.getD j default).q.length : Nat) : Int) > 2)) = true) : shortF l = false:=by
  unfold shortF
  rw [all_not hj (p:=shortR) (by simp only [Bool.or_eq_true,decide_eq_true_eq] at h;exact shortR_not (by omega)),Bool.false_and]
theorem shR_f {r : FR} (h : (decide (((r.p.length : Nat) : Int) > 2) || decide (((r.q.length : Nat) : Int) > 2)) = false) : shortR r = true:=by
  simp only [Bool.or_eq_false_iff,decide_eq_false_iff_not] at h
  exact shortR_of (by omega) (by omega)
theorem shF_e {l : List FR} {j : Nat} (hj : ¬ j < l.length) (h : (l.take j).all shortR = true) : decide (((l.length : Nat) : Int) < 60) = shortF l:=by
  unfold shortF;rw [all_end hj h,Bool.true_and];exact decide_eq_decide.2 (by omega)
theorem w15 {l : List FR} : Con Tryz.prog 15 [LS (some 3) (l.map RX)] (True) (BT (shortF l)):=.o1 fun hok h1 hp=>by
  refine St.enter (N:=25) Tryz.func15 rfl rfl rfl hok (enter1 h1) fun a=>?_
  have hlim:=LS.lenM h1
  simp only [LIM] at hlim
  repeat' (first|((with_reducible refine gS_ ?_);first|((with_reducible refine gL_ ?_);first|refine W.run ?_ fun a w G=>?_|refine W.mv fun a w G=>?_|refine W.asg fun a w G=>?_|refine W.bx fun b a w G=>?_|(refine W.nn hK ?_;clear hK K)|refine W.nl ?_|refine W.al fun b a w G=>?_|refine W.st fun w=>?_|refine W.stp fun w=>?_|refine W.ste ?_ fun w=>?_)|((with_reducible refine gC_ ?_);first|refine W.reg fun K hK=>?_|refine W.reg1 ?_|refine W.sq fun K hK=>?_|refine W.ds ?_ (fun β a w G hu=>W.fin ?_ hu) mixedOrders (by kernel_rfl)|refine W.sk ?_|refine W.cd (fun hc=>?_) (fun hc=>?_)|refine W.cb (fun hc=>?_) (fun hc=>?_)|refine W.bl ?_|refine W.ex ?_|refine W.rt ?_)|((with_reducible refine W.kn hK ?_);clear hK K)|(with_reducible first|refine W.bn ?_|refine W.xt ?_|refine W.xb ?_|refine W.xo ?_|refine W.tr ?_|refine W.br ?_)|refine W.rt1 rfl ?_|refine W.rt2 rfl ?_ ?_|refine W.rt3 rfl ?_ ?_ ?_)|refine W.lp 8 (α:=Nat) (fun j=>l.length - j) (fun j=>j ≤ l.length ∧ (l.take j).all shortR = true) [2,4,7,8,9,10,11,12,13,14,15,16,17,18,19,20,21] (fun j=>[(7,NT j)]) (fun j=>[]) (0) ?_ ?_ ?_ fun j hj a w G=>?_|refine W.ag (x:=j) (j+1) ?_ ?_ ?_ ?_|clear hK K|clear hu|exact True.intro|exact Nat.le_trans (by clear hp;omega) hp|exact Nat.le_trans (by clear hp;omega) hp.1|exact Nat.le_trans (by clear hp;omega) hp.2|(clear hp;omega)|apply And.intro|refine GI.i fun _=>?_|with_reducible rfl|decide|(simp only [List.length_cons,List.length_nil];omega))
  all_goals first
    | omega
    | rfl
    | exact (shF_t (by omega) hc).symm
    | exact all_snoc (by omega) hj.2 (shR_f hc)
    | exact shF_e (by omega) hj.2
    | skip
instance {l : List FR} {τ1 : MT} [j1 : NR τ1 (LS (some 3) (l.map RX))] : Con Tryz.prog 15 [τ1] (True) (BT (shortF l)):=.o1 fun hok h1 hp=>w15.c1 hok (j1.h h1) hp
theorem sqX {rg ra rb rc : FR} : Con Tryz.prog 68 [PTS [(some 3,RX rg),(some 3,RX ra),(some 3,RX rb),(some 3,RX rc)]] (True) (AR 12 (some 3) ([rg,ra,rb,rc].map RX)):=.o1 fun hok h1 hp=>by
  refine St.enter (N:=12) Tryz.func68 rfl rfl rfl hok (enter1 h1) fun a=>?_
  repeat' (first|((with_reducible refine gS_ ?_);first|((with_reducible refine gL_ ?_);first|refine W.run ?_ fun a w G=>?_|refine W.mv fun a w G=>?_|refine W.asg fun a w G=>?_|refine W.bx fun b a w G=>?_|(refine W.nn hK ?_;clear hK K)|refine W.nl ?_|refine W.al fun b a w G=>?_|refine W.st fun w=>?_|refine W.stp fun w=>?_|refine W.ste ?_ fun w=>?_)|((with_reducible refine gC_ ?_);first|refine W.reg fun K hK=>?_|refine W.reg1 ?_|refine W.sq fun K hK=>?_|refine W.ds ?_ (fun β a w G hu=>W.fin ?_ hu) mixedOrders (by kernel_rfl)|refine W.sk ?_|refine W.cd (fun hc=>?_) (fun hc=>?_)|refine W.cb (fun hc=>?_) (fun hc=>?_)|refine W.bl ?_|refine W.ex ?_|refine W.rt ?_)|((with_reducible refine W.kn hK ?_);clear hK K)|(with_reducible first|refine W.bn ?_|refine W.xt ?_|refine W.xb ?_|refine W.xo ?_|refine W.tr ?_|refine W.br ?_)|refine W.rt1 rfl ?_|refine W.rt2 rfl ?_ ?_|refine W.rt3 rfl ?_ ?_ ?_)|clear hK K|clear hu|exact True.intro|exact Nat.le_trans (by clear hp;omega) hp|exact Nat.le_trans (by clear hp;omega) hp.1|exact Nat.le_trans (by clear hp;omega) hp.2|(clear hp;omega)|apply And.intro|refine GI.i fun _=>?_|with_reducible rfl|decide|(simp only [List.length_cons,List.length_nil];omega))
instance {rg ra rb rc : FR} : Con Tryz.prog 68 [PTS [(some 3,RX rg),(some 3,RX ra),(some 3,RX rb),(some 3,RX rc)]] True (AR 12 (some 3) ([rg,ra,rb,rc].map RX)):=sqX
instance  : Con Tryz.prog 66 [] (True) (QUD 64 (FR.of 16) (FR.of 1) (FR.of 9) (FR.of 9)):=.o0 fun hok  hp=>by
  refine St.enter (N:=6) Tryz.func66 rfl rfl rfl hok enter0 fun a=>?_
  repeat' (first|((with_reducible refine gS_ ?_);first|((with_reducible refine gL_ ?_);first|refine W.run ?_ fun a w G=>?_|refine W.mv fun a w G=>?_|refine W.asg fun a w G=>?_|refine W.bx fun b a w G=>?_|(refine W.nn hK ?_;clear hK K)|refine W.nl ?_|refine W.al fun b a w G=>?_|refine W.st fun w=>?_|refine W.stp fun w=>?_|refine W.ste ?_ fun w=>?_)|((with_reducible refine gC_ ?_);first|refine W.reg fun K hK=>?_|refine W.reg1 ?_|refine W.sq fun K hK=>?_|refine W.ds ?_ (fun β a w G hu=>W.fin ?_ hu) mixedOrders (by kernel_rfl)|refine W.sk ?_|refine W.cd (fun hc=>?_) (fun hc=>?_)|refine W.cb (fun hc=>?_) (fun hc=>?_)|refine W.bl ?_|refine W.ex ?_|refine W.rt ?_)|((with_reducible refine W.kn hK ?_);clear hK K)|(with_reducible first|refine W.bn ?_|refine W.xt ?_|refine W.xb ?_|refine W.xo ?_|refine W.tr ?_|refine W.br ?_)|refine W.rt1 rfl ?_|refine W.rt2 rfl ?_ ?_|refine W.rt3 rfl ?_ ?_ ?_)|clear hK K|clear hu|exact True.intro|exact Nat.le_trans (by clear hp;omega) hp|exact Nat.le_trans (by clear hp;omega) hp.1|exact Nat.le_trans (by clear hp;omega) hp.2|(clear hp;omega)|apply And.intro|refine GI.i fun _=>?_|with_reducible rfl|decide|(simp only [List.length_cons,List.length_nil];omega))
theorem w37 {rg ra rb rc : FR} : Con Tryz.prog 37 [PTS [(some 3,RX rg),(some 3,RX ra),(some 3,RX rb),(some 3,RX rc)]] (True) (BT (shortF [rg,ra,rb,rc])):=.o1 fun hok h1 hp=>by
  refine St.enter (N:=8) Tryz.func37 rfl rfl rfl hok (enter1 h1) fun a=>?_
  repeat' (first|((with_reducible refine gS_ ?_);first|((with_reducible refine gL_ ?_);first|refine W.run ?_ fun a w G=>?_|refine W.mv fun a w G=>?_|refine W.asg fun a w G=>?_|refine W.bx fun b a w G=>?_|(refine W.nn hK ?_;clear hK K)|refine W.nl ?_|refine W.al fun b a w G=>?_|refine W.st fun w=>?_|refine W.stp fun w=>?_|refine W.ste ?_ fun w=>?_)|((with_reducible refine gC_ ?_);first|refine W.reg fun K hK=>?_|refine W.reg1 ?_|refine W.sq fun K hK=>?_|refine W.ds ?_ (fun β a w G hu=>W.fin ?_ hu) mixedOrders (by kernel_rfl)|refine W.sk ?_|refine W.cd (fun hc=>?_) (fun hc=>?_)|refine W.cb (fun hc=>?_) (fun hc=>?_)|refine W.bl ?_|refine W.ex ?_|refine W.rt ?_)|((with_reducible refine W.kn hK ?_);clear hK K)|(with_reducible first|refine W.bn ?_|refine W.xt ?_|refine W.xb ?_|refine W.xo ?_|refine W.tr ?_|refine W.br ?_)|refine W.rt1 rfl ?_|refine W.rt2 rfl ?_ ?_|refine W.rt3 rfl ?_ ?_ ?_)|clear hK K|clear hu|exact True.intro|exact Nat.le_trans (by clear hp;omega) hp|exact Nat.le_trans (by clear hp;omega) hp.1|exact Nat.le_trans (by clear hp;omega) hp.2|(clear hp;omega)|apply And.intro|refine GI.i fun _=>?_|with_reducible rfl|decide|(simp only [List.length_cons,List.length_nil];omega))
  all_goals first | rfl | (simp only [LIM,List.length_cons,List.length_nil];omega) | skip
instance {rg ra rb rc : FR} {τ1 : MT} [j1 : NR τ1 (PTS [(some 3,RX rg),(some 3,RX ra),(some 3,RX rb),(some 3,RX rc)])] : Con Tryz.prog 37 [τ1] (True) (BT (shortF [rg,ra,rb,rc])):=.o1 fun hok h1 hp=>w37.c1 hok (j1.h h1) hp
end Go.Proofs.YtdbdnabpaadigaaGreat
set_option linter.unusedVariables false
set_option linter.unusedSimpArgs false
set_option maxHeartbeats 4000000
set_option maxRecDepth 100000
set_option synthInstance.maxSize 100000
set_option synthInstance.maxHeartbeats 400000
namespace Go.Proofs.YtdbdnabpaadigaaGreat
open Go.RowKit (Below)
attribute [local irreducible] Go.Code.wp Go.wpList Go.bodyPost
theorem sho_c {x : Rat} (h : x ≠ 0) : shoF [x] = [x]:=sho_of (k:=0) (by decide) (.inr ⟨0,Nat.le_refl _,rfl⟩) (.inr (.inl ⟨rfl,h⟩))
def limN (y u : Rat) : List Rat:=[0,y,0,u]
theorem lim_sub {y u c : Rat} : plusF (limN y u) (minusF [c]) = [-c,y,0,u]:=by
  unfold plusF minusF limN
  show [cf [0,y,0,u] 0 + cf [-c] 0,cf [0,y,0,u] 1 + cf [-c] 1,cf [0,y,0,u] 2 + cf [-c] 2,cf [0,y,0,u] 3 + cf [-c] 3] = _
  show [0 + -c,y + 0,0 + 0,u + 0] = _
  rw [Rat.zero_add,Rat.add_zero,Rat.add_zero,Rat.add_zero]
def limA (g a b c : FR) : Rat:=(g.val + a.val - (b.val + c.val)) / (2 * (a.val * g.val))
def limI (g a b c : FR) (u : Rat) : Bool:=decide (surdsF (-1) (limA g a b c) (a.val * g.val) u (a.val * g.val * (b.val * c.val)) ≤ 0) && decide (surdsF 1 (limA g a b c) (a.val * g.val) u (a.val * g.val * (b.val * c.val)) ≥ 0)
def limK (g a : FR) : List Rat:=[-(1 / (a.val * g.val)),1 / (a.val * g.val)]
def limJ (g a b c : FR) (j : Nat) : List (List Rat):=(((limK g a).take j).filter fun u=>limI g a b c u).map fun u=>limN (limA g a b c) u
def limL (g a b c : FR) : List (List Rat):=if chkF [g,a,b,c] = 0 then limJ g a b c 2 else []
theorem lim_len (g a b c : FR) (j : Nat) : (limJ g a b c j).length ≤ 2:=by
  unfold limJ
  rw [List.length_map]
  exact Nat.le_trans (List.length_filter_le _ _) (by rw [List.length_take];exact Nat.min_le_right _ _)
theorem lim_go {g a b c : FR} {j : Nat} (hj : j < 2) : limJ g a b c (j + 1) = limJ g a b c j ++ (if limI g a b c ((limK g a).getD j default) then [limN (limA g a b c) ((limK g a).getD j default)] else []):=by
  have e : (limK g a).take (j + 1) = (limK g a).take j ++ [(limK g a).getD j default]:=by
    match j,hj with
    | 0,_=>rfl
    | 1,_=>rfl
  unfold limJ
  rw [e,List.filter_append,List.map_append]
  congr 1
  generalize (limK g a).getD j default = u
  by_cases h : limI g a b c u = true
  · rw [if_pos h,List.filter_cons_of_pos h];rfl
  · rw [if_neg h,List.filter_cons_of_neg h];rfl
theorem LSC.nm {b c : Nat} {l : List Rat} {v : Value} {G : Gh} (h : (LSC none [NM b l]).t v G) (e : b ≤ c) : (LSC none [NM c l]).t v G:=⟨LS.els h.1 rfl fun i τ σ h1 h2 _ hv=>by
  match i,h1,h2 with
  | 0,h1,h2=>cases h1;cases h2;exact NM.up hv e,h.2⟩
instance AsT.nm {b : Nat} {l : List Rat} : AsT (NM b l) (NM b) l:=⟨fun h=>h⟩
theorem lim_0 {g a b c : FR} : [] = limJ g a b c 0:=rfl
theorem lim_k {g a : FR} : [-(1 / (a.val * g.val)),1 / (a.val * g.val)] = limK g a:=rfl
theorem pw1 {x : Rat} : PW 2 [x]:=.inr ⟨0,by decide,rfl⟩
theorem ag_ne {g a b c : FR} (h : [g,a,b,c].all posR = true) : a.val * g.val ≠ 0 ∧ 2 * (a.val * g.val) ≠ 0:=by
  simp only [List.all_cons,List.all_nil,Bool.and_true,Bool.and_eq_true] at h
  have h1:=posR_val h.1;have h2:=posR_val h.2.1
  have h3:=Rat.mul_pos h2 h1
  exact ⟨fun e=>by grind,fun e=>by grind⟩
theorem limL_bad {g a b c : FR} (h : chkF [g,a,b,c] ≠ 0) : limL g a b c = []:=by unfold limL;rw [if_neg h]
theorem limL_ok {g a b c : FR} (h : ¬ chkF [g,a,b,c] ≠ 0) : limL g a b c = limJ g a b c 2:=by unfold limL;rw [if_pos (by omega)]
theorem ps_bad {g a b c : FR} (h : chkF [g,a,b,c] ≠ 0) : (if chkF [g,a,b,c] = 0 then [[a.val * g.val],[b.val * c.val,0]] else []) = []:=if_neg h
theorem ps_ok {g a b c : FR} (h : ¬ chkF [g,a,b,c] ≠ 0) : (if chkF [g,a,b,c] = 0 then [[a.val * g.val],[b.val * c.val,0]] else []) = [[a.val * g.val],[b.val * c.val,0]]:=if_pos (by omega)
theorem lim_t {g a b c : FR} {j : Nat} (hp : [g, a, b, c].all posR = true) (hj : j < 2) : sgL [[a.val * g.val], [b.val * c.val, 0]] (plusF [0, limA g a b c, 0, (limK g a).getD j default] (minusF (shoF [1]))) = surdsF (-1) (limA g a b c) (a.val * g.val) ((limK g a).getD j default) (a.val * g.val * (b.val * c.val)) ∧
    sgL [[a.val * g.val],[b.val * c.val,0]] (plusF [0,limA g a b c,0,(limK g a).getD j default] (minusF (shoF [-1]))) = surdsF 1 (limA g a b c) (a.val * g.val) ((limK g a).getD j default) (a.val * g.val * (b.val * c.val)):=by
  have hn:=pos_nn hp
  rw [sho_c (by decide),sho_c (by decide)]
  constructor
  · rw [← sg2p hn.1 hn.2];exact congrArg _ lim_sub
  · rw [← sg2p hn.1 hn.2];exact congrArg _ (lim_sub.trans (by rw [show (- -1 : Rat) = 1 by decide]))
theorem lim_y {g a b c : FR} {j : Nat} (hp : [g, a, b, c].all posR = true) (hj : j < 2) (hc : (decide (sgL [[a.val * g.val], [b.val * c.val, 0]] (plusF [0, limA g a b c, 0, (limK g a).getD j default] (minusF (shoF [1]))) ≤ 0) && decide (sgL [[a.val * g.val], [b.val * c.val, 0]] (plusF [0, limA g a b c, 0, (limK g a).getD j default] (minusF (shoF [-1]))) ≥ 0)) = true) :
    limJ g a b c j ++ [[0,limA g a b c,0,(limK g a).getD j default]] = limJ g a b c (j + 1):=by
  rw [lim_go hj,(lim_t hp hj).1,(lim_t hp hj).2] at *
  rw [if_pos (show limI g a b c ((limK g a).getD j default) = true from hc)];rfl
theorem lim_n {g a b c : FR} {j : Nat} (hp : [g, a, b, c].all posR = true) (hj : j < 2) (hc : (decide (sgL [[a.val * g.val], [b.val * c.val, 0]] (plusF [0, limA g a b c, 0, (limK g a).getD j default] (minusF (shoF [1]))) ≤ 0) && decide (sgL [[a.val * g.val], [b.val * c.val, 0]] (plusF [0, limA g a b c, 0, (limK g a).getD j default] (minusF (shoF [-1]))) ≥ 0)) = false) :
    limJ g a b c j = limJ g a b c (j + 1):=by
  rw [(lim_t hp hj).1,(lim_t hp hj).2] at hc
  rw [lim_go hj,if_neg (show ¬ limI g a b c ((limK g a).getD j default) = true from fun e=>by rw [show limI g a b c ((limK g a).getD j default) = false from hc] at e;cases e),List.append_nil]
attribute [local irreducible] plusF minusF joinF levI lev PW RLN tB sB timesF stepF tmF normF TOK sgL surdsF chkF nearF farF gapC fullF
attribute [local irreducible] limJ limL limI
theorem w101 {n : Nat} {rg ra rb rc : FR} : Con Tryz.prog 101 [QUD n rg ra rb rc] (1000 * n + 300000 ≤ BIG) (MT.tup3 (TWR (n + n) (if chkF [rg,ra,rb,rc] = 0 then [[ra.val * rg.val],[rb.val * rc.val,0]] else [])) (LS none ((limL rg ra rb rc).map (NM (6 * n + 100)))) (.ex (errV 69 (chkF [rg,ra,rb,rc])))):=.o1 fun hok h1 hp=>by
  refine St.enter (N:=116) Tryz.func101 rfl rfl rfl hok (enter1 h1) fun a=>?_
  have hn1:=qud_pos h1
  have own112 : OwnAt 112:=⟨⟩
  repeat' (first|((with_reducible refine gS_ ?_);first|((with_reducible refine gL_ ?_);first|refine W.run ?_ fun a w G=>?_|refine W.mv fun a w G=>?_|refine W.asg fun a w G=>?_|refine W.bx fun b a w G=>?_|(refine W.nn hK ?_;clear hK K)|refine W.nl ?_|refine W.al fun b a w G=>?_|refine W.st fun w=>?_|refine W.stp fun w=>?_|refine W.ste ?_ fun w=>?_)|((with_reducible refine gC_ ?_);first|refine W.reg fun K hK=>?_|refine W.reg1 ?_|refine W.sq fun K hK=>?_|refine W.ds ?_ (fun β a w G hu=>W.fin ?_ hu) mixedOrders (by kernel_rfl)|refine W.sk ?_|refine W.cd (fun hc=>?_) (fun hc=>?_)|refine W.cb (fun hc=>?_) (fun hc=>?_)|refine W.bl ?_|refine W.ex ?_|refine W.rt ?_)|((with_reducible refine W.kn hK ?_);clear hK K)|(with_reducible first|refine W.bn ?_|refine W.xt ?_|refine W.xb ?_|refine W.xo ?_|refine W.tr ?_|refine W.br ?_)|refine W.rt1 rfl ?_|refine W.rt2 rfl ?_ ?_|refine W.rt3 rfl ?_ ?_ ?_)|refine W.lpo 71 (OWNS.nil (k:=none) (e:=34)) (T:=NM (6 * n + 100)) (xs0:=[]) (fun j=>2 - j) (fun j=>j ≤ 2) (fun j=>limJ rg ra rb rc j) [12,14,15,16,17,18,70,71,72,73,74,75,76,77,78,79,80,81,82,83,84,85,86,87,88,89,90,91,92,93,94,95,96,97,98,99,100,101,102,103,104,105,106,107,108,109,110,111,112,113,68,69] (fun j V=>[(70,NT j),(12,.ex V),(68,NM (6 * n + 100) (limK rg ra)),(69,NT 2)]) (fun j=>[]) 0 ?_ ?_ ?_ ?_ fun j hj V own a w G hO=>?_|refine W.ds ?_ (fun β a w G hu=>W.fing ?_) mixedOrders (by kernel_rfl)|refine W.ap (mt:=.ex (.slice none 0 0)) (T:=NM (6 * n + 100)) hO ?_ fun V own a w G hO=>?_|refine W.ago (K:=fun _ _=>True) (T:=NM (6 * n + 100)) hO (x:=j) (j+1) ?_ ?_ ?_ ?_ ?_|refine W.fzo (T:=NM (6 * n + 100)) 3 hO ?_ fun G=>?_|refine W.cast (t:=111) (τ:=LSC none [NM (max 1 (max (n + n + 1 + (n + n + 1) + 1 + (64 + (n + n))) (max 1 (6 * n + 100)))) [0,(rg.val + ra.val - (rb.val + rc.val)) / (2 * (ra.val * rg.val)),0,(limK rg ra).getD j default]]) (τ':=LSC none [NM (6 * n + 100) [0,(rg.val + ra.val - (rb.val + rc.val)) / (2 * (ra.val * rg.val)),0,(limK rg ra).getD j default]]) (fun h=>LSC.nm h (by omega)) ?_|clear hK K|clear hu|exact True.intro|exact Nat.le_trans (by clear hp;omega) hp|exact Nat.le_trans (by clear hp;omega) hp.1|exact Nat.le_trans (by clear hp;omega) hp.2|(clear hp;omega)|apply And.intro|refine GI.i fun _=>?_|with_reducible rfl|decide|(simp only [List.length_cons,List.length_nil];omega))
  all_goals first
    | omega
    | exact (ps_bad (by assumption)).symm
    | exact limL_bad (by assumption)
    | (have hp2 := chk_pos (l := [rg, ra, rb, rc]) (by omega)
       have hag:=ag_ne hp2
       have hlj:=lim_len rg ra rb rc j
       first
       | exact hag.1
       | exact hag.2
       | exact tok2 (pos_nn hp2).1 (pos_nn hp2).2
       | exact pw4
       | (rw [sho_c (by decide)];exact pw1)
       | (show sB 2 _ _ ≤ BIG;rw [sB2];omega)
       | exact lim_y hp2 (by omega) (by assumption)
       | exact lim_n hp2 (by omega) (by assumption)
       | exact (ps_ok (by assumption)).symm
       | (show j < 2;omega)
       | exact lim_0
       | exact lim_k
       | (simp only [LIM,List.length_append,List.length_cons,List.length_nil];omega)
       | (rw [limL_ok (by assumption),show j = 2 by omega])
       | skip)
    | (have hp2 := chk_pos (l := [rg, ra, rb, rc]) (by omega)
       have hag:=ag_ne hp2
       first
       | exact hag.1
       | exact hag.2
       | exact lim_0
       | exact lim_k
       | exact (ps_ok (by assumption)).symm)
    | skip
instance {n : Nat} {rg ra rb rc : FR} {τ1 : MT} [j1 : NF τ1 (QUD n rg ra rb rc)] : Con Tryz.prog 101 [τ1] (1000 * n + 300000 ≤ BIG) (MT.tup3 (TWR (n + n) (if chkF [rg,ra,rb,rc] = 0 then [[ra.val * rg.val],[rb.val * rc.val,0]] else [])) (LS none ((limL rg ra rb rc).map (NM (6 * n + 100)))) (.ex (errV 69 (chkF [rg,ra,rb,rc])))):=.o1 fun hok h1 hp=>w101.c1 hok (j1.h h1) hp
end Go.Proofs.YtdbdnabpaadigaaGreat
set_option linter.unusedVariables false
set_option linter.unusedSimpArgs false
set_option maxHeartbeats 4000000
set_option maxRecDepth 100000
set_option synthInstance.maxSize 100000
set_option synthInstance.maxHeartbeats 400000
namespace Go.Proofs.YtdbdnabpaadigaaGreat
open Go.RowKit (Below)
attribute [local irreducible] Go.Code.wp Go.wpList Go.bodyPost
theorem ex_gap : gapC (FR.of 16) (FR.of 1) (FR.of 9) (FR.of 9) (FR.of (-1)) = 0:=by
  unfold gapC
  rw [ex_chk,if_pos rfl,FR.of_ok,if_pos rfl,FR.of_val]
  decide
theorem ex_near : nearF (FR.of 16) (FR.of 1) (FR.of 9) (FR.of 9) (-1) = 1:=by
  unfold nearF
  rw [FR.of_val,FR.of_val,FR.of_val]
  decide +kernel
theorem ex_far : farF (FR.of 16) (FR.of 1) (FR.of 9) (FR.of 9) (-1) = 1:=by
  unfold farF
  rw [FR.of_val,FR.of_val,FR.of_val]
  decide +kernel
theorem ex_full : fullF (FR.of 16) (FR.of 1) (FR.of 9) (FR.of 9) = true:=by
  have h : nearF (FR.of 16) (FR.of 1) (FR.of 9) (FR.of 9) 1 = 1:=by
    unfold nearF
    rw [FR.of_val,FR.of_val,FR.of_val]
    decide +kernel
  unfold fullF
  rw [ex_chk,ex_far,h];rfl
theorem ex_lim : limL (FR.of 16) (FR.of 1) (FR.of 9) (FR.of 9) = []:=by
  have h : (limK (FR.of 16) (FR.of 1)).filter (fun u=>limI (FR.of 16) (FR.of 1) (FR.of 9) (FR.of 9) u) = []:=by
    unfold limI limK limA
    rw [FR.of_val,FR.of_val,FR.of_val]
    decide +kernel
  unfold limL limJ
  rw [ex_chk,if_pos rfl,show (limK (FR.of 16) (FR.of 1)).take 2 = limK (FR.of 16) (FR.of 1) from rfl,h];rfl
attribute [local irreducible] plusF minusF joinF levI lev PW RLN tB sB timesF stepF tmF normF TOK sgL surdsF chkF gapC fullF nearF farF limL limJ
instance  : Con Tryz.prog 36 [] (True) (BT true):=.o0 fun hok  hp=>by
  refine St.enter (N:=53) Tryz.func36 rfl rfl rfl hok enter0 fun a=>?_
  repeat' (first|((with_reducible refine gS_ ?_);first|((with_reducible refine gL_ ?_);first|refine W.run ?_ fun a w G=>?_|refine W.mv fun a w G=>?_|refine W.asg fun a w G=>?_|refine W.bx fun b a w G=>?_|(refine W.nn hK ?_;clear hK K)|refine W.nl ?_|refine W.al fun b a w G=>?_|refine W.st fun w=>?_|refine W.stp fun w=>?_|refine W.ste ?_ fun w=>?_)|((with_reducible refine gC_ ?_);first|refine W.reg fun K hK=>?_|refine W.reg1 ?_|refine W.sq fun K hK=>?_|refine W.ds ?_ (fun β a w G hu=>W.fin ?_ hu) mixedOrders (by kernel_rfl)|refine W.sk ?_|refine W.cd (fun hc=>?_) (fun hc=>?_)|refine W.cb (fun hc=>?_) (fun hc=>?_)|refine W.bl ?_|refine W.ex ?_|refine W.rt ?_)|((with_reducible refine W.kn hK ?_);clear hK K)|(with_reducible first|refine W.bn ?_|refine W.xt ?_|refine W.xb ?_|refine W.xo ?_|refine W.tr ?_|refine W.br ?_)|refine W.rt1 rfl ?_|refine W.rt2 rfl ?_ ?_|refine W.rt3 rfl ?_ ?_ ?_)|clear hK K|clear hu|exact True.intro|exact Nat.le_trans (by clear hp;omega) hp|exact Nat.le_trans (by clear hp;omega) hp.1|exact Nat.le_trans (by clear hp;omega) hp.2|(clear hp;omega)|apply And.intro|refine GI.i fun _=>?_|with_reducible rfl|decide|(simp only [List.length_cons,List.length_nil];omega))
  all_goals first
    | (rw [ex_gap,ex_chk,FR.of_val,if_pos rfl,if_pos rfl,ex_near,ex_far,ex_full,ex_lim];rfl)
    | (simp only [ex_gap,ex_chk,FR.of_val,if_true,ex_near,ex_far,ex_full,ex_lim];decide)
    | decide
    | skip
end Go.Proofs.YtdbdnabpaadigaaGreat
namespace Go.Proofs.YtdbdnabpaadigaaGreat
end Go.Proofs.YtdbdnabpaadigaaGreat
namespace Go.Proofs.YtdbdnabpaadigaaGreat
open Go.RowKit (Below)
attribute [local irreducible] rotQ compareF befR
end Go.Proofs.YtdbdnabpaadigaaGreat
namespace Go.Proofs.YtdbdnabpaadigaaGreat
open Go.RowKit (Below)
end Go.Proofs.YtdbdnabpaadigaaGreat
namespace Go.Proofs.YtdbdnabpaadigaaGreat
open Go.RowKit (Below)
end Go.Proofs.YtdbdnabpaadigaaGreat
namespace Go.Proofs.YtdbdnabpaadigaaGreat
open Go.RowKit (Below)
def invQ (l : List FR) (k : Int) : List FR:=[invF l k 0,invF l k 1,invF l k 2,invF l k 3]
theorem inv_pos {l : List FR} {k : Int} (h : chkF l = 0) (hl : l.length = 4) : (invQ l k).all posR = true:=by
  have hp:=chk_pos h
  have : ∀ j,posR (invF l k j) = true:=fun j=>by
    unfold invF;rw [if_pos h,posR_of4]
    have hlt : (j + md4 k) % 4 < l.length:=by rw [hl];exact Nat.mod_lt _ (by decide)
    refine decide_eq_true (posR_val (List.all_eq_true.1 hp _ ?_))
    rw [List.getD_eq_getElem?_getD,List.getElem?_eq_getElem hlt];exact List.getElem_mem hlt
  unfold invQ;simp [this]
end Go.Proofs.YtdbdnabpaadigaaGreat
namespace Go.Proofs.YtdbdnabpaadigaaGreat
end Go.Proofs.YtdbdnabpaadigaaGreat
namespace Go.Proofs.YtdbdnabpaadigaaGreat
theorem fr_self {r : FR} (hw : wfl r.p ∧ wfl r.q) (hok : r.ok = true) : FR.of r.val = r:=by
  obtain ⟨s,p,q⟩:=r
  have hw : wfl p ∧ wfl q:=hw
  have hok : qok s p q = true:=hok
  by_cases hp : p.length = 0
  · have e:=List.length_eq_zero_iff.1 hp
    subst e
    have h : qok s [] q = true:=hok
    have hv : FR.val ⟨s,[],q⟩ = 0:=qval_nil rfl
    unfold qok at h
    split at h
    · rename_i k
      obtain rfl:=k.2
      rw [hv]
      have : s = false:=by simpa using h
      subst this
      unfold FR.of dwords
      rw [if_pos rfl,show (0 : Rat).num.natAbs = 0 from rfl,words_zero];rfl
    · simp at h
  · obtain ⟨_,h3,h4,h5,h6⟩:=qval_parts hw hok hp
    have hp0 : val p ≠ 0:=fun e=>ne_of_len hp (val_eq_zero h3 e)
    have hne : FR.val ⟨s,p,q⟩ ≠ 0:=fun e=>by
      have h5' : (FR.val ⟨s,p,q⟩).num = sg s (val p):=h5
      rw [e] at h5'
      have:=congrArg Int.natAbs h5'
      rw [sg_abs] at this;exact hp0 this.symm
    have hs : decide (FR.val ⟨s,p,q⟩ < 0) = s:=by
      have h5' : (FR.val ⟨s,p,q⟩).num = sg s (val p):=h5
      have h7 : FR.val ⟨s,p,q⟩ < 0 ↔ (FR.val ⟨s,p,q⟩).num < 0:=by
        rw [← Rat.not_le,← Rat.num_nonneg];omega
      rw [Bool.eq_iff_iff,decide_eq_true_iff,h7,h5']
      cases s <;> simp [sg] <;> omega
    unfold FR.of dwords
    rw [if_neg hne,hs]
    have e1 : (FR.val ⟨s,p,q⟩).num.natAbs = val p:=(congrArg Int.natAbs h5).trans sg_abs
    have e2 : (FR.val ⟨s,p,q⟩).den = val q:=h6
    rw [e1,e2,words_val hw.1 h3,words_val hw.2 h4]
theorem FX.self {n : Nat} {r : FR} {v : Value} {G : Gh} (h : (FX n r).t v G) (hok : r.ok = true) : (FX n (FR.of r.val)).t v G:=FX.eq h (fr_self (QR.wf (FX.qr h)) hok).symm
theorem FX.inv {n : Nat} {ra rb rc rd : FR} {k : Int} {j : Nat} {v : Value} {G : Gh} (hck : chkF [ra,rb,rc,rd] = 0) (h : (FX n ([ra,rb,rc,rd].getD ((j + md4 k) % 4) default)).t v G) : (FX n (invF [ra,rb,rc,rd] k j)).t v G:=by
  have hp:=chk_pos hck
  unfold invF;rw [if_pos hck]
  refine FX.self h ?_
  have hlt : (j + md4 k) % 4 < [ra,rb,rc,rd].length:=Nat.mod_lt _ (by decide)
  have hm : [ra,rb,rc,rd].getD ((j + md4 k) % 4) default ∈ [ra,rb,rc,rd]:=by
    rw [List.getD_eq_getElem?_getD,List.getElem?_eq_getElem hlt];exact List.getElem_mem hlt
  have:=List.all_eq_true.1 hp _ hm
  unfold posR at this
  exact (Bool.and_eq_true_iff.1 this).1
section
variable {a b c d A B C D : Rat}
end
end Go.Proofs.YtdbdnabpaadigaaGreat
set_option linter.unusedVariables false
set_option linter.unusedSimpArgs false
namespace Go.Proofs.YtdbdnabpaadigaaGreat
def nearR (x : Rat) (u v : RR) (k : Rat) : RR:=RR.of x + RR.of (-(2 * k)) * u + RR.of 2 * v
theorem rt_sub {x : Rat} {u v : RR} {k m : Rat} : nearR x u v k - nearR x u v m = RR.of (2 * (m - k)) * u:=by
  unfold nearR
  obtain ⟨f,hf,rfl⟩:=RR.rep u;obtain ⟨g,hg,rfl⟩:=RR.rep v
  exact RR.ext fun n=>by grind
theorem near_R {g a b c : FR} (h : [g,a,b,c].all posR = true) (k : Rat) : nearF g a b c k = sgR (nearR (g.val + a.val - (b.val + c.val)) (rt (a.val * g.val)) (rt (b.val * c.val)) k):=surds_sg (pos_nn h).1 (pos_nn h).2
theorem far_R {g a b c : FR} (h : [g,a,b,c].all posR = true) (k : Rat) : farF g a b c k = sgR (nearR (-(g.val + a.val - (b.val + c.val))) (rt (a.val * g.val)) (rt (b.val * c.val)) (-k)):=by
  unfold farF nearR
  rw [show -(g.val + a.val - (b.val + c.val)) = b.val + c.val - (g.val + a.val) by grind,show -(2 * -k) = 2 * k by grind]
  exact surds_sg (pos_nn h).1 (pos_nn h).2
theorem nearR_anti {x : Rat} {u v : RR} (hu : 0 ≤ u) {k m : Rat} (hk : k ≤ m) : sgR (nearR x u v m) ≤ sgR (nearR x u v k):=by
  refine sgR_mono ?_
  rw [RR.le_iff_sub,rt_sub]
  exact RR.mul_nn (RR.of_le (p:=0) |>.2 (by grind)) hu
theorem near_anti {g a b c : FR} (h : [g,a,b,c].all posR = true) {k m : Rat} (hk : k ≤ m) : nearF g a b c m ≤ nearF g a b c k:=by
  rw [near_R h,near_R h];exact nearR_anti (rt_nn _) hk
theorem far_mono {g a b c : FR} (h : [g,a,b,c].all posR = true) {k m : Rat} (hk : k ≤ m) : farF g a b c k ≤ farF g a b c m:=by
  rw [far_R h,far_R h];exact nearR_anti (rt_nn _) (by grind)
section
variable {g a b c : Rat}
end
theorem rt_pos {x : Rat} (h : 0 < x) : 0 < rt x:=by
  refine RR.lt_of_ne (rt_nn x) fun e=>?_
  have h2:=rt_sq (Rat.le_of_lt h)
  rw [← e,RR.mul_zero] at h2
  have:=RR.of_inj (p:=0) |>.1 h2
  grind
end Go.Proofs.YtdbdnabpaadigaaGreat
set_option linter.unusedVariables false
set_option linter.unusedSimpArgs false
namespace Go.Proofs.YtdbdnabpaadigaaGreat
theorem sg_dif {p y z y' z' : Rat} (hp : 0 ≤ p) : sgL [[p]] (plusF [y,z] (minusF [y',z'])) = surdF (y - y') (z - z') p:=by
  rw [show plusF [y,z] (minusF [y',z']) = [y + -y',z + -z'] from rfl,sg1 hp,← Rat.sub_eq_add_neg,← Rat.sub_eq_add_neg]
theorem sg_dif1 {p y z m : Rat} (hp : 0 ≤ p) : sgL [[p]] (plusF [y,z] (minusF [m])) = surdF (y - m) (z - 0) p:=by
  rw [show plusF [y,z] (minusF [m]) = [y + -m,z + 0] from rfl,sg1 hp,← Rat.sub_eq_add_neg,Rat.add_zero,show z - 0 = z by grind]
theorem sho_z : shoF [0] = []:=by decide +kernel
theorem sg_dif0 {p y z m : Rat} (hp : 0 ≤ p) : sgL [[p]] (plusF [y,z] (minusF (shoF [m]))) = surdF (y - m) (z - 0) p:=by
  by_cases h : m = 0
  · subst h
    rw [sho_z,show plusF [y,z] (minusF []) = [y + 0,z + 0] from rfl,sg1 hp,Rat.add_zero,Rat.add_zero,show z - 0 = z by grind,show y - 0 = y by grind]
  · rw [sho_c h,sg_dif1 hp]
noncomputable def qR (g a b c : FR) (k : Rat) : RR:=RR.of (midF g a b c) + RR.of (2 * k) * rt (a.val * g.val)
section
variable {g a b c : FR} (h : [g,a,b,c].all posR = true)
include h
theorem bc_pos : 0 < b.val * c.val:=by
  simp only [List.all_cons,List.all_nil,Bool.and_true,Bool.and_eq_true] at h
  exact Rat.mul_pos (posR_val h.2.2.1) (posR_val h.2.2.2)
theorem ag_pos : 0 < a.val * g.val:=by
  simp only [List.all_cons,List.all_nil,Bool.and_true,Bool.and_eq_true] at h
  exact Rat.mul_pos (posR_val h.2.1) (posR_val h.1)
theorem s4_pos : 0 < RR.of (4 * (b.val * c.val)):=RR.of_lt (p:=0) |>.2 (by have:=bc_pos h;grind)
theorem scale_sg {y z : Rat} : surdF y z (a.val * g.val) = sgR (RR.of (4 * (b.val * c.val)) * (RR.of y + RR.of z * rt (a.val * g.val))):=by
  rw [sgR_mul (RR.of _),sgR_pos (s4_pos h),Int.one_mul,surd_sg (Rat.le_of_lt (ag_pos h))]
theorem q_sq (k : Rat) : qR g a b c k * qR g a b c k = RR.of (4 * (b.val * c.val) * sinA g a b c k) + RR.of (4 * (b.val * c.val) * sinB g a b c k) * rt (a.val * g.val):=by
  have hbc:=bc_pos h
  have e1 : 4 * (b.val * c.val) * sinA g a b c k = midF g a b c * midF g a b c + 4 * k * k * (a.val * g.val):=by
    unfold sinA midF
    rw [Rat.mul_comm,Rat.div_mul_cancel (by grind)]
    grind
  have e2 : 4 * (b.val * c.val) * sinB g a b c k = 4 * midF g a b c * k:=by
    have : (b.val * c.val) * sinB g a b c k = midF g a b c * k:=by
      unfold sinB midF
      rw [Rat.mul_comm,Rat.div_mul_cancel (by grind)]
    grind
  rw [e1,e2,RR.of_add,show RR.of (4 * k * k * (a.val * g.val)) = RR.of (4 * k * k) * (rt (a.val * g.val) * rt (a.val * g.val)) by rw [rt_sq (Rat.le_of_lt (ag_pos h)),← RR.of_mul]]
  unfold qR
  generalize rt (a.val * g.val) = X
  obtain ⟨f,hf,rfl⟩:=RR.rep X
  exact RR.ext fun n=>by grind
theorem sin_diff {k m y z : Rat} : surdF (1 - sinA g a b c k - y) (-sinB g a b c k - z) (a.val * g.val) = sgR (RR.of (4 * (b.val * c.val)) - qR g a b c k * qR g a b c k - RR.of (4 * (b.val * c.val)) * (RR.of y + RR.of z * rt (a.val * g.val))):=by
  rw [scale_sg h,q_sq h]
  congr 1
  generalize rt (a.val * g.val) = X
  obtain ⟨f,hf,rfl⟩:=RR.rep X
  exact RR.ext fun n=>by grind
theorem sin_far (k : Rat) : surdF (1 - sinA g a b c k) (-sinB g a b c k) (a.val * g.val) = nearF g a b c k * farF g a b c k:=by
  have e:=sin_diff h (k:=k) (m:=k) (y:=0) (z:=0)
  rw [show 1 - sinA g a b c k - 0 = 1 - sinA g a b c k by grind,show -sinB g a b c k - 0 = -sinB g a b c k by grind] at e
  rw [e,near_R h,far_R h,← sgR_mul]
  congr 1
  have e2 : RR.of (4 * (b.val * c.val)) = RR.of 4 * (rt (b.val * c.val) * rt (b.val * c.val)):=by rw [rt_sq (Rat.le_of_lt (bc_pos h)),← RR.of_mul]
  rw [e2]
  unfold nearR qR midF
  generalize rt (a.val * g.val) = X;generalize rt (b.val * c.val) = Y
  obtain ⟨f,hf,rfl⟩:=RR.rep X;obtain ⟨f1,hf1,rfl⟩:=RR.rep Y
  exact RR.ext fun n=>by grind
theorem sin_cmp (k m : Rat) : surdF (1 - sinA g a b c k - (1 - sinA g a b c m)) (-sinB g a b c k - -sinB g a b c m) (a.val * g.val) = sgR (qR g a b c m * qR g a b c m - qR g a b c k * qR g a b c k):=by
  rw [sin_diff h (m:=m),q_sq h m]
  congr 1
  generalize qR g a b c k * qR g a b c k = Z
  generalize rt (a.val * g.val) = X
  obtain ⟨f,hf,rfl⟩:=RR.rep X;obtain ⟨f1,hf1,rfl⟩:=RR.rep Z
  exact RR.ext fun n=>by grind
theorem sin_one (k : Rat) : surdF (1 - sinA g a b c k - 1) (-sinB g a b c k - 0) (a.val * g.val) = -sgR (qR g a b c k * qR g a b c k):=by
  rw [sin_diff h (m:=k),← sgR_negate]
  congr 1
  generalize qR g a b c k * qR g a b c k = Z
  generalize rt (a.val * g.val) = X
  obtain ⟨f,hf,rfl⟩:=RR.rep X;obtain ⟨f1,hf1,rfl⟩:=RR.rep Z
  exact RR.ext fun n=>by grind
omit h in
theorem sq_sg (x : RR) : 0 ≤ sgR (x * x):=by
  have:=sgR_mul x x
  rcases sgR_cases x with ⟨_,e⟩ | ⟨_,e⟩ | ⟨_,e⟩ <;> rw [this,e] <;> decide
theorem sin_le1 (k : Rat) : surdF (1 - sinA g a b c k - 1) (-sinB g a b c k - 0) (a.val * g.val) ≤ 0:=by
  rw [sin_one h];have:=sq_sg (qR g a b c k);omega
omit h in
theorem at_cases : (atF g a b c = 1 ∧ 0 ≤ midF g a b c) ∨ (atF g a b c = -1 ∧ midF g a b c < 0):=by
  unfold atF
  by_cases e : (midF g a b c).num.sign < 0
  · rw [if_pos e];exact .inr ⟨rfl,(nsg _).1 e⟩
  · rw [if_neg e];exact .inl ⟨rfl,by have:=fun k=>e ((nsg _).2 k);grind⟩
omit h in
theorem q_at {k : Rat} (h1 : -1 ≤ k) (h2 : k ≤ 1) : 0 ≤ qR g a b c ((atF g a b c : Int) : Rat) * qR g a b c ((atF g a b c : Int) : Rat) - qR g a b c k * qR g a b c k:=by
  have hX:=rt_nn (a.val * g.val)
  rcases at_cases (g:=g) (a:=a) (b:=b) (c:=c) with ⟨e,hm⟩ | ⟨e,hm⟩ <;> rw [e]
  · have e2 : qR g a b c ((1 : Int) : Rat) * qR g a b c ((1 : Int) : Rat) - qR g a b c k * qR g a b c k = RR.of (2 * (1 - k)) * rt (a.val * g.val) * (RR.of (2 * midF g a b c) + RR.of (2 * (1 + k)) * rt (a.val * g.val)) := by
      rw [show ((1 : Int) : Rat) = 1 from rfl]
      unfold qR
      generalize rt (a.val * g.val) = X
      obtain ⟨f,hf,rfl⟩:=RR.rep X
      exact RR.ext fun n=>by grind
    rw [e2]
    exact RR.mul_nn (RR.mul_nn (RR.of_le (p:=0) |>.2 (by grind)) hX) (RR.add_nn (RR.of_le (p:=0) |>.2 (by grind)) (RR.mul_nn (RR.of_le (p:=0) |>.2 (by grind)) hX))
  · have e2 : qR g a b c ((-1 : Int) : Rat) * qR g a b c ((-1 : Int) : Rat) - qR g a b c k * qR g a b c k = RR.of (2 * (1 + k)) * rt (a.val * g.val) * (RR.of (-(2 * midF g a b c)) + RR.of (2 * (1 - k)) * rt (a.val * g.val)) := by
      rw [show ((-1 : Int) : Rat) = -1 from rfl]
      unfold qR
      generalize rt (a.val * g.val) = X
      obtain ⟨f,hf,rfl⟩:=RR.rep X
      exact RR.ext fun n=>by grind
    rw [e2]
    exact RR.mul_nn (RR.mul_nn (RR.of_le (p:=0) |>.2 (by grind)) hX) (RR.add_nn (RR.of_le (p:=0) |>.2 (by grind)) (RR.mul_nn (RR.of_le (p:=0) |>.2 (by grind)) hX))
theorem mid_far (hr : rgtF g a b c = false) : (0 ≤ midF g a b c → RR.of 2 * rt (a.val * g.val) < RR.of (midF g a b c)) ∧ (midF g a b c < 0 → RR.of 2 * rt (a.val * g.val) < RR.of (-midF g a b c)):=by
  unfold rgtF at hr
  rw [decide_eq_false_iff_not,cmpQ_le] at hr
  have ht : 0 ≤ RR.of 2 * rt (a.val * g.val):=RR.mul_nn (RR.of_le (p:=0) |>.2 (by decide)) (rt_nn _)
  have key : ∀ w : Rat,0 ≤ w → w * w = midF g a b c * midF g a b c → RR.of 2 * rt (a.val * g.val) < RR.of w:=fun w hw e=>by
    rw [RR.lt_iff_sub]
    have e1:=sgR_sq (RR.of_le (p:=0) |>.2 hw) ht
    have e2 : RR.of w * RR.of w - RR.of 2 * rt (a.val * g.val) * (RR.of 2 * rt (a.val * g.val)) = RR.of (w * w - 4 * (a.val * g.val)):=by
      rw [RR.of_sub,RR.of_mul,RR.of_mul,← rt_sq (Rat.le_of_lt (ag_pos h))]
      generalize rt (a.val * g.val) = X
      obtain ⟨f,hf,rfl⟩:=RR.rep X
      exact RR.ext fun n=>by grind
    rw [e2,sgR_pos (RR.of_lt (p:=0) |>.2 (by rw [e];grind))] at e1
    rcases sgR_cases (RR.of w - RR.of 2 * rt (a.val * g.val)) with ⟨_,e3⟩ | ⟨_,e3⟩ | ⟨e4,_⟩
    · omega
    · omega
    · exact e4
  exact ⟨fun hm=>key _ hm rfl,fun hm=>key _ (by grind) (by grind)⟩
theorem q_most (hr : rgtF g a b c = false) {k : Rat} (h1 : -1 ≤ k) (h2 : k ≤ 1) : 0 ≤ qR g a b c k * qR g a b c k - qR g a b c ((-atF g a b c : Int) : Rat) * qR g a b c ((-atF g a b c : Int) : Rat):=by
  have hX:=rt_nn (a.val * g.val)
  have hf:=mid_far h hr
  rcases at_cases (g:=g) (a:=a) (b:=b) (c:=c) with ⟨e,hm⟩ | ⟨e,hm⟩ <;> rw [e]
  · have hd:=RR.le_iff_sub.1 (RR.le_of_lt (hf.1 hm))
    have e2 : qR g a b c k * qR g a b c k - qR g a b c ((-1 : Int) : Rat) * qR g a b c ((-1 : Int) : Rat) = RR.of (2 * (1 + k)) * rt (a.val * g.val) * (RR.of 2 * (RR.of (midF g a b c) - RR.of 2 * rt (a.val * g.val)) + RR.of (2 * (1 + k)) * rt (a.val * g.val)):=by
      rw [show ((-1 : Int) : Rat) = -1 from rfl]
      unfold qR
      generalize rt (a.val * g.val) = X
      obtain ⟨f,hf,rfl⟩:=RR.rep X
      exact RR.ext fun n=>by grind
    rw [e2]
    exact RR.mul_nn (RR.mul_nn (RR.of_le (p:=0) |>.2 (by grind)) hX) (RR.add_nn (RR.mul_nn (RR.of_le (p:=0) |>.2 (by decide)) hd) (RR.mul_nn (RR.of_le (p:=0) |>.2 (by grind)) hX))
  · have hd:=RR.le_iff_sub.1 (RR.le_of_lt (hf.2 hm))
    have e2 : qR g a b c k * qR g a b c k - qR g a b c ((- -1 : Int) : Rat) * qR g a b c ((- -1 : Int) : Rat) = RR.of (2 * (1 - k)) * rt (a.val * g.val) * (RR.of 2 * (RR.of (-midF g a b c) - RR.of 2 * rt (a.val * g.val)) + RR.of (2 * (1 - k)) * rt (a.val * g.val)):=by
      rw [show ((- -1 : Int) : Rat) = 1 from rfl]
      unfold qR
      generalize rt (a.val * g.val) = X
      obtain ⟨f,hf,rfl⟩:=RR.rep X
      exact RR.ext fun n=>by grind
    rw [e2]
    exact RR.mul_nn (RR.mul_nn (RR.of_le (p:=0) |>.2 (by grind)) hX) (RR.add_nn (RR.mul_nn (RR.of_le (p:=0) |>.2 (by decide)) hd) (RR.mul_nn (RR.of_le (p:=0) |>.2 (by grind)) hX))
theorem sin_ends : surdF (1 - sinA g a b c (-1) - (1 - sinA g a b c 1)) (-sinB g a b c (-1) - -sinB g a b c 1) (a.val * g.val) = (midF g a b c).num.sign:=by
  rw [sin_cmp h]
  have e2 : qR g a b c 1 * qR g a b c 1 - qR g a b c (-1) * qR g a b c (-1) = RR.of (midF g a b c) * (RR.of 8 * rt (a.val * g.val)):=by
    unfold qR
    generalize rt (a.val * g.val) = X
    obtain ⟨f,hf,rfl⟩:=RR.rep X
    exact RR.ext fun n=>by grind
  rw [e2,sgR_mul,sgR_of,sgR_pos (RR.mul_pos (RR.of_lt (p:=0) |>.2 (by decide)) (rt_pos (ag_pos h))),Int.mul_one]
theorem q_side (hr : rgtF g a b c = false) {k : Rat} (h1 : -1 ≤ k) (h2 : k ≤ 1) : sgR (qR g a b c k) = (midF g a b c).num.sign:=by
  have hX:=rt_nn (a.val * g.val)
  have hf:=mid_far h hr
  by_cases hm : midF g a b c < 0
  · have hd:=RR.lt_iff_sub.1 (hf.2 hm)
    have e : qR g a b c k = -(RR.of (-midF g a b c) - RR.of 2 * rt (a.val * g.val) + RR.of (2 * (1 - k)) * rt (a.val * g.val)):=by
      unfold qR
      generalize rt (a.val * g.val) = X
      obtain ⟨f,hf,rfl⟩:=RR.rep X
      exact RR.ext fun n=>by grind
    rw [e,sgR_negate,sgR_pos (RR.add_pos hd (RR.mul_nn (RR.of_le (p:=0) |>.2 (by grind)) hX))]
    have:=(nsg _).2 hm
    have:=sgn_cases (midF g a b c).num
    omega
  · have hm2 : 0 ≤ midF g a b c:=by grind
    have hd:=RR.lt_iff_sub.1 (hf.1 hm2)
    have e : qR g a b c k = RR.of (midF g a b c) - RR.of 2 * rt (a.val * g.val) + RR.of (2 * (1 + k)) * rt (a.val * g.val):=by
      unfold qR
      generalize rt (a.val * g.val) = X
      obtain ⟨f,hf,rfl⟩:=RR.rep X
      exact RR.ext fun n=>by grind
    rw [e,sgR_pos (RR.add_pos hd (RR.mul_nn (RR.of_le (p:=0) |>.2 (by grind)) hX))]
    have hne : midF g a b c ≠ 0:=fun e0=>by
      rw [e0] at hd
      have h0 : 0 < RR.of 0 - RR.of 2 * rt (a.val * g.val):=hd
      have : RR.of 0 - RR.of 2 * rt (a.val * g.val) ≤ 0:=by
        rw [show RR.of 0 = (0 : RR) from rfl,RR.zero_sub,← RR.neg_nn,RR.neg_neg]
        exact RR.mul_nn (RR.of_le (p:=0) |>.2 (by decide)) hX
      exact h0 this
    have h3:=rat_pos_iff.1 (show 0 < midF g a b c by grind)
    rw [Int.sign_eq_one_of_pos h3]
end
end Go.Proofs.YtdbdnabpaadigaaGreat
