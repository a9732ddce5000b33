import Derived.Test.YtnjbcjmkkejfpaaGreatQj
set_option linter.unusedVariables false
set_option linter.unusedSimpArgs false
set_option linter.unusedVariables false
set_option linter.unusedSimpArgs false
set_option maxHeartbeats 4000000
set_option maxRecDepth 100000
set_option synthInstance.maxSize 100000
set_option synthInstance.maxHeartbeats 400000
namespace Go.Proofs.YtnjbcjmkkejfpaaGreat
open Go.RowKit (Below)
attribute [local irreducible] Go.Code.wp Go.wpList Go.bodyPost
private theorem gS_ {W0 : World} {G0 : Gh} {N : Nat} {L : List (Nat × MT)} {B : List BX} {a : Act} {w : World} {G : Gh} {q : Prop} (h : St W0 G0 N L B a w G → q) : St W0 G0 N L B a w G → q:=h
private theorem gL_ {p : Prop} {P : Program} {arr : Array Oper} {Q : Exit → Act → World → Prop} {l : List Oper} {a : Act} {w : World} (h : p → wpList P arr Q l a w) : p → wpList P arr Q l a w:=h
private theorem gC_ {p : Prop} {P : Program} {c : Code} {Q : Exit → Act → World → Prop} {a : Act} {w : World} (h : p → c.wp P Q a w) : p → c.wp P Q a w:=h
private theorem mixedOrders : Tryz.prog.follows .mixedOrders = true:=by kernel_rfl
attribute [local irreducible] trnC trnF dirC dirS slF slEC slC slE slS cmpRes refRes sumsF cmpCode
theorem goodR_sg {r : FR} : (r.ok && decide (r.val.num.sign ≥ 0)) = goodR r:=by
  have hs:=nsg r.val
  unfold goodR
  congr 1
  refine decide_eq_decide.2 ⟨fun h=>?_,fun h=>?_⟩
  · have : ¬ r.val < 0:=fun k=>by have:=hs.2 k;omega
    grind
  · have : ¬ r.val.num.sign < 0:=fun k=>by have:=hs.1 k;grind
    omega
theorem w96 {n : Nat} {r : FR} : Con Tryz.prog 96 [FX n r] (n ≤ BIG) (BT (goodR r)):=.o1 fun hok h1 hp=>by
  refine St.enter (N:=10) Tryz.func96 rfl rfl rfl hok (enter1 h1) fun a=>?_
  repeat' (first|((with_reducible refine gS_ ?_);first|((with_reducible refine gL_ ?_);first|refine W.run ?_ fun a w G=>?_|refine W.mv fun a w G=>?_|refine W.asg fun a w G=>?_|refine W.bx fun b a w G=>?_|(refine W.nn hK ?_;clear hK K)|refine W.nl ?_|refine W.al fun b a w G=>?_|refine W.st fun w=>?_|refine W.stp fun w=>?_|refine W.ste ?_ fun w=>?_)|((with_reducible refine gC_ ?_);first|refine W.reg fun K hK=>?_|refine W.reg1 ?_|refine W.sq fun K hK=>?_|refine W.ds ?_ (fun β a w G hu=>W.fin ?_ hu) mixedOrders (by kernel_rfl)|refine W.sk ?_|refine W.cd (fun hc=>?_) (fun hc=>?_)|refine W.cb (fun hc=>?_) (fun hc=>?_)|refine W.bl ?_|refine W.ex ?_|refine W.rt ?_)|((with_reducible refine W.kn hK ?_);clear hK K)|(with_reducible first|refine W.bn ?_|refine W.xt ?_|refine W.xb ?_|refine W.xo ?_|refine W.tr ?_|refine W.br ?_)|refine W.rt1 rfl ?_|refine W.rt2 rfl ?_ ?_|refine W.rt3 rfl ?_ ?_ ?_)|clear hK K|clear hu|exact True.intro|exact Nat.le_trans (by clear hp;omega) hp|exact Nat.le_trans (by clear hp;omega) hp.1|exact Nat.le_trans (by clear hp;omega) hp.2|(clear hp;omega)|apply And.intro|refine GI.i fun _=>?_|with_reducible rfl|decide|(simp only [List.length_cons,List.length_nil];omega))
  all_goals first
    | exact goodR_sg
    | skip
instance {n : Nat} {r : FR} {τ1 : MT} [j1 : NF τ1 (FX n r)] : Con Tryz.prog 96 [τ1] (n ≤ BIG) (BT (goodR r)):=.o1 fun hok h1 hp=>w96.c1 hok (j1.h h1) hp
theorem w97 {n m k l : Nat} {x y z u : Rat} : Con Tryz.prog 97 [QV n x,QV m y,QV k z,QV l u] (100 * n + 100 * m + 100 * k + 100 * l + 10000 ≤ BIG) (IT (sumsF x y z u)):=.o4 fun hok h1 h2 h3 h4 hp=>by
  refine St.enter (N:=30) Tryz.func97 rfl rfl rfl hok (enter4 h1 h2 h3 h4) fun a=>?_
  repeat' (first|((with_reducible refine gS_ ?_);first|((with_reducible refine gL_ ?_);first|refine W.run ?_ fun a w G=>?_|refine W.mv fun a w G=>?_|refine W.asg fun a w G=>?_|refine W.bx fun b a w G=>?_|(refine W.nn hK ?_;clear hK K)|refine W.nl ?_|refine W.al fun b a w G=>?_|refine W.st fun w=>?_|refine W.stp fun w=>?_|refine W.ste ?_ fun w=>?_)|((with_reducible refine gC_ ?_);first|refine W.reg fun K hK=>?_|refine W.reg1 ?_|refine W.sq fun K hK=>?_|refine W.ds ?_ (fun β a w G hu=>W.fin ?_ hu) mixedOrders (by kernel_rfl)|refine W.sk ?_|refine W.cd (fun hc=>?_) (fun hc=>?_)|refine W.cb (fun hc=>?_) (fun hc=>?_)|refine W.bl ?_|refine W.ex ?_|refine W.rt ?_)|((with_reducible refine W.kn hK ?_);clear hK K)|(with_reducible first|refine W.bn ?_|refine W.xt ?_|refine W.xb ?_|refine W.xo ?_|refine W.tr ?_|refine W.br ?_)|refine W.rt1 rfl ?_|refine W.rt2 rfl ?_ ?_|refine W.rt3 rfl ?_ ?_ ?_)|clear hK K|clear hu|exact True.intro|exact Nat.le_trans (by clear hp;omega) hp|exact Nat.le_trans (by clear hp;omega) hp.1|exact Nat.le_trans (by clear hp;omega) hp.2|(clear hp;omega)|apply And.intro|refine GI.i fun _=>?_|with_reducible rfl|decide|(simp only [List.length_cons,List.length_nil];omega))
  all_goals first | omega | (unfold sumsF;rfl) | skip
instance {n m k l : Nat} {x y z u : Rat} {τ1 : MT} [j1 : NQ τ1 (QV n x)] {τ2 : MT} [j2 : NQ τ2 (QV m y)] {τ3 : MT} [j3 : NQ τ3 (QV k z)] {τ4 : MT} [j4 : NQ τ4 (QV l u)] : Con Tryz.prog 97 [τ1,τ2,τ3,τ4] (100 * n + 100 * m + 100 * k + 100 * l + 10000 ≤ BIG) (IT (sumsF x y z u)):=.o4 fun hok h1 h2 h3 h4 hp=>w97.c4 hok (j1.h h1) (j2.h h2) (j3.h h3) (j4.h h4) hp
theorem gd2 {l k : List FR} {i : Nat} (h : l.all goodR = true) (h2 : k.all goodR = true) : ([l,k].getD i default).all goodR = true:=by
  match i with
  | 0=>exact h
  | 1=>exact h2
  | _ + 2=>rfl
theorem good_at {l : List FR} {j : Nat} (h : l.all goodR = true) (hj : j < l.length) (hc : (!goodR (l.getD j default)) = true) : False:=by
  have hm : l.getD j default ∈ l:=by rw [List.getD_eq_getElem?_getD,List.getElem?_eq_getElem hj];exact List.getElem_mem hj
  rw [List.all_eq_true.1 h _ hm] at hc;cases hc
theorem nat2 {i j : Nat} : (2 * (i : Int) + (j : Int)).toNat = 2 * i + j:=by omega
instance {n : Nat} : AsT (FX 1 default) (FX (n + 1)) default:=⟨fun h=>FX.up h (by omega)⟩
theorem w53 {n m : Nat} {l k : List FR} : Con Tryz.prog 53 [LFX n l,LFX m k] (cmpCode l k = 0 ∧ 400 * n + 400 * m + 40000 ≤ BIG) (MT.tup2 (IT (refRes l k)) (IT 0)):=.o2 fun hok h1 h2 hp=>by
  replace h1:=LFX.up h1 (show n ≤ max n m + 1 by omega)
  replace h2:=LFX.up h2 (show m ≤ max n m + 1 by omega)
  have hq:=cmpCode_iff.1 hp.1
  refine St.enter (N:=55) Tryz.func53 rfl rfl rfl hok (enter2 h1 h2) fun a=>?_
  repeat' (first|((with_reducible refine gS_ ?_);first|((with_reducible refine gL_ ?_);first|refine W.run ?_ fun a w G=>?_|refine W.mv fun a w G=>?_|refine W.asg fun a w G=>?_|refine W.bx fun b a w G=>?_|(refine W.nn hK ?_;clear hK K)|refine W.nl ?_|refine W.al fun b a w G=>?_|refine W.st fun w=>?_|refine W.stp fun w=>?_|refine W.ste ?_ fun w=>?_)|((with_reducible refine gC_ ?_);first|refine W.reg fun K hK=>?_|refine W.reg1 ?_|refine W.sq fun K hK=>?_|refine W.ds ?_ (fun β a w G hu=>W.fin ?_ hu) mixedOrders (by kernel_rfl)|refine W.sk ?_|refine W.cd (fun hc=>?_) (fun hc=>?_)|refine W.cb (fun hc=>?_) (fun hc=>?_)|refine W.bl ?_|refine W.ex ?_|refine W.rt ?_)|((with_reducible refine W.kn hK ?_);clear hK K)|(with_reducible first|refine W.bn ?_|refine W.xt ?_|refine W.xb ?_|refine W.xo ?_|refine W.tr ?_|refine W.br ?_)|refine W.rt1 rfl ?_|refine W.rt2 rfl ?_ ?_|refine W.rt3 rfl ?_ ?_ ?_)|refine W.lp 24 (α:=Nat) (fun i=>2 - i) (fun i=>i ≤ 2) [4,5,7,8,9,10,21,22,23,24,25,26,27,28,29,30,31,32,33,34,35,36,37,38,39,40,41,42,43,44,45] (fun i=>[(23,NT i),(22,NT 2),(21,LS none ([l,k].map (LFX (max n m + 1))))]) (fun i=>[(6,ROWS (some 3) ((stF l k i 0).map (FX (max n m + 1))))]) (0) ?_ ?_ ?_ fun i hi a w G=>?_|refine W.ag (x:=i) (i+1) ?_ ?_ ?_ ?_|refine W.lp 31 (α:=Nat) (fun j=>([l,k].getD i default).length - j) (fun j=>j ≤ ([l,k].getD i default).length) [4,5,9,10,30,31,32,33,34,35,36,37,38,39,40,41,42,43,44] (fun j=>[(30,NT j)]) (fun j=>[(6,ROWS (some 3) ((stF l k i j).map (FX (max n m + 1))))]) (0) ?_ ?_ ?_ fun j hj a w G=>?_|refine W.ag (x:=j) (j+1) ?_ ?_ ?_ ?_|clear hK K|clear hu|exact True.intro|exact Nat.le_trans (by clear hp;omega) hp|exact Nat.le_trans (by clear hp;omega) hp.1|exact Nat.le_trans (by clear hp;omega) hp.2|(clear hp;omega)|apply And.intro|refine GI.i fun _=>?_|with_reducible rfl|decide|(simp only [List.length_cons,List.length_nil];omega))
  all_goals (try simp only [nat2] at *)
  all_goals (try have hl2 : ([l,k].getD i default).length ≤ 2:=by (match i with | 0=>exact hq.1 | 1=>exact hq.2.1 | _ + 2=>exact Nat.zero_le 2))
  all_goals (try have hg2:=gd2 (i:=i) hq.2.2.1 hq.2.2.2)
  all_goals (try have hst:=st_len (k:=i) (j:=j) hq.1 hq.2.1)
  all_goals (try have hst0:=st_len (k:=i) (j:=0) hq.1 hq.2.1)
  all_goals first
    | omega
    | rfl
    | (exfalso;simp only [Bool.or_eq_true,decide_eq_true_eq] at *;omega)
    | (exfalso;exact good_at hg2 (by omega) hc)
    | exact st_step hq.1 hq.2.1 (by omega) (by omega)
    | exact st_next (by omega) (by omega)
    | exact (st_next (by omega) (by omega)).symm
    | exact st_end hq.1 hq.2.1 (by omega) hp.1
    | skip
instance {n m : Nat} {l k : List FR} {τ1 : MT} [j1 : NG τ1 (LFX n l)] {τ2 : MT} [j2 : NG τ2 (LFX m k)] : Con Tryz.prog 53 [τ1,τ2] (cmpCode l k = 0 ∧ 400 * n + 400 * m + 40000 ≤ BIG) (MT.tup2 (IT (refRes l k)) (IT 0)):=.o2 fun hok h1 h2 hp=>w53.c2 hok (j1.h h1) (j2.h h2) hp
theorem w13 {n : Nat} {ra rb re : FR} : Con Tryz.prog 13 [PTS [(some 3,FX n ra),(some 3,FX n rb),(some 3,FX n re)]] (20000 * n + 500000 ≤ BIG) (IT (slC ra rb re)):=.o1 fun hok h1 hp=>by
  refine St.enter (N:=28) Tryz.func13 rfl rfl rfl hok (enter1 h1) fun a=>?_
  repeat' (first|((with_reducible refine gS_ ?_);first|((with_reducible refine gL_ ?_);first|refine W.run ?_ fun a w G=>?_|refine W.mv fun a w G=>?_|refine W.asg fun a w G=>?_|refine W.bx fun b a w G=>?_|(refine W.nn hK ?_;clear hK K)|refine W.nl ?_|refine W.al fun b a w G=>?_|refine W.st fun w=>?_|refine W.stp fun w=>?_|refine W.ste ?_ fun w=>?_)|((with_reducible refine gC_ ?_);first|refine W.reg fun K hK=>?_|refine W.reg1 ?_|refine W.sq fun K hK=>?_|refine W.ds ?_ (fun β a w G hu=>W.fin ?_ hu) mixedOrders (by kernel_rfl)|refine W.sk ?_|refine W.cd (fun hc=>?_) (fun hc=>?_)|refine W.cb (fun hc=>?_) (fun hc=>?_)|refine W.bl ?_|refine W.ex ?_|refine W.rt ?_)|((with_reducible refine W.kn hK ?_);clear hK K)|(with_reducible first|refine W.bn ?_|refine W.xt ?_|refine W.xb ?_|refine W.xo ?_|refine W.tr ?_|refine W.br ?_)|refine W.rt1 rfl ?_|refine W.rt2 rfl ?_ ?_|refine W.rt3 rfl ?_ ?_ ?_)|refine W.lp 16 (α:=Nat) (fun j=>2 - j) (fun j=>j ≤ 2 ∧ ([ra,rb].take j).all posR = true) [2,4,13,14,15,16,17,18,19,20,21,22,23,24,25,26,27] (fun j=>[(15,NT j),(14,NT 2),(13,LS (some 3) ([ra,rb].map (FX n)))]) (fun j=>[]) (0) ?_ ?_ ?_ fun j hj a w G=>?_|refine W.ag (x:=j) (j+1) ?_ ?_ ?_ ?_|clear hK K|clear hu|exact True.intro|exact Nat.le_trans (by clear hp;omega) hp|exact Nat.le_trans (by clear hp;omega) hp.1|exact Nat.le_trans (by clear hp;omega) hp.2|(clear hp;omega)|apply And.intro|refine GI.i fun _=>?_|with_reducible rfl|decide|(simp only [List.length_cons,List.length_nil];omega))
  all_goals first
    | omega
    | rfl
    | exact (sl_2 hc).symm
    | exact (sl_3 (by assumption) (all_not (show j < 2 by omega) (posR_t hc))).symm
    | exact all_snoc (show j < 2 by omega) hj.2 (posR_f hc)
    | exact (sl_0 (by assumption) (all_end (show ¬ j < 2 by omega) hj.2)).symm
    | skip
instance {n : Nat} {ra rb re : FR} {τ1 : MT} [j1 : NF τ1 (PTS [(some 3,FX n ra),(some 3,FX n rb),(some 3,FX n re)])] : Con Tryz.prog 13 [τ1] (20000 * n + 500000 ≤ BIG) (IT (slC ra rb re)):=.o1 fun hok h1 hp=>w13.c1 hok (j1.h h1) hp
theorem sl_cmp {a b e : FR} (h : slC a b e = 0) : cmpCode [a,FR.of (e.val * e.val)] [b] = 0:=cmpCode_iff.2 ⟨Nat.le_refl 2,Nat.le_succ 1,(sl_good h).1,(sl_good (a:=a) (e:=e) h).2⟩
theorem sl_ref {a b e : FR} (h : slC a b e = 0) : refRes [a,FR.of (e.val * e.val)] [b] = slN a b e:=by
  rw [← ref_eq]
  unfold cmpRes slN
  rw [if_pos (sl_cmp h)]
  simp only [List.map_cons,List.map_nil,FR.of_val]
theorem sl_fN {a b e : FR} (h : slC a b e = 0) : decide (refRes [a,FR.of (e.val * e.val)] [b] ≤ 0) = slF a b e:=by rw [sl_ref h,sl_f1 (by omega)]
theorem w16 {n : Nat} {ra rb re : FR} : Con Tryz.prog 16 [PTS [(some 3,FX n ra),(some 3,FX n rb),(some 3,FX n re)]] (20000 * n + 500000 ≤ BIG ∧ slC ra rb re = 0) (BT (slF ra rb re)):=.o1 fun hok h1 hp=>by
  refine St.enter (N:=22) Tryz.func16 rfl rfl rfl hok (enter1 h1) fun a=>?_
  have hn1:=sld_pos h1
  repeat' (first|((with_reducible refine gS_ ?_);first|((with_reducible refine gL_ ?_);first|refine W.run ?_ fun a w G=>?_|refine W.mv fun a w G=>?_|refine W.asg fun a w G=>?_|refine W.bx fun b a w G=>?_|(refine W.nn hK ?_;clear hK K)|refine W.nl ?_|refine W.al fun b a w G=>?_|refine W.st fun w=>?_|refine W.stp fun w=>?_|refine W.ste ?_ fun w=>?_)|((with_reducible refine gC_ ?_);first|refine W.reg fun K hK=>?_|refine W.reg1 ?_|refine W.sq fun K hK=>?_|refine W.ds ?_ (fun β a w G hu=>W.fin ?_ hu) mixedOrders (by kernel_rfl)|refine W.sk ?_|refine W.cd (fun hc=>?_) (fun hc=>?_)|refine W.cb (fun hc=>?_) (fun hc=>?_)|refine W.bl ?_|refine W.ex ?_|refine W.rt ?_)|((with_reducible refine W.kn hK ?_);clear hK K)|(with_reducible first|refine W.bn ?_|refine W.xt ?_|refine W.xb ?_|refine W.xo ?_|refine W.tr ?_|refine W.br ?_)|refine W.rt1 rfl ?_|refine W.rt2 rfl ?_ ?_|refine W.rt3 rfl ?_ ?_ ?_)|clear hK K|clear hu|exact True.intro|exact Nat.le_trans (by clear hp;omega) hp|exact Nat.le_trans (by clear hp;omega) hp.1|exact Nat.le_trans (by clear hp;omega) hp.2|(clear hp;omega)|apply And.intro|refine GI.i fun _=>?_|with_reducible rfl|decide|(simp only [List.length_cons,List.length_nil];omega))
  all_goals first
    | omega
    | exact sl_cmp hp.2
    | exact sl_fN hp.2
    | skip
instance {n : Nat} {ra rb re : FR} {τ1 : MT} [j1 : NF τ1 (PTS [(some 3,FX n ra),(some 3,FX n rb),(some 3,FX n re)])] : Con Tryz.prog 16 [τ1] (20000 * n + 500000 ≤ BIG ∧ slC ra rb re = 0) (BT (slF ra rb re)):=.o1 fun hok h1 hp=>w16.c1 hok (j1.h h1) hp
theorem w56 {n m : Nat} {ra rb re t : FR} {h : Bool} : Con Tryz.prog 56 [PTS [(some 3,FX n ra),(some 3,FX n rb),(some 3,FX n re)],TRN m t h] (20000 * n + 20000 * m + 500000 ≤ BIG) (MT.tup2 (QC (4 * n + 20 * m + 900) (slX ra rb re h t.val)) (QC (2 * n + 10 * m + 400) (slY re h t.val))):=.o2 fun hok h1 h2 hp=>by
  refine St.enter (N:=38) Tryz.func56 rfl rfl rfl hok (enter2 h1 h2) fun a=>?_
  repeat' (first|((with_reducible refine gS_ ?_);first|((with_reducible refine gL_ ?_);first|refine W.run ?_ fun a w G=>?_|refine W.mv fun a w G=>?_|refine W.asg fun a w G=>?_|refine W.bx fun b a w G=>?_|(refine W.nn hK ?_;clear hK K)|refine W.nl ?_|refine W.al fun b a w G=>?_|refine W.st fun w=>?_|refine W.stp fun w=>?_|refine W.ste ?_ fun w=>?_)|((with_reducible refine gC_ ?_);first|refine W.reg fun K hK=>?_|refine W.reg1 ?_|refine W.sq fun K hK=>?_|refine W.ds ?_ (fun β a w G hu=>W.fin ?_ hu) mixedOrders (by kernel_rfl)|refine W.sk ?_|refine W.cd (fun hc=>?_) (fun hc=>?_)|refine W.cb (fun hc=>?_) (fun hc=>?_)|refine W.bl ?_|refine W.ex ?_|refine W.rt ?_)|((with_reducible refine W.kn hK ?_);clear hK K)|(with_reducible first|refine W.bn ?_|refine W.xt ?_|refine W.xb ?_|refine W.xo ?_|refine W.tr ?_|refine W.br ?_)|refine W.rt1 rfl ?_|refine W.rt2 rfl ?_ ?_|refine W.rt3 rfl ?_ ?_ ?_)|clear hK K|clear hu|exact True.intro|exact Nat.le_trans (by clear hp;omega) hp|exact Nat.le_trans (by clear hp;omega) hp.1|exact Nat.le_trans (by clear hp;omega) hp.2|(clear hp;omega)|apply And.intro|refine GI.i fun _=>?_|with_reducible rfl|decide|(simp only [List.length_cons,List.length_nil];omega))
  all_goals first | omega | rfl | skip
instance {n m : Nat} {ra rb re t : FR} {h : Bool} {τ1 : MT} [j1 : NF τ1 (PTS [(some 3,FX n ra),(some 3,FX n rb),(some 3,FX n re)])] {τ2 : MT} [j2 : NF τ2 (TRN m t h)] : Con Tryz.prog 56 [τ1,τ2] (20000 * n + 20000 * m + 500000 ≤ BIG) (MT.tup2 (QC (4 * n + 20 * m + 900) (slX ra rb re h t.val)) (QC (2 * n + 10 * m + 400) (slY re h t.val))):=.o2 fun hok h1 h2 hp=>w56.c2 hok (j1.h h1) (j2.h h2) hp
theorem FX.qc0 {n : Nat} {z : Rat} {v : Value} {G : Gh} (h : (FX n (FR.of z)).t v G) : (QC n z).t v G:=by
  obtain ⟨h1,h2,h5,hq⟩:=h
  refine ⟨⟨by have : Go.Proofs.YtnjbcjmkkejfpaaGreat.val (words z.num.natAbs) < 2 ^ n := h2
              rwa [val_words] at this,?_⟩,hq⟩
  have hq : Go.Proofs.YtnjbcjmkkejfpaaGreat.val (dwords z) < 2 ^ n:=h5
  unfold dwords at hq
  split at hq
  · rename_i e0
    have : z.den = 1:=by
      have h0 : z = 0:=by first | exact e0 | exact Rat.num_eq_zero.1 e0
      rw [h0];rfl
    rw [this];exact Nat.lt_of_lt_of_le (show (1 : Nat) < 2 ^ 1 by decide) (Nat.pow_le_pow_right (by decide) h1)
  · rwa [val_words] at hq
instance {n m : Nat} {z : Rat} : Fit (FX n (FR.of z)) (QC m) z (n ≤ m):=⟨fun e _ _ h=>QC.up (FX.qc0 h) e⟩
instance {n : Nat} {z : Rat} : Rdn (FX n (FR.of z)) QC n z:=⟨fun h=>FX.qc0 h⟩
theorem sld_self {n : Nat} {a b e : FR} {v : Value} {G : Gh} (h : (PTS [(some 3,FX n a),(some 3,FX n b),(some 3,FX n e)]).t v G) : (a.ok = true → ∃ x,a = FR.of x) ∧ (b.ok = true → ∃ x,b = FR.of x) ∧ (e.ok = true → ∃ x,e = FR.of x):=by
  obtain ⟨us,_,hl,hE⟩:=h
  match us,hl with
  | [u1,u2,u3],_=>exact ⟨fun hk=>⟨_,(fr_self (QR.wf (FX.qr (hE 0 _ u1 rfl rfl).2)) hk).symm⟩,fun hk=>⟨_,(fr_self (QR.wf (FX.qr (hE 1 _ u2 rfl rfl).2)) hk).symm⟩,fun hk=>⟨_,(fr_self (QR.wf (FX.qr (hE 2 _ u3 rfl rfl).2)) hk).symm⟩⟩
theorem sl_oks {a b e : FR} (h : slC a b e = 0) : a.ok = true ∧ b.ok = true ∧ e.ok = true:=by
  have:=sl_ok h
  simp only [List.all_cons,List.all_nil,Bool.and_true,Bool.and_eq_true,posR] at this
  exact ⟨this.2.1.1,this.2.2.1,this.1⟩
theorem w19 {n m : Nat} {ra rb re t : FR} {h : Bool} : Con Tryz.prog 19 [PTS [(some 3,FX n ra),(some 3,FX n rb),(some 3,FX n re)],TRN m t h] (20000 * n + 20000 * m + 500000 ≤ BIG ∧ slC ra rb re = 0 ∧ trnF h t = true) (MT.tup3 (TWR (60 * n + 60 * m + 2000) (slR ra rb re h t)) (RTS (60 * n + 60 * m + 2000) (slL ra rb re h t)) (IT (slE ra rb re h t))):=.o2 fun hok h1 h2 hp=>by
  obtain ⟨x0,rfl⟩:=(sld_self h1).1 (sl_oks hp.2.1).1
  have ev:=FR.of_val (x:=x0)
  refine St.enter (N:=64) Tryz.func19 rfl rfl rfl hok (enter2 h1 h2) fun a=>?_
  have hn1:=sld_pos h1
  have e0 : ∀ x : Rat,x + (default : FR).val = x:=fun x=>by rw [zv0'];grind
  have es : surdF (slX (FR.of x0) rb re h t.val) (slY re h t.val) (FR.of x0).val = slS (FR.of x0) rb re h t.val:=by unfold slS;rfl
  repeat' (first|((with_reducible refine gS_ ?_);first|((with_reducible refine gL_ ?_);first|refine W.run ?_ fun a w G=>?_|refine W.mv fun a w G=>?_|refine W.asg fun a w G=>?_|refine W.bx fun b a w G=>?_|(refine W.nn hK ?_;clear hK K)|refine W.nl ?_|refine W.al fun b a w G=>?_|refine W.st fun w=>?_|refine W.stp fun w=>?_|refine W.ste ?_ fun w=>?_)|((with_reducible refine gC_ ?_);first|refine W.reg fun K hK=>?_|refine W.reg1 ?_|refine W.sq fun K hK=>?_|refine W.ds ?_ (fun β a w G hu=>W.fin ?_ hu) mixedOrders (by kernel_rfl)|refine W.sk ?_|refine W.cd (fun hc=>?_) (fun hc=>?_)|refine W.cb (fun hc=>?_) (fun hc=>?_)|refine W.bl ?_|refine W.ex ?_|refine W.rt ?_)|((with_reducible refine W.kn hK ?_);clear hK K)|(with_reducible first|refine W.bn ?_|refine W.xt ?_|refine W.xb ?_|refine W.xo ?_|refine W.tr ?_|refine W.br ?_)|refine W.rt1 rfl ?_|refine W.rt2 rfl ?_ ?_|refine W.rt3 rfl ?_ ?_ ?_)|clear hK K|clear hu|exact True.intro|exact Nat.le_trans (by clear hp;omega) hp|exact Nat.le_trans (by clear hp;omega) hp.1|exact Nat.le_trans (by clear hp;omega) hp.2|(clear hp;omega)|apply And.intro|refine GI.i fun _=>?_|with_reducible rfl|decide|(simp only [List.length_cons,List.length_nil];omega))
  all_goals (try simp only [es,e0] at *)
  all_goals first
    | omega
    | (simp only [LIM,List.length_cons,List.length_nil];omega)
    | (have h16 := sle_16 (fun k => k hp.2.1) hp.2.2 (by assumption)
       first
       | exact h16
       | exact h16.symm
       | exact (sle_n (by rw [h16];decide)).1.symm
       | exact (sle_n (by rw [h16];decide)).2
       | exact (sle_n (by rw [h16];decide)).2.symm)
    | (have hz := sle_0 (fun k => k hp.2.1) hp.2.2 (by assumption)
       first
       | exact hz
       | exact hz.symm
       | (rw [(sle_s hz (by assumption)).1,ev];done)
       | exact (sle_s hz (by assumption)).2
       | exact (sle_s hz (by assumption)).2.symm
       | (rw [(sle_t hz (by assumption)).1,ev];done)
       | exact (sle_t hz (by assumption)).2
       | exact (sle_t hz (by assumption)).2.symm
       | skip)
    | skip
instance {n m : Nat} {ra rb re t : FR} {h : Bool} {τ1 : MT} [j1 : NF τ1 (PTS [(some 3,FX n ra),(some 3,FX n rb),(some 3,FX n re)])] {τ2 : MT} [j2 : NF τ2 (TRN m t h)] : Con Tryz.prog 19 [τ1,τ2] (20000 * n + 20000 * m + 500000 ≤ BIG ∧ slC ra rb re = 0 ∧ trnF h t = true) (MT.tup3 (TWR (60 * n + 60 * m + 2000) (slR ra rb re h t)) (RTS (60 * n + 60 * m + 2000) (slL ra rb re h t)) (IT (slE ra rb re h t))):=.o2 fun hok h1 h2 hp=>w19.c2 hok (j1.h h1) (j2.h h2) hp
theorem w30 {n : Nat} {ra rb re : FR} : Con Tryz.prog 30 [PTS [(some 3,FX n ra),(some 3,FX n rb),(some 3,FX n re)]] (20000 * n + 500000 ≤ BIG) (MT.tup3 (TWR (10 * n + 200) (slT ra rb re)) (NM 64 inL) (NM 64 ouL8)):=.o1 fun hok h1 hp=>by
  refine St.enter (N:=51) Tryz.func30 rfl rfl rfl hok (enter1 h1) fun a=>?_
  have hn1:=sld_pos h1
  repeat' (first|refine W.drp 3 (.ex (.slice none 0 0)) ?_|refine W.drp 4 (.ex (.slice none 0 0)) ?_|((with_reducible refine gS_ ?_);first|((with_reducible refine gL_ ?_);first|refine W.run ?_ fun a w G=>?_|refine W.mv fun a w G=>?_|refine W.asg fun a w G=>?_|refine W.bx fun b a w G=>?_|(refine W.nn hK ?_;clear hK K)|refine W.nl ?_|refine W.al fun b a w G=>?_|refine W.st fun w=>?_|refine W.stp fun w=>?_|refine W.ste ?_ fun w=>?_)|((with_reducible refine gC_ ?_);first|refine W.reg fun K hK=>?_|refine W.reg1 ?_|refine W.sq fun K hK=>?_|refine W.ds ?_ (fun β a w G hu=>W.fin ?_ hu) mixedOrders (by kernel_rfl)|refine W.sk ?_|refine W.cd (fun hc=>?_) (fun hc=>?_)|refine W.cb (fun hc=>?_) (fun hc=>?_)|refine W.bl ?_|refine W.ex ?_|refine W.rt ?_)|((with_reducible refine W.kn hK ?_);clear hK K)|(with_reducible first|refine W.bn ?_|refine W.xt ?_|refine W.xb ?_|refine W.xo ?_|refine W.tr ?_|refine W.br ?_)|refine W.rt1 rfl ?_|refine W.rt2 rfl ?_ ?_|refine W.rt3 rfl ?_ ?_ ?_)|clear hK K|clear hu|exact True.intro|exact Nat.le_trans (by clear hp;omega) hp|exact Nat.le_trans (by clear hp;omega) hp.1|exact Nat.le_trans (by clear hp;omega) hp.2|(clear hp;omega)|apply And.intro|refine GI.i fun _=>?_|with_reducible rfl|decide|(simp only [List.length_cons,List.length_nil];omega))
  all_goals first | omega | (simp only [slT,slQ,zv0'];done) | rfl | skip
instance {n : Nat} {ra rb re : FR} {τ1 : MT} [j1 : NF τ1 (PTS [(some 3,FX n ra),(some 3,FX n rb),(some 3,FX n re)])] : Con Tryz.prog 30 [τ1] (20000 * n + 500000 ≤ BIG) (MT.tup3 (TWR (10 * n + 200) (slT ra rb re)) (NM 64 inL) (NM 64 ouL8)):=.o1 fun hok h1 hp=>w30.c1 hok (j1.h h1) hp
instance  : Con Tryz.prog 31 [] (True) (NM 64 stL):=.o0 fun hok  hp=>by
  refine St.enter (N:=12) Tryz.func31 rfl rfl rfl hok enter0 fun a=>?_
  repeat' (first|((with_reducible refine gS_ ?_);first|((with_reducible refine gL_ ?_);first|refine W.run ?_ fun a w G=>?_|refine W.mv fun a w G=>?_|refine W.asg fun a w G=>?_|refine W.bx fun b a w G=>?_|(refine W.nn hK ?_;clear hK K)|refine W.nl ?_|refine W.al fun b a w G=>?_|refine W.st fun w=>?_|refine W.stp fun w=>?_|refine W.ste ?_ fun w=>?_)|((with_reducible refine gC_ ?_);first|refine W.reg fun K hK=>?_|refine W.reg1 ?_|refine W.sq fun K hK=>?_|refine W.ds ?_ (fun β a w G hu=>W.fin ?_ hu) mixedOrders (by kernel_rfl)|refine W.sk ?_|refine W.cd (fun hc=>?_) (fun hc=>?_)|refine W.cb (fun hc=>?_) (fun hc=>?_)|refine W.bl ?_|refine W.ex ?_|refine W.rt ?_)|((with_reducible refine W.kn hK ?_);clear hK K)|(with_reducible first|refine W.bn ?_|refine W.xt ?_|refine W.xb ?_|refine W.xo ?_|refine W.tr ?_|refine W.br ?_)|refine W.rt1 rfl ?_|refine W.rt2 rfl ?_ ?_|refine W.rt3 rfl ?_ ?_ ?_)|clear hK K|clear hu|exact True.intro|exact Nat.le_trans (by clear hp;omega) hp|exact Nat.le_trans (by clear hp;omega) hp.1|exact Nat.le_trans (by clear hp;omega) hp.2|(clear hp;omega)|apply And.intro|refine GI.i fun _=>?_|with_reducible rfl|decide|(simp only [List.length_cons,List.length_nil];omega))
  all_goals first | omega | rfl | decide | skip
theorem w27 {k : Nat} {rx ry : FR} : Con Tryz.prog 27 [PTS [(some 3,FX k rx),(some 3,FX k ry)]] (k ≤ BIG) (BT (rx.ok && ry.ok)):=.o1 fun hok h1 hp=>by
  refine St.enter (N:=11) Tryz.func27 rfl rfl rfl hok (enter1 h1) fun a=>?_
  repeat' (first|((with_reducible refine gS_ ?_);first|((with_reducible refine gL_ ?_);first|refine W.run ?_ fun a w G=>?_|refine W.mv fun a w G=>?_|refine W.asg fun a w G=>?_|refine W.bx fun b a w G=>?_|(refine W.nn hK ?_;clear hK K)|refine W.nl ?_|refine W.al fun b a w G=>?_|refine W.st fun w=>?_|refine W.stp fun w=>?_|refine W.ste ?_ fun w=>?_)|((with_reducible refine gC_ ?_);first|refine W.reg fun K hK=>?_|refine W.reg1 ?_|refine W.sq fun K hK=>?_|refine W.ds ?_ (fun β a w G hu=>W.fin ?_ hu) mixedOrders (by kernel_rfl)|refine W.sk ?_|refine W.cd (fun hc=>?_) (fun hc=>?_)|refine W.cb (fun hc=>?_) (fun hc=>?_)|refine W.bl ?_|refine W.ex ?_|refine W.rt ?_)|((with_reducible refine W.kn hK ?_);clear hK K)|(with_reducible first|refine W.bn ?_|refine W.xt ?_|refine W.xb ?_|refine W.xo ?_|refine W.tr ?_|refine W.br ?_)|refine W.rt1 rfl ?_|refine W.rt2 rfl ?_ ?_|refine W.rt3 rfl ?_ ?_ ?_)|clear hK K|clear hu|exact True.intro|exact Nat.le_trans (by clear hp;omega) hp|exact Nat.le_trans (by clear hp;omega) hp.1|exact Nat.le_trans (by clear hp;omega) hp.2|(clear hp;omega)|apply And.intro|refine GI.i fun _=>?_|with_reducible rfl|decide|(simp only [List.length_cons,List.length_nil];omega))
  all_goals first | omega | rfl | skip
instance {k : Nat} {rx ry : FR} {τ1 : MT} [j1 : NF τ1 (PTS [(some 3,FX k rx),(some 3,FX k ry)])] : Con Tryz.prog 27 [τ1] (k ≤ BIG) (BT (rx.ok && ry.ok)):=.o1 fun hok h1 hp=>w27.c1 hok (j1.h h1) hp
def plR (x : FR × FR) : MT:=PTS [(some 3,RX x.1),(some 3,RX x.2)]
instance {x : FR × FR} : Shp (plR x) (some 6):=⟨fun h=>PTS.shaped rfl h⟩
instance (priority:=800) Prt.plr {x : FR × FR} {i : Nat} {kt : Option Nat} {τ : MT} [h : PrtL [(some 3,RX x.1),(some 3,RX x.2)] i kt τ] : Prt (plR x) i kt τ:=(inferInstance : Prt (PTS [(some 3,RX x.1),(some 3,RX x.2)]) i kt τ)
instance {r s : FR} : AsT (PTS [(some 3,RX r),(some 3,RX s)]) plR (r,s):=⟨fun h=>h⟩
instance {n : Nat} {r s : FR} : AsT (PTS [(some 3,FX n r),(some 3,FX n s)]) plR (r,s):=⟨fun h=>NR.h h⟩
instance NR.plr {τs : List MT} {xs : List (FR × FR)} [h : AsTL τs plR xs] : NR (LSC (some 6) τs) (LS (some 6) (xs.map plR)):=⟨fun hv=>h.ls hv.1⟩
def shP (x : FR × FR) : Bool:=[x.1,x.2].all shortR
theorem shR_t9 {r : FR} (h : (decide (((r.p.length : Nat) : Int) > 2) || decide (((r.q.length : Nat) : Int) > 2)) = true) : shortR r = false:=by
  simp only [Bool.or_eq_true,decide_eq_true_eq] at h
  exact shortR_not (by omega)
theorem w23 {l : List (FR × FR)} : Con Tryz.prog 23 [LS (some 6) (l.map plR)] (True) (BT (l.all shP)):=.o1 fun hok h1 hp=>by
  refine St.enter (N:=35) Tryz.func23 rfl rfl rfl hok (enter1 h1) fun a=>?_
  have hlim:=LS.lenM h1
  simp only [LIM] at hlim
  repeat' (first|((with_reducible refine gS_ ?_);first|((with_reducible refine gL_ ?_);first|refine W.run ?_ fun a w G=>?_|refine W.mv fun a w G=>?_|refine W.asg fun a w G=>?_|refine W.bx fun b a w G=>?_|(refine W.nn hK ?_;clear hK K)|refine W.nl ?_|refine W.al fun b a w G=>?_|refine W.st fun w=>?_|refine W.stp fun w=>?_|refine W.ste ?_ fun w=>?_)|((with_reducible refine gC_ ?_);first|refine W.reg fun K hK=>?_|refine W.reg1 ?_|refine W.sq fun K hK=>?_|refine W.ds ?_ (fun β a w G hu=>W.fin ?_ hu) mixedOrders (by kernel_rfl)|refine W.sk ?_|refine W.cd (fun hc=>?_) (fun hc=>?_)|refine W.cb (fun hc=>?_) (fun hc=>?_)|refine W.bl ?_|refine W.ex ?_|refine W.rt ?_)|((with_reducible refine W.kn hK ?_);clear hK K)|(with_reducible first|refine W.bn ?_|refine W.xt ?_|refine W.xb ?_|refine W.xo ?_|refine W.tr ?_|refine W.br ?_)|refine W.rt1 rfl ?_|refine W.rt2 rfl ?_ ?_|refine W.rt3 rfl ?_ ?_ ?_)|refine W.lp 10 (α:=Nat) (fun i=>l.length - i) (fun i=>i ≤ l.length ∧ (l.take i).all shP = true) [2,4,6,9,10,11,12,13,14,15,16,17,18,19,20,21,22,23,24,25,26,27,28,29,30,31,32,33,34] (fun i=>[(9,NT i)]) (fun i=>[]) (0) ?_ ?_ ?_ fun i hi a w G=>?_|refine W.ag (x:=i) (i+1) ?_ ?_ ?_ ?_|refine W.lp 20 (α:=Nat) (fun j=>2 - j) (fun j=>j ≤ 2 ∧ ([(l.getD i default).1,(l.getD i default).2].take j).all shortR = true) [2,6,17,18,19,20,21,22,23,24,25,26,27,28,29,30,31,32,33] (fun j=>[(19,NT j),(18,NT 2),(17,LS (some 3) ([(l.getD i default).1,(l.getD i default).2].map RX))]) (fun j=>[]) (0) ?_ ?_ ?_ fun j hj a w G=>?_|refine W.ag (x:=j) (j+1) ?_ ?_ ?_ ?_|clear hK K|clear hu|exact True.intro|exact Nat.le_trans (by clear hp;omega) hp|exact Nat.le_trans (by clear hp;omega) hp.1|exact Nat.le_trans (by clear hp;omega) hp.2|(clear hp;omega)|apply And.intro|refine GI.i fun _=>?_|with_reducible rfl|decide|(simp only [List.length_cons,List.length_nil];omega))
  all_goals first
    | omega
    | rfl
    | exact (all_not (p:=shP) (show i < l.length by omega) (all_not (show j < 2 by omega) (shR_t9 hc))).symm
    | exact all_snoc (show j < 2 by omega) hj.2 (shR_f hc)
    | exact all_snoc (p:=shP) (by omega) hi.2 (all_end (show ¬ j < 2 by omega) hj.2)
    | exact (all_end (by omega) hi.2).symm
    | skip
instance {l : List (FR × FR)} {τ1 : MT} [j1 : NR τ1 (LS (some 6) (l.map plR))] : Con Tryz.prog 23 [τ1] (True) (BT (l.all shP)):=.o1 fun hok h1 hp=>w23.c1 hok (j1.h h1) hp
end Go.Proofs.YtnjbcjmkkejfpaaGreat
set_option linter.unusedVariables false
set_option linter.unusedSimpArgs false
set_option maxHeartbeats 4000000
set_option maxRecDepth 100000
set_option synthInstance.maxSize 100000
set_option synthInstance.maxHeartbeats 400000
namespace Go.Proofs.YtnjbcjmkkejfpaaGreat
open Go.RowKit (Below)
attribute [local irreducible] Go.Code.wp Go.wpList Go.bodyPost
attribute [local irreducible] slF slEC slC
theorem slec_e {a b e : FR} (h : slEC a b e ≠ 0) {l : List Rat} : slEL a b e l = []:=if_neg h
theorem w25 {n : Nat} {ra rb re : FR} : Con Tryz.prog 25 [PTS [(some 3,FX n ra),(some 3,FX n rb),(some 3,FX n re)]] (20000 * n + 500000 ≤ BIG) (MT.tup3 (TWR (10 * n + 200) (slET ra rb re)) (NM 64 (slEL ra rb re stL)) (.ex (errV 46 (slEC ra rb re)))):=.o1 fun hok h1 hp=>by
  refine St.enter (N:=24) Tryz.func25 rfl rfl rfl hok (enter1 h1) fun a=>?_
  repeat' (first|with_reducible refine X.fz 21 [(2,-1),(4,1)] (X.mpe2 (by decide)) fun G=>?_|with_reducible refine X.fz 21 [(2,-1),(4,1)] (X.mpe2' (by decide)) fun G=>?_|((with_reducible refine gS_ ?_);first|((with_reducible refine gL_ ?_);first|refine W.run ?_ fun a w G=>?_|refine W.mv fun a w G=>?_|refine W.asg fun a w G=>?_|refine W.bx fun b a w G=>?_|(refine W.nn hK ?_;clear hK K)|refine W.nl ?_|refine W.al fun b a w G=>?_|refine W.st fun w=>?_|refine W.stp fun w=>?_|refine W.ste ?_ fun w=>?_)|((with_reducible refine gC_ ?_);first|refine W.anyS mixedOrders 9 rfl fun w=>?_|refine W.reg fun K hK=>?_|refine W.reg1 ?_|refine W.sq fun K hK=>?_|refine W.ds ?_ (fun β a w G hu=>W.fin ?_ hu) mixedOrders (by kernel_rfl)|refine W.sk ?_|refine W.cd (fun hc=>?_) (fun hc=>?_)|refine W.cb (fun hc=>?_) (fun hc=>?_)|refine W.bl ?_|refine W.ex ?_|refine W.rt ?_)|((with_reducible refine W.kn hK ?_);clear hK K)|(with_reducible first|refine W.bn ?_|refine W.xt ?_|refine W.xb ?_|refine W.xo ?_|refine W.tr ?_|refine W.br ?_)|refine W.rt1 rfl ?_|refine W.rt2 rfl ?_ ?_|refine W.rt3 rfl ?_ ?_ ?_)|refine X.mk fun r a w G=>?_|refine X.ins ?_ fun w=>?_|refine X.op ?_ fun a w G=>?_|with_reducible refine W.any2 [] 0 1 (by kernel_rfl) ?_ ?_|with_reducible refine W.any1 [0] 1 (by kernel_rfl) ?_|with_reducible refine W.any2 [1,0] 2 3 (by kernel_rfl) ?_ ?_|with_reducible refine W.any1 [2,1,0] 3 (by kernel_rfl) ?_|with_reducible refine W.any1 [3,2,1,0] 4 (by kernel_rfl) ?_|with_reducible refine W.any1 [4,3,2,1,0] 5 (by kernel_rfl) ?_|with_reducible refine W.any1 [5,4,3,2,1,0] 6 (by kernel_rfl) ?_|with_reducible refine W.any1 [6,5,4,3,2,1,0] 7 (by kernel_rfl) ?_|with_reducible refine W.any1 [7,6,5,4,3,2,1,0] 8 (by kernel_rfl) ?_|with_reducible refine W.anyE [8,7,6,5,4,3,2,1,0] (by kernel_rfl) ?_|with_reducible refine W.any1 [3,1,0] 2 (by kernel_rfl) ?_|with_reducible refine W.any1 [2,3,1,0] 4 (by kernel_rfl) ?_|with_reducible refine W.any1 [4,2,3,1,0] 5 (by kernel_rfl) ?_|with_reducible refine W.any1 [5,4,2,3,1,0] 6 (by kernel_rfl) ?_|with_reducible refine W.any1 [6,5,4,2,3,1,0] 7 (by kernel_rfl) ?_|with_reducible refine W.any1 [7,6,5,4,2,3,1,0] 8 (by kernel_rfl) ?_|with_reducible refine W.anyE [8,7,6,5,4,2,3,1,0] (by kernel_rfl) ?_|with_reducible refine W.any3 [1] 0 2 3 (by kernel_rfl) ?_ ?_ ?_|with_reducible refine W.any2 [0,1] 2 3 (by kernel_rfl) ?_ ?_|with_reducible refine W.any1 [2,0,1] 3 (by kernel_rfl) ?_|with_reducible refine W.any1 [3,2,0,1] 4 (by kernel_rfl) ?_|with_reducible refine W.any1 [4,3,2,0,1] 5 (by kernel_rfl) ?_|with_reducible refine W.any1 [5,4,3,2,0,1] 6 (by kernel_rfl) ?_|with_reducible refine W.any1 [6,5,4,3,2,0,1] 7 (by kernel_rfl) ?_|with_reducible refine W.any1 [7,6,5,4,3,2,0,1] 8 (by kernel_rfl) ?_|with_reducible refine W.anyE [8,7,6,5,4,3,2,0,1] (by kernel_rfl) ?_|with_reducible refine W.any1 [3,0,1] 2 (by kernel_rfl) ?_|with_reducible refine W.any1 [2,3,0,1] 4 (by kernel_rfl) ?_|with_reducible refine W.any1 [4,2,3,0,1] 5 (by kernel_rfl) ?_|with_reducible refine W.any1 [5,4,2,3,0,1] 6 (by kernel_rfl) ?_|with_reducible refine W.any1 [6,5,4,2,3,0,1] 7 (by kernel_rfl) ?_|with_reducible refine W.any1 [7,6,5,4,2,3,0,1] 8 (by kernel_rfl) ?_|with_reducible refine W.anyE [8,7,6,5,4,2,3,0,1] (by kernel_rfl) ?_|with_reducible refine W.any2 [2,1] 0 3 (by kernel_rfl) ?_ ?_|with_reducible refine W.any1 [0,2,1] 3 (by kernel_rfl) ?_|with_reducible refine W.any1 [3,0,2,1] 4 (by kernel_rfl) ?_|with_reducible refine W.any1 [4,3,0,2,1] 5 (by kernel_rfl) ?_|with_reducible refine W.any1 [5,4,3,0,2,1] 6 (by kernel_rfl) ?_|with_reducible refine W.any1 [6,5,4,3,0,2,1] 7 (by kernel_rfl) ?_|with_reducible refine W.any1 [7,6,5,4,3,0,2,1] 8 (by kernel_rfl) ?_|with_reducible refine W.anyE [8,7,6,5,4,3,0,2,1] (by kernel_rfl) ?_|with_reducible refine W.any2 [3,2,1] 0 4 (by kernel_rfl) ?_ ?_|with_reducible refine W.any1 [0,3,2,1] 4 (by kernel_rfl) ?_|with_reducible refine W.any1 [4,0,3,2,1] 5 (by kernel_rfl) ?_|with_reducible refine W.any1 [5,4,0,3,2,1] 6 (by kernel_rfl) ?_|with_reducible refine W.any1 [6,5,4,0,3,2,1] 7 (by kernel_rfl) ?_|with_reducible refine W.any1 [7,6,5,4,0,3,2,1] 8 (by kernel_rfl) ?_|with_reducible refine W.anyE [8,7,6,5,4,0,3,2,1] (by kernel_rfl) ?_|with_reducible refine W.any2 [4,3,2,1] 0 5 (by kernel_rfl) ?_ ?_|with_reducible refine W.any1 [0,4,3,2,1] 5 (by kernel_rfl) ?_|with_reducible refine W.any1 [5,0,4,3,2,1] 6 (by kernel_rfl) ?_|with_reducible refine W.any1 [6,5,0,4,3,2,1] 7 (by kernel_rfl) ?_|with_reducible refine W.any1 [7,6,5,0,4,3,2,1] 8 (by kernel_rfl) ?_|with_reducible refine W.anyE [8,7,6,5,0,4,3,2,1] (by kernel_rfl) ?_|with_reducible refine W.any1 [5,4,3,2,1] 0 (by kernel_rfl) ?_|with_reducible refine W.any1 [0,5,4,3,2,1] 6 (by kernel_rfl) ?_|with_reducible refine W.any1 [6,0,5,4,3,2,1] 7 (by kernel_rfl) ?_|with_reducible refine W.any1 [7,6,0,5,4,3,2,1] 8 (by kernel_rfl) ?_|with_reducible refine W.anyE [8,7,6,0,5,4,3,2,1] (by kernel_rfl) ?_|with_reducible refine W.any2 [3,1] 0 2 (by kernel_rfl) ?_ ?_|with_reducible refine W.any1 [0,3,1] 2 (by kernel_rfl) ?_|with_reducible refine W.any1 [2,0,3,1] 4 (by kernel_rfl) ?_|with_reducible refine W.any1 [4,2,0,3,1] 5 (by kernel_rfl) ?_|with_reducible refine W.any1 [5,4,2,0,3,1] 6 (by kernel_rfl) ?_|with_reducible refine W.any1 [6,5,4,2,0,3,1] 7 (by kernel_rfl) ?_|with_reducible refine W.any1 [7,6,5,4,2,0,3,1] 8 (by kernel_rfl) ?_|with_reducible refine W.anyE [8,7,6,5,4,2,0,3,1] (by kernel_rfl) ?_|with_reducible refine W.any2 [2,3,1] 0 4 (by kernel_rfl) ?_ ?_|with_reducible refine W.any1 [0,2,3,1] 4 (by kernel_rfl) ?_|with_reducible refine W.any1 [4,0,2,3,1] 5 (by kernel_rfl) ?_|with_reducible refine W.any1 [5,4,0,2,3,1] 6 (by kernel_rfl) ?_|with_reducible refine W.any1 [6,5,4,0,2,3,1] 7 (by kernel_rfl) ?_|with_reducible refine W.any1 [7,6,5,4,0,2,3,1] 8 (by kernel_rfl) ?_|with_reducible refine W.anyE [8,7,6,5,4,0,2,3,1] (by kernel_rfl) ?_|with_reducible refine W.any2 [4,2,3,1] 0 5 (by kernel_rfl) ?_ ?_|with_reducible refine W.any1 [0,4,2,3,1] 5 (by kernel_rfl) ?_|with_reducible refine W.any1 [5,0,4,2,3,1] 6 (by kernel_rfl) ?_|with_reducible refine W.any1 [6,5,0,4,2,3,1] 7 (by kernel_rfl) ?_|with_reducible refine W.any1 [7,6,5,0,4,2,3,1] 8 (by kernel_rfl) ?_|with_reducible refine W.anyE [8,7,6,5,0,4,2,3,1] (by kernel_rfl) ?_|with_reducible refine W.any1 [5,4,2,3,1] 0 (by kernel_rfl) ?_|with_reducible refine W.any1 [0,5,4,2,3,1] 6 (by kernel_rfl) ?_|with_reducible refine W.any1 [6,0,5,4,2,3,1] 7 (by kernel_rfl) ?_|with_reducible refine W.any1 [7,6,0,5,4,2,3,1] 8 (by kernel_rfl) ?_|with_reducible refine W.anyE [8,7,6,0,5,4,2,3,1] (by kernel_rfl) ?_|refine W.anyO rfl rfl ?_|with_reducible refine W.anyN ?_|refine W.nl ?_|clear hK K|clear hu|exact True.intro|exact Nat.le_trans (by clear hp;omega) hp|exact Nat.le_trans (by clear hp;omega) hp.1|exact Nat.le_trans (by clear hp;omega) hp.2|(clear hp;omega)|apply And.intro|refine GI.i fun _=>?_|with_reducible rfl|decide|(simp only [List.length_cons,List.length_nil];omega))
  all_goals first
    | omega
    | (intro p hp;simp only [List.mem_cons,List.not_mem_nil,or_false] at hp;first | (subst hp;decide) | (rcases hp with hp | hp <;> subst hp <;> decide))
    | decide
    | (simp;done)
    | exact (slec_n (l:=[]) (by assumption)).1
    | exact (slec_n (l:=[]) (by assumption)).1.symm
    | exact slec_e (by assumption)
    | exact (slec_e (by assumption)).symm
    | (have hx : slEC ra rb re = 0 := Classical.not_not.1 (by assumption)
       first
       | exact hx
       | exact hx.symm
       | (rw [(slec_y hx).2];exact un_st)
       | skip)
    | skip
instance {n : Nat} {ra rb re : FR} {τ1 : MT} [j1 : NF τ1 (PTS [(some 3,FX n ra),(some 3,FX n rb),(some 3,FX n re)])] : Con Tryz.prog 25 [τ1] (20000 * n + 500000 ≤ BIG) (MT.tup3 (TWR (10 * n + 200) (slET ra rb re)) (NM 64 (slEL ra rb re stL)) (.ex (errV 46 (slEC ra rb re)))):=.o1 fun hok h1 hp=>w25.c1 hok (j1.h h1) hp
def slH (a b e x y z : FR) : Bool:=decide (cmpQ (x.val * x.val + y.val * y.val) a.val = 0) && decide (cmpQ ((x.val - z.val) * (x.val - z.val) + (y.val - e.val) * (y.val - e.val)) b.val = 0)
def slHC (a b e x y z : FR) : Int:=if slC a b e = 0 then (if x.ok && y.ok && z.ok then 0 else 2) else slC a b e
section
variable {a b e x y z : FR}
theorem slh_c (h : slC a b e ≠ 0) : slHC a b e x y z = slC a b e:=if_neg h
theorem slh_2 (h : ¬ slC a b e ≠ 0) (h2 : (!x.ok || !y.ok || !z.ok) = true) : slHC a b e x y z = 2:=by
  unfold slHC;rw [if_pos (by omega),if_neg];cases hx : x.ok <;> cases hy : y.ok <;> cases hz : z.ok <;> simp_all
theorem slh_0 (h : ¬ slC a b e ≠ 0) (h2 : (!x.ok || !y.ok || !z.ok) = false) : slHC a b e x y z = 0:=by
  unfold slHC;rw [if_pos (by omega),if_pos];cases hx : x.ok <;> cases hy : y.ok <;> cases hz : z.ok <;> simp_all
end
theorem w26 {n k l : Nat} {ra rb re rx ry rz : FR} : Con Tryz.prog 26 [PTS [(some 3,FX n ra),(some 3,FX n rb),(some 3,FX n re)],PTS [(some 3,FX k rx),(some 3,FX k ry)],FX l rz] (20000 * n + 20000 * k + 20000 * l + 500000 ≤ BIG) (MT.tup2 (BT (decide (slHC ra rb re rx ry rz = 0) && slH ra rb re rx ry rz)) (.ex (errV 46 (slHC ra rb re rx ry rz)))):=.o3 fun hok h1 h2 h3 hp=>by
  refine St.enter (N:=63) Tryz.func26 rfl rfl rfl hok (enter3 h1 h2 h3) fun a=>?_
  repeat' (first|((with_reducible refine gS_ ?_);first|((with_reducible refine gL_ ?_);first|refine W.run ?_ fun a w G=>?_|refine W.mv fun a w G=>?_|refine W.asg fun a w G=>?_|refine W.bx fun b a w G=>?_|(refine W.nn hK ?_;clear hK K)|refine W.nl ?_|refine W.al fun b a w G=>?_|refine W.st fun w=>?_|refine W.stp fun w=>?_|refine W.ste ?_ fun w=>?_)|((with_reducible refine gC_ ?_);first|refine W.reg fun K hK=>?_|refine W.reg1 ?_|refine W.sq fun K hK=>?_|refine W.ds ?_ (fun β a w G hu=>W.fin ?_ hu) mixedOrders (by kernel_rfl)|refine W.sk ?_|refine W.cd (fun hc=>?_) (fun hc=>?_)|refine W.cb (fun hc=>?_) (fun hc=>?_)|refine W.bl ?_|refine W.ex ?_|refine W.rt ?_)|((with_reducible refine W.kn hK ?_);clear hK K)|(with_reducible first|refine W.bn ?_|refine W.xt ?_|refine W.xb ?_|refine W.xo ?_|refine W.tr ?_|refine W.br ?_)|refine W.rt1 rfl ?_|refine W.rt2 rfl ?_ ?_|refine W.rt3 rfl ?_ ?_ ?_)|clear hK K|clear hu|exact True.intro|exact Nat.le_trans (by clear hp;omega) hp|exact Nat.le_trans (by clear hp;omega) hp.1|exact Nat.le_trans (by clear hp;omega) hp.2|(clear hp;omega)|apply And.intro|refine GI.i fun _=>?_|with_reducible rfl|decide|(simp only [List.length_cons,List.length_nil];omega))
  all_goals first
    | omega
    | (rw [slh_c (by assumption),decide_eq_false (by assumption)];rfl)
    | (rw [slh_c (by assumption),decide_eq_false hc];rfl)
    | exact slh_c (by assumption)
    | exact (slh_c (by assumption)).symm
    | exact slh_2 (by assumption) (by assumption)
    | exact (slh_2 (by assumption) (by assumption)).symm
    | exact slh_0 (by assumption) (by assumption)
    | exact (slh_0 (by assumption) (by assumption)).symm
    | (have h0:=slh_c (x:=rx) (y:=ry) (z:=rz) hc;rw [h0,decide_eq_false hc];rfl)
    | (rw [slh_2 (by assumption) (by assumption)];rfl)
    | (rw [slh_2 (by assumption) (by assumption)])
    | (rw [slh_0 (by assumption) (by assumption)];rfl)
    | (rw [slh_0 (by assumption) (by assumption)])
    | skip
instance {n k l : Nat} {ra rb re rx ry rz : FR} {τ1 : MT} [j1 : NF τ1 (PTS [(some 3,FX n ra),(some 3,FX n rb),(some 3,FX n re)])] {τ2 : MT} [j2 : NF τ2 (PTS [(some 3,FX k rx),(some 3,FX k ry)])] {τ3 : MT} [j3 : NF τ3 (FX l rz)] : Con Tryz.prog 26 [τ1,τ2,τ3] (20000 * n + 20000 * k + 20000 * l + 500000 ≤ BIG) (MT.tup2 (BT (decide (slHC ra rb re rx ry rz = 0) && slH ra rb re rx ry rz)) (.ex (errV 46 (slHC ra rb re rx ry rz)))):=.o3 fun hok h1 h2 h3 hp=>w26.c3 hok (j1.h h1) (j2.h h2) (j3.h h3) hp
end Go.Proofs.YtnjbcjmkkejfpaaGreat
set_option linter.unusedVariables false
set_option linter.unusedSimpArgs false
set_option maxHeartbeats 4000000
set_option maxRecDepth 100000
set_option synthInstance.maxSize 100000
set_option synthInstance.maxHeartbeats 400000
namespace Go.Proofs.YtnjbcjmkkejfpaaGreat
open Go.RowKit (Below)
attribute [local irreducible] Go.Code.wp Go.wpList Go.bodyPost
def limN (y u : Rat) : List Rat:=[0,y,0,u]
def limA (g a b c : FR) : Rat:=(g.val + a.val - (b.val + c.val)) / (2 * (a.val * g.val))
def limI (g a b c : FR) (u : Rat) : Bool:=decide (surdsF (-1) (limA g a b c) (a.val * g.val) u (a.val * g.val * (b.val * c.val)) ≤ 0) && decide (surdsF 1 (limA g a b c) (a.val * g.val) u (a.val * g.val * (b.val * c.val)) ≥ 0)
def limK (g a : FR) : List Rat:=[-(1 / (a.val * g.val)),1 / (a.val * g.val)]
def limJ (g a b c : FR) (j : Nat) : List (List Rat):=(((limK g a).take j).filter fun u=>limI g a b c u).map fun u=>limN (limA g a b c) u
def limL (g a b c : FR) : List (List Rat):=if chkF [g,a,b,c] = 0 then limJ g a b c 2 else []
theorem LSC.nm {b c : Nat} {l : List Rat} {v : Value} {G : Gh} (h : (LSC none [NM b l]).t v G) (e : b ≤ c) : (LSC none [NM c l]).t v G:=⟨LS.els h.1 rfl fun i τ σ h1 h2 _ hv=>by
  match i,h1,h2 with
  | 0,h1,h2=>cases h1;cases h2;exact NM.up hv e,h.2⟩
instance AsT.nm {b : Nat} {l : List Rat} : AsT (NM b l) (NM b) l:=⟨fun h=>h⟩
attribute [local irreducible] plusF minusF joinF levI lev PW RLN tB sB timesF stepF tmF normF TOK sgL surdsF chkF nearF farF gapC fullF
attribute [local irreducible] limJ limL limI
end Go.Proofs.YtnjbcjmkkejfpaaGreat
namespace Go.Proofs.YtnjbcjmkkejfpaaGreat
end Go.Proofs.YtnjbcjmkkejfpaaGreat
namespace Go.Proofs.YtnjbcjmkkejfpaaGreat
open Go.RowKit (Below)
attribute [local irreducible] rotQ compareF befR
end Go.Proofs.YtnjbcjmkkejfpaaGreat
namespace Go.Proofs.YtnjbcjmkkejfpaaGreat
open Go.RowKit (Below)
end Go.Proofs.YtnjbcjmkkejfpaaGreat
namespace Go.Proofs.YtnjbcjmkkejfpaaGreat
open Go.RowKit (Below)
def invQ (l : List FR) (k : Int) : List FR:=[invF l k 0,invF l k 1,invF l k 2,invF l k 3]
theorem inv_pos {l : List FR} {k : Int} (h : chkF l = 0) (hl : l.length = 4) : (invQ l k).all posR = true:=by
  have hp:=chk_pos h
  have : ∀ j,posR (invF l k j) = true:=fun j=>by
    unfold invF;rw [if_pos h,posR_of4]
    have hlt : (j + md4 k) % 4 < l.length:=by rw [hl];exact Nat.mod_lt _ (by decide)
    refine decide_eq_true (posR_val (List.all_eq_true.1 hp _ ?_))
    rw [List.getD_eq_getElem?_getD,List.getElem?_eq_getElem hlt];exact List.getElem_mem hlt
  unfold invQ;simp [this]
end Go.Proofs.YtnjbcjmkkejfpaaGreat
namespace Go.Proofs.YtnjbcjmkkejfpaaGreat
end Go.Proofs.YtnjbcjmkkejfpaaGreat
set_option linter.unusedVariables false
set_option linter.unusedSimpArgs false
namespace Go.Proofs.YtnjbcjmkkejfpaaGreat
section
variable {g a b c : Rat}
end
end Go.Proofs.YtnjbcjmkkejfpaaGreat
namespace Go.Proofs.YtnjbcjmkkejfpaaGreat
open RR
theorem vl3 {p x y z u a0 a1 a2 a3 a4 a5 a6 a7 : Rat} : vlL [[p], [x, y], [z, u, 0, 0]] [a0, a1, a2, a3, a4, a5, a6, a7] =
    ((RR.of a0 + RR.of a1 * rt p) + (RR.of a2 + RR.of a3 * rt p) * (RR.of x + RR.of y * rt p).sq) + ((RR.of a4 + RR.of a5 * rt p) + (RR.of a6 + RR.of a7 * rt p) * (RR.of x + RR.of y * rt p).sq) * (RR.of z + RR.of u * rt p).sq:=by
  rw [El.vl_at (k:=3) (l:=[a0,a1,a2,a3,a4,a5,a6,a7]) (by decide) (Nat.le_refl 8)]
  show ((RR.of a0 + RR.of a1 * (RR.of p).sq) + (RR.of a2 + RR.of a3 * (RR.of p).sq) * (RR.of x + RR.of y * (RR.of p).sq).sq) + ((RR.of a4 + RR.of a5 * (RR.of p).sq) + (RR.of a6 + RR.of a7 * (RR.of p).sq) * (RR.of x + RR.of y * (RR.of p).sq).sq) * ((RR.of z + RR.of u * (RR.of p).sq) + (RR.of 0 + RR.of 0 * (RR.of p).sq) * (RR.of x + RR.of y * (RR.of p).sq).sq).sq = _
  rw [show RR.of 0 = (0 : RR) from rfl,RR.zero_mul,RR.add_zero,RR.zero_mul,RR.add_zero];rfl
end Go.Proofs.YtnjbcjmkkejfpaaGreat
set_option linter.unusedVariables false
set_option linter.unusedSimpArgs false
set_option maxHeartbeats 4000000
set_option maxRecDepth 100000
set_option synthInstance.maxSize 100000
set_option synthInstance.maxHeartbeats 400000
namespace Go.Proofs.YtnjbcjmkkejfpaaGreat
open Go.RowKit (Below)
attribute [local irreducible] Go.Code.wp Go.wpList Go.bodyPost
theorem ok_of {x : Rat} (h : 0 < x) : posR (FR.of x) = true:=by unfold posR;rw [FR.of_ok,FR.of_val,decide_eq_true h];rfl
theorem ex9_c : slC (FR.of 9) (FR.of 25) (FR.of 0) = 0:=sl_0 (by rw [FR.of_ok];rfl) (by simp only [List.all_cons,List.all_nil,ok_of (show (0 : Rat) < 9 by decide),ok_of (show (0 : Rat) < 25 by decide)];rfl)
theorem ex9_f : slF (FR.of 9) (FR.of 25) (FR.of 0) = true:=by
  rw [sl_f1 (by rw [ex9_c];decide)]
  unfold slN
  simp only [FR.of_val]
  decide +kernel
theorem ex9_s : slS (FR.of 9) (FR.of 25) (FR.of 0) false 1 = 1:=by unfold slS slX slY;simp only [FR.of_val];decide +kernel
theorem ex9_t : trnF false (FR.of 1) = true:=by unfold trnF;rw [FR.of_ok];rfl
theorem ex9_e : slE (FR.of 9) (FR.of 25) (FR.of 0) false (FR.of 1) = 0:=sle_0 (by rw [ex9_c];decide) ex9_t (by rw [FR.of_val,ex9_s];decide)
theorem ex9_r : slR (FR.of 9) (FR.of 25) (FR.of 0) false (FR.of 1) = [[9],[16,0]]:=by
  rw [(sle_t ex9_e (by rw [FR.of_val,ex9_s];decide)).1]
  unfold slX slY;simp only [FR.of_val];decide +kernel
theorem ex9_l : slL (FR.of 9) (FR.of 25) (FR.of 0) false (FR.of 1) = [[0,0,1,0],[0,0,-1,0]]:=by
  rw [(sle_t ex9_e (by rw [FR.of_val,ex9_s];decide)).2]
  simp only [FR.of_val];decide +kernel
theorem ex9_ec : slEC (FR.of 9) (FR.of 25) (FR.of 0) = 0:=slec_0 (by rw [ex9_c];decide) ex9_f
theorem ex9_et : slET (FR.of 9) (FR.of 25) (FR.of 0) = [[225],[34,-2],[34,2,0,0]]:=by
  rw [(slec_y (l:=[]) ex9_ec).1];unfold slT slQ;simp only [FR.of_val];decide +kernel
theorem ex9_el {l : List Rat} : slEL (FR.of 9) (FR.of 25) (FR.of 0) l = l:=(slec_y ex9_ec).2
theorem ex9_4 : sgL [[9],[16,0]] (plusF [0,0,1,0] (minusF [4])) = 0:=by
  have e : plusF [0,0,1,0] (minusF [4]) = [-4,0,1,0]:=by decide +kernel
  rw [e,sg2 (by decide) (by decide)];decide +kernel
theorem rt225 : rt 225 = RR.of 15:=by rw [show (225 : Rat) = 15 * 15 by decide +kernel];exact rt_c (by decide)
theorem ex9_6 : sgL [[225],[34,-2],[34,2,0,0]] (plusF stL (minusF [6])) = 0:=by
  have e : plusF stL (minusF [6]) = [-6,0,-1,0,1,0,0,0]:=by decide +kernel
  rw [e];unfold sgL
  rw [vl3,rt225]
  have e1 : (RR.of 34 + RR.of (-2) * RR.of 15).sq = RR.of 2:=by
    rw [← RR.of_mul,← RR.of_add,show (34 + -2 * 15 : Rat) = 2 * 2 by decide +kernel];exact rt_c (by decide)
  have e2 : (RR.of 34 + RR.of 2 * RR.of 15).sq = RR.of 8:=by
    rw [← RR.of_mul,← RR.of_add,show (34 + 2 * 15 : Rat) = 8 * 8 by decide +kernel];exact rt_c (by decide)
  rw [e1,e2]
  simp only [← RR.of_mul,← RR.of_add]
  rw [sgR_of];decide +kernel
theorem ex9_tok2 : TOK [[9],[16,0]]:=tok2 (by decide) (by decide)
theorem ex9_tok3 : TOK [[225],[34,-2],[34,2,0,0]]:=by
  refine ⟨by decide,fun j hj=>?_,fun j hj=>?_⟩
  · match j,hj with
    | 0,_=>rfl
    | 1,_=>rfl
    | 2,_=>rfl
  · match j,hj with
    | 0,_ =>
      show 0 ≤ vlL [[225],[34,-2],[34,2,0,0]] [225]
      rw [El.vl_at (k:=0) (l:=[225]) (by decide) (Nat.le_refl 1)]
      exact RR.of_le (p:=0) (q:=225) |>.2 (by decide)
    | 1,_ =>
      show 0 ≤ vlL [[225],[34,-2],[34,2,0,0]] [34,-2]
      rw [El.vl_at (k:=1) (l:=[34,-2]) (by decide) (Nat.le_refl 2)]
      show 0 ≤ RR.of 34 + RR.of (-2) * rt 225
      rw [rt225,← RR.of_mul,← RR.of_add]
      exact RR.of_le (p:=0) |>.2 (by decide +kernel)
    | 2,_ =>
      show 0 ≤ vlL [[225],[34,-2],[34,2,0,0]] [34,2,0,0]
      rw [El.vl_at (k:=2) (l:=[34,2,0,0]) (by decide) (Nat.le_refl 4)]
      show 0 ≤ (RR.of 34 + RR.of 2 * rt 225) + (RR.of 0 + RR.of 0 * rt 225) * _
      rw [show RR.of 0 = (0 : RR) from rfl,RR.zero_mul,RR.add_zero,RR.zero_mul,RR.add_zero,rt225,← RR.of_mul,← RR.of_add]
      exact RR.of_le (p:=0) |>.2 (by decide +kernel)
theorem sB3 {x r : Nat} : sB 3 x r ≤ 5000 * x + 5000 * r + 5000:=by simp only [sB,tB];omega
theorem pw8 {l : List Rat} (h : l.length = 8) : PW 3 l:=.inr ⟨3,Nat.le_refl _,h⟩
theorem pw4i {k : Nat} (h : 2 ≤ k) {x y z u : Rat} : PW k [x,y,z,u]:=.inr ⟨2,h,rfl⟩
attribute [local irreducible] plusF minusF joinF levI lev PW RLN tB sB timesF stepF tmF normF shoF TOK sgL surdsF surdF trnC trnF dirC dirS slC slE slS slF slEC slR slL slT slEL slET slX slY slH slHC
instance NR.lx8 {τs : List MT} {xs : List FR} [h : AsTL τs RX xs] : NR (LSC (some 3) τs) (LS (some 3) (xs.map RX)):=⟨fun hv=>h.ls hv.1⟩
instance AsT.fxr8 {n : Nat} {r : FR} : AsT (FX n r) RX r:=⟨fun h=>FX.toRX h⟩
instance AsT.qxr8 {n : Nat} {x : Rat} : AsT (QC n x) RX (FR.of x):=⟨fun h=>NR.h h⟩
theorem fr_of0 : (default : FR) = FR.of 0:=by
  have e1 : (FR.of 0).p = []:=words_zero
  have e2 : (FR.of 0).q = []:=by show dwords 0 = [];simp [dwords]
  have e3 : (FR.of 0).s = false:=by show decide ((0 : Rat) < 0) = false;decide
  show FR.mk false [] [] = FR.mk (FR.of 0).s (FR.of 0).p (FR.of 0).q
  rw [e1,e2,e3]
instance  : Con Tryz.prog 46 [] (True) (PTS [(some 3,FX 64 (FR.of 9)),(some 3,FX 64 (FR.of 25)),(some 3,FX 64 (FR.of 0))]):=.o0 fun hok  hp=>by
  refine St.enter (N:=4) Tryz.func46 rfl rfl rfl hok enter0 fun a=>?_
  repeat' (first|((with_reducible refine gS_ ?_);first|((with_reducible refine gL_ ?_);first|refine W.run ?_ fun a w G=>?_|refine W.mv fun a w G=>?_|refine W.asg fun a w G=>?_|refine W.bx fun b a w G=>?_|(refine W.nn hK ?_;clear hK K)|refine W.nl ?_|refine W.al fun b a w G=>?_|refine W.st fun w=>?_|refine W.stp fun w=>?_|refine W.ste ?_ fun w=>?_)|((with_reducible refine gC_ ?_);first|refine W.reg fun K hK=>?_|refine W.reg1 ?_|refine W.sq fun K hK=>?_|refine W.ds ?_ (fun β a w G hu=>W.fin ?_ hu) mixedOrders (by kernel_rfl)|refine W.sk ?_|refine W.cd (fun hc=>?_) (fun hc=>?_)|refine W.cb (fun hc=>?_) (fun hc=>?_)|refine W.bl ?_|refine W.ex ?_|refine W.rt ?_)|((with_reducible refine W.kn hK ?_);clear hK K)|(with_reducible first|refine W.bn ?_|refine W.xt ?_|refine W.xb ?_|refine W.xo ?_|refine W.tr ?_|refine W.br ?_)|refine W.rt1 rfl ?_|refine W.rt2 rfl ?_ ?_|refine W.rt3 rfl ?_ ?_ ?_)|clear hK K|clear hu|exact True.intro|exact Nat.le_trans (by clear hp;omega) hp|exact Nat.le_trans (by clear hp;omega) hp.1|exact Nat.le_trans (by clear hp;omega) hp.2|(clear hp;omega)|apply And.intro|refine GI.i fun _=>?_|with_reducible rfl|decide|(simp only [List.length_cons,List.length_nil];omega))
  all_goals first | omega | rfl | exact fr_of0 | skip
theorem w10 {ra rb re t : FR} {h : Bool} : Con Tryz.prog 10 [PTS [(some 3,RX ra),(some 3,RX rb),(some 3,RX re)],PTS [(some 3,RX t),(none,BT h)]] (True) (BT (shortF [ra,rb,re,t])):=.o2 fun hok h1 h2 hp=>by
  refine St.enter (N:=15) Tryz.func10 rfl rfl rfl hok (enter2 h1 h2) fun a=>?_
  repeat' (first|((with_reducible refine gS_ ?_);first|((with_reducible refine gL_ ?_);first|refine W.run ?_ fun a w G=>?_|refine W.mv fun a w G=>?_|refine W.asg fun a w G=>?_|refine W.bx fun b a w G=>?_|(refine W.nn hK ?_;clear hK K)|refine W.nl ?_|refine W.al fun b a w G=>?_|refine W.st fun w=>?_|refine W.stp fun w=>?_|refine W.ste ?_ fun w=>?_)|((with_reducible refine gC_ ?_);first|refine W.reg fun K hK=>?_|refine W.reg1 ?_|refine W.sq fun K hK=>?_|refine W.ds ?_ (fun β a w G hu=>W.fin ?_ hu) mixedOrders (by kernel_rfl)|refine W.sk ?_|refine W.cd (fun hc=>?_) (fun hc=>?_)|refine W.cb (fun hc=>?_) (fun hc=>?_)|refine W.bl ?_|refine W.ex ?_|refine W.rt ?_)|((with_reducible refine W.kn hK ?_);clear hK K)|(with_reducible first|refine W.bn ?_|refine W.xt ?_|refine W.xb ?_|refine W.xo ?_|refine W.tr ?_|refine W.br ?_)|refine W.rt1 rfl ?_|refine W.rt2 rfl ?_ ?_|refine W.rt3 rfl ?_ ?_ ?_)|clear hK K|clear hu|exact True.intro|exact Nat.le_trans (by clear hp;omega) hp|exact Nat.le_trans (by clear hp;omega) hp.1|exact Nat.le_trans (by clear hp;omega) hp.2|(clear hp;omega)|apply And.intro|refine GI.i fun _=>?_|with_reducible rfl|decide|(simp only [List.length_cons,List.length_nil];omega))
  all_goals first | omega | rfl | (simp only [LIM,List.length_cons,List.length_nil];omega) | skip
instance {ra rb re t : FR} {h : Bool} {τ1 : MT} [j1 : NR τ1 (PTS [(some 3,RX ra),(some 3,RX rb),(some 3,RX re)])] {τ2 : MT} [j2 : NR τ2 (PTS [(some 3,RX t),(none,BT h)])] : Con Tryz.prog 10 [τ1,τ2] (True) (BT (shortF [ra,rb,re,t])):=.o2 fun hok h1 h2 hp=>w10.c2 hok (j1.h h1) (j2.h h2) hp
instance  : Con Tryz.prog 9 [] (True) (BT true):=.o0 fun hok  hp=>by
  refine St.enter (N:=83) Tryz.func9 rfl rfl rfl hok enter0 fun a=>?_
  have x1:=ex9_c
  have x2:=ex9_f
  have x3:=ex9_e
  have x4:=ex9_l
  have x5:=ex9_r
  have x6:=ex9_ec
  have x7:=ex9_et
  have x8:=@ex9_el
  repeat' (first|((with_reducible refine gS_ ?_);first|((with_reducible refine gL_ ?_);first|refine W.run ?_ fun a w G=>?_|refine W.mv fun a w G=>?_|refine W.asg fun a w G=>?_|refine W.bx fun b a w G=>?_|(refine W.nn hK ?_;clear hK K)|refine W.nl ?_|refine W.al fun b a w G=>?_|refine W.st fun w=>?_|refine W.stp fun w=>?_|refine W.ste ?_ fun w=>?_)|((with_reducible refine gC_ ?_);first|with_reducible refine W.cbf (by simp [ex9_c,ex9_f,ex9_e,ex9_l];done) ?_|refine W.reg fun K hK=>?_|refine W.reg1 ?_|refine W.sq fun K hK=>?_|refine W.ds ?_ (fun β a w G hu=>W.fin ?_ hu) mixedOrders (by kernel_rfl)|refine W.sk ?_|refine W.cd (fun hc=>?_) (fun hc=>?_)|refine W.cb (fun hc=>?_) (fun hc=>?_)|refine W.bl ?_|refine W.ex ?_|refine W.rt ?_)|((with_reducible refine W.kn hK ?_);clear hK K)|(with_reducible first|refine W.bn ?_|refine W.xt ?_|refine W.xb ?_|refine W.xo ?_|refine W.tr ?_|refine W.br ?_)|refine W.rt1 rfl ?_|refine W.rt2 rfl ?_ ?_|refine W.rt3 rfl ?_ ?_ ?_)|clear hK K|clear hu|exact True.intro|exact Nat.le_trans (by clear hp;omega) hp|exact Nat.le_trans (by clear hp;omega) hp.1|exact Nat.le_trans (by clear hp;omega) hp.2|(clear hp;omega)|apply And.intro|refine GI.i fun _=>?_|with_reducible rfl|decide|(simp only [List.length_cons,List.length_nil];omega))
  all_goals (try simp only [ex9_c,ex9_f,ex9_e,ex9_l,ex9_r,ex9_ec,ex9_et,ex9_el,List.length_cons,List.length_nil] at *)
  all_goals first
    | omega
    | decide
    | rfl
    | exact ex9_tok2
    | exact ex9_tok3
    | exact pw4
    | exact pw4i (by decide)
    | exact pw1k
    | exact pw8 rfl
    | (show sB 2 _ _ ≤ BIG;rw [sB2];omega)
    | (show sB 2 _ _ ≤ BIG;rw [sB2];decide)
    | (refine Nat.le_trans (show sB 3 _ _ ≤ _ from sB3) ?_;first | omega | decide)
    | (rw [show ([[0,0,1,0],[0,0,-1,0]] : List (List Rat)).getD 0 default = [0,0,1,0] from rfl,ex9_4,ex9_6];rfl)
    | (show PW 2 [0,0,1,0];exact pw4)
    | skip
theorem long1_0 {s1 : Bool} (h : s1 = false) : (!true || !s1) = true:=by cases s1 <;> simp_all
theorem long2_0 {s1 s2 : Bool} (h : (s1 && s2) = false) : ((!true || !s1) || !s2) = true:=by cases s1 <;> cases s2 <;> simp_all
instance FitX.e {z : Int} : AsT (.ex (errV 46 z)) (fun z=>.ex (errV 46 z)) z:=⟨fun h=>h⟩
theorem slR_n {a b e t : FR} {h : Bool} (h0 : slE a b e h t ≠ 0) : slR a b e h t = []:=(sle_n h0).1
theorem slL_n {a b e t : FR} {h : Bool} (h0 : slE a b e h t ≠ 0) : slL a b e h t = []:=(sle_n h0).2
theorem slL_len (a b e t : FR) (h : Bool) : (slL a b e h t).length ≤ 2:=by
  by_cases h0 : slE a b e h t = 0
  · by_cases h1 : slS a b e h t.val = 0
    · rw [(sle_s h0 h1).2];exact Nat.le_succ 1
    · rw [(sle_t h0 h1).2];exact Nat.le_refl 2
  · rw [slL_n h0];exact Nat.zero_le _
theorem rfl_dec {α : Type} [DecidableEq α] (l : α) : decide (l = l) = true:=decide_eq_true rfl
end Go.Proofs.YtnjbcjmkkejfpaaGreat
