import Derived.ChangeArms
import Derived.SizedLaws
import Derived.WideShapes
import Derived.Test.YtnjbcjmkkejfpaaGreatQj
set_option linter.unusedVariables false
set_option linter.unusedSimpArgs false
set_option linter.unusedVariables false
set_option linter.unusedSimpArgs false
set_option maxHeartbeats 4000000
set_option maxRecDepth 100000
set_option synthInstance.maxSize 100000
set_option synthInstance.maxHeartbeats 400000
namespace Go.Proofs.YtnjbcjmkkejfpaaGreat
open Go.RowKit (Below)
attribute [local irreducible] Go.Code.wp Go.wpList Go.bodyPost
private theorem gS_ {W0 : World} {G0 : Gh} {N : Nat} {L : List (Nat × MT)} {B : List BX} {a : Act} {w : World} {G : Gh} {q : Prop} (h : St W0 G0 N L B a w G → q) : St W0 G0 N L B a w G → q:=h
private theorem gL_ {p : Prop} {P : Program} {arr : Array Oper} {Q : Exit → Act → World → Prop} {l : List Oper} {a : Act} {w : World} (h : p → wpList P arr Q l a w) : p → wpList P arr Q l a w:=h
private theorem gC_ {p : Prop} {P : Program} {c : Code} {Q : Exit → Act → World → Prop} {a : Act} {w : World} (h : p → c.wp P Q a w) : p → c.wp P Q a w:=h
private theorem mixedOrders : Tryz.prog.follows .mixedOrders = true:=by kernel_rfl
attribute [local irreducible] plusF minusF joinF levI lev PW RLN tB sB timesF stepF tmF normF shoF TOK sgL surdsF surdF trnC trnF dirC dirS slC slE slS slF slEC slR slL slT slEL slET slX slY slH slHC shortF rooF radR
instance gTS7_7_2 : GcT 7 2 false 2 [3,4,35,36,37,38,39,40,41,42,43,44,45,46,47,48,49,50,51,52]:=⟨⟩
instance gTS7_7_3 : GcT 7 3 false 4 [35,36,37,38,39,40,41,42,43,44,45,46,47,48,49,50,51,52]:=⟨⟩
instance gTS7_7_4 : GcT 7 4 false 54 [55,56,57,58,59,60]:=⟨⟩
instance gTS7_7_7 : GcT 7 7 false 3 [7,61,62,70,71,72,73,74,75]:=⟨⟩
instance gTS7_7_9 : GcT 7 9 false 2 [5,6,8,9,10,11,12,76,77,78,79,80,81,82,83,84,85,86,87,88,89,90,91,92,93,94,95,96]:=⟨⟩
instance gTS7_7_10 : GcT 7 10 false 10 [12,76,77,78,79,80,81,82,83,84,85,86,87,88,89,90,91,92,93,94,95,96]:=⟨⟩
instance gTS7_7_14 : GcT 7 14 false 100 [101,102,103,104,105,106,107,108,109,110]:=⟨⟩
instance gTS7_7_15 : GcT 7 15 false 111 [112,113,114,115,116,117,118]:=⟨⟩
instance gTS7_7_16 : GcT 7 16 false 14 [15,119,120,121,122,123,124,125]:=⟨⟩
instance gTS7_7_17 : GcT 7 17 false 17 [126,127,128,129,130,131,132,133,134]:=⟨⟩
instance gTS7_7_18 : GcT 7 18 false 19 [135,136,137,138,139,140,141]:=⟨⟩
instance gTS7_7_19 : GcT 7 19 false 21 [142,143,144,145,146,147,148]:=⟨⟩
instance gTS7_7_20 : GcT 7 20 false 23 [25,149,150,151,152,153,154,155]:=⟨⟩
instance gTS7_7_24 : GcT 7 24 false 30 [166,167,168,169,170]:=⟨⟩
instance gTS7_7_26 : GcT 7 26 false 16 [18,20,22,24,26,28,156,157,158,159,160,161,162,164]:=⟨⟩
instance gTS7_7_27 : GcT 7 27 false 27 [172,173,174,175,176,177,178,179,180]:=⟨⟩
instance gTS7_7_28 : GcT 7 28 false 31 [32,163,181,182,183,184,185,186]:=⟨⟩
instance gTS7_7_30 : GcT 7 30 false 2 [8,9,11,97,98]:=⟨⟩
instance gTS7_7_32 : GcT 7 32 false 5 [6,188,189,190,191,192,193,194,195,196,197,198,199,200,201]:=⟨⟩
theorem shortSliderDistancesB {ra rb re t : FR} {h : Bool} : Con Tryz.prog 7 [PTS [(some 3,FX 64 ra),(some 3,FX 64 rb),(some 3,FX 64 re)],TRN 64 t h] (shortF [ra,rb,re,t] = true ∧ (slC ra rb re ≠ 0)) (BT true):=.o2 fun hok h1 h2 hp=>by
  refine St.enter (N:=208) Tryz.func7 rfl rfl rfl hok (enter2 h1 h2) fun a=>?_
  have e0:=hp.1
  have e1:=hp.2
  repeat' (first|((with_reducible refine gS_ ?_);first|((with_reducible refine gL_ ?_);first|refine W.run ?_ fun a w G=>?_|refine W.mv fun a w G=>?_|refine W.asg fun a w G=>?_|refine W.bx fun b a w G=>?_|(refine W.nn hK ?_;clear hK K)|refine W.nl ?_|refine W.al fun b a w G=>?_|refine W.st fun w=>?_|refine W.stp fun w=>?_|refine W.ste ?_ fun w=>?_)|((with_reducible refine gC_ ?_);first|with_reducible refine W.cbt (by first|assumption|(simp [e0,e1];done)|fail) ?_|with_reducible refine W.cbf (by first|assumption|(simp [e0,e1];done)|fail) ?_|with_reducible refine W.gcc 7 ?_|with_reducible refine W.gcd 7 ?_|refine W.reg fun K hK=>?_|refine W.reg1 ?_|refine W.sq fun K hK=>?_|refine W.ds ?_ (fun β a w G hu=>W.fin ?_ hu) mixedOrders (by kernel_rfl)|refine W.sk ?_|refine W.cd (fun hc=>?_) (fun hc=>?_)|refine W.cb (fun hc=>?_) (fun hc=>?_)|refine W.bl ?_|refine W.ex ?_|refine W.rt ?_)|((with_reducible refine W.kn hK ?_);clear hK K)|(with_reducible first|refine W.bn ?_|refine W.xt ?_|refine W.xb ?_|refine W.xo ?_|refine W.tr ?_|refine W.br ?_)|refine W.rt1 rfl ?_|refine W.rt2 rfl ?_ ?_|refine W.rt3 rfl ?_ ?_ ?_)|clear hK K|clear hu|exact True.intro|exact Nat.le_trans (by clear hp;omega) hp|exact Nat.le_trans (by clear hp;omega) hp.1|exact Nat.le_trans (by clear hp;omega) hp.2|(clear hp;omega)|apply And.intro|refine GI.i fun _=>?_|with_reducible rfl|decide|(simp only [List.length_cons,List.length_nil];omega))
  all_goals first
    | omega
    | (simp [e0,e1];done)
    | exact e1
    | exact e2
    | exact trn_of
    | rfl
    | skip
theorem shortSliderDistancesC {ra rb re t : FR} {h : Bool} : Con Tryz.prog 7 [PTS [(some 3,FX 64 ra),(some 3,FX 64 rb),(some 3,FX 64 re)],TRN 64 t h] (shortF [ra,rb,re,t] = true ∧ (slC ra rb re = 0 ∧ trnF h t = false)) (BT true):=.o2 fun hok h1 h2 hp=>by
  refine St.enter (N:=208) Tryz.func7 rfl rfl rfl hok (enter2 h1 h2) fun a=>?_
  have e0:=hp.1
  have e1:=hp.2.1
  have e2:=hp.2.2
  repeat' (first|((with_reducible refine gS_ ?_);first|((with_reducible refine gL_ ?_);first|refine W.run ?_ fun a w G=>?_|refine W.mv fun a w G=>?_|refine W.asg fun a w G=>?_|refine W.bx fun b a w G=>?_|(refine W.nn hK ?_;clear hK K)|refine W.nl ?_|refine W.al fun b a w G=>?_|refine W.st fun w=>?_|refine W.stp fun w=>?_|refine W.ste ?_ fun w=>?_)|((with_reducible refine gC_ ?_);first|with_reducible refine W.cbt (by first|assumption|(simp [e0,e1,e2];done)|fail) ?_|with_reducible refine W.cbf (by first|assumption|(simp [e0,e1,e2];done)|fail) ?_|with_reducible refine W.gcc 7 ?_|with_reducible refine W.gcd 7 ?_|refine W.reg fun K hK=>?_|refine W.reg1 ?_|refine W.sq fun K hK=>?_|refine W.ds ?_ (fun β a w G hu=>W.fin ?_ hu) mixedOrders (by kernel_rfl)|refine W.sk ?_|refine W.cd (fun hc=>?_) (fun hc=>?_)|refine W.cb (fun hc=>?_) (fun hc=>?_)|refine W.bl ?_|refine W.ex ?_|refine W.rt ?_)|((with_reducible refine W.kn hK ?_);clear hK K)|(with_reducible first|refine W.bn ?_|refine W.xt ?_|refine W.xb ?_|refine W.xo ?_|refine W.tr ?_|refine W.br ?_)|refine W.rt1 rfl ?_|refine W.rt2 rfl ?_ ?_|refine W.rt3 rfl ?_ ?_ ?_)|clear hK K|clear hu|exact True.intro|exact Nat.le_trans (by clear hp;omega) hp|exact Nat.le_trans (by clear hp;omega) hp.1|exact Nat.le_trans (by clear hp;omega) hp.2|(clear hp;omega)|apply And.intro|refine GI.i fun _=>?_|with_reducible rfl|decide|(simp only [List.length_cons,List.length_nil];omega))
  all_goals first
    | omega
    | (simp [e0,e1,e2];done)
    | exact e1
    | exact e2
    | exact trn_of
    | rfl
    | skip
theorem shortSliderDistancesD {ra rb re t : FR} {h : Bool} : Con Tryz.prog 7 [PTS [(some 3,FX 64 ra),(some 3,FX 64 rb),(some 3,FX 64 re)],TRN 64 t h] (shortF [ra,rb,re,t] = true ∧ (slC ra rb re = 0 ∧ trnF h t = true ∧ slE ra rb re h t ≠ 0)) (BT true):=.o2 fun hok h1 h2 hp=>by
  refine St.enter (N:=208) Tryz.func7 rfl rfl rfl hok (enter2 h1 h2) fun a=>?_
  have e0:=hp.1
  have e1:=hp.2.1
  have e2:=hp.2.2.1
  have e3:=hp.2.2.2
  have e4:=sle_ne e1 e2 e3
  have e5:=slL_n e3
  repeat' (first|((with_reducible refine gS_ ?_);first|((with_reducible refine gL_ ?_);first|refine W.run ?_ fun a w G=>?_|refine W.mv fun a w G=>?_|refine W.asg fun a w G=>?_|refine W.bx fun b a w G=>?_|(refine W.nn hK ?_;clear hK K)|refine W.nl ?_|refine W.al fun b a w G=>?_|refine W.st fun w=>?_|refine W.stp fun w=>?_|refine W.ste ?_ fun w=>?_)|((with_reducible refine gC_ ?_);first|with_reducible refine W.cbt (by first|assumption|(simp [e0,e1,e2,e3,e4.1,e5];done)|fail) ?_|with_reducible refine W.cbf (by first|assumption|(simp [e0,e1,e2,e3,e4.1,e5];done)|fail) ?_|with_reducible refine W.gcc 7 ?_|with_reducible refine W.gcd 7 ?_|refine W.reg fun K hK=>?_|refine W.reg1 ?_|refine W.sq fun K hK=>?_|refine W.ds ?_ (fun β a w G hu=>W.fin ?_ hu) mixedOrders (by kernel_rfl)|refine W.sk ?_|refine W.cd (fun hc=>?_) (fun hc=>?_)|refine W.cb (fun hc=>?_) (fun hc=>?_)|refine W.bl ?_|refine W.ex ?_|refine W.rt ?_)|((with_reducible refine W.kn hK ?_);clear hK K)|(with_reducible first|refine W.bn ?_|refine W.xt ?_|refine W.xb ?_|refine W.xo ?_|refine W.tr ?_|refine W.br ?_)|refine W.rt1 rfl ?_|refine W.rt2 rfl ?_ ?_|refine W.rt3 rfl ?_ ?_ ?_)|clear hK K|clear hu|exact True.intro|exact Nat.le_trans (by clear hp;omega) hp|exact Nat.le_trans (by clear hp;omega) hp.1|exact Nat.le_trans (by clear hp;omega) hp.2|(clear hp;omega)|apply And.intro|refine GI.i fun _=>?_|with_reducible rfl|decide|(simp only [List.length_cons,List.length_nil];omega))
  all_goals first
    | omega
    | (simp [e0,e1,e2,e3,e4.1,e5];done)
    | exact e1
    | exact e2
    | exact trn_of
    | rfl
    | skip
theorem shortSliderDistancesE {ra rb re t : FR} {h : Bool} : Con Tryz.prog 7 [PTS [(some 3,FX 64 ra),(some 3,FX 64 rb),(some 3,FX 64 re)],TRN 64 t h] (shortF [ra,rb,re,t] = true ∧ (slC ra rb re = 0 ∧ trnF h t = true ∧ slE ra rb re h t = 0 ∧ slS ra rb re h t.val = 0)) (BT true):=.o2 fun hok h1 h2 hp=>by
  have e1:=hp.2.1
  have e2:=hp.2.2.1
  obtain ⟨k1,k2,k3⟩:=sld_self h1
  obtain ⟨l1,l2,l3⟩:=sl_oks e1
  obtain ⟨xa,rfl⟩:=k1 l1
  obtain ⟨xb,rfl⟩:=k2 l2
  obtain ⟨xe,rfl⟩:=k3 l3
  refine St.enter (N:=208) Tryz.func7 rfl rfl rfl hok (enter2 h1 h2) fun a=>?_
  have e0:=hp.1
  have e3:=hp.2.2.2.1
  have e4:=hp.2.2.2.2
  have e6:=(sl_len e1 e2 e3).1 e4
  have e7:=sl_vals e1 e2 e3
  have e9:=rep7
  repeat' (first|((with_reducible refine gS_ ?_);first|((with_reducible refine gL_ ?_);first|refine W.run ?_ fun a w G=>?_|refine W.mv fun a w G=>?_|refine W.asg fun a w G=>?_|refine W.bx fun b a w G=>?_|(refine W.nn hK ?_;clear hK K)|refine W.nl ?_|refine W.al fun b a w G=>?_|refine W.st fun w=>?_|refine W.stp fun w=>?_|refine W.ste ?_ fun w=>?_)|((with_reducible refine gC_ ?_);first|with_reducible refine W.cbt (by first|assumption|(simp [e0,e1,e2,e3,e6.2,e9];done)|fail) ?_|with_reducible refine W.cbf (by first|assumption|(simp [e0,e1,e2,e3,e6.2,e9];done)|fail) ?_|with_reducible refine W.cbf (rep7d _) ?_|with_reducible refine W.gcc 7 ?_|with_reducible refine W.gcd 7 ?_|refine W.reg fun K hK=>?_|refine W.reg1 ?_|refine W.sq fun K hK=>?_|refine W.ds ?_ (fun β a w G hu=>W.fin ?_ hu) mixedOrders (by kernel_rfl)|refine W.sk ?_|refine W.cd (fun hc=>?_) (fun hc=>?_)|refine W.cb (fun hc=>?_) (fun hc=>?_)|refine W.bl ?_|refine W.ex ?_|refine W.rt ?_)|((with_reducible refine W.kn hK ?_);clear hK K)|(with_reducible first|refine W.bn ?_|refine W.xt ?_|refine W.xb ?_|refine W.xo ?_|refine W.tr ?_|refine W.br ?_)|refine W.rt1 rfl ?_|refine W.rt2 rfl ?_ ?_|refine W.rt3 rfl ?_ ?_ ?_)|refine W.lp 100 (α:=Nat) (fun q=>(slL (FR.of xa) (FR.of xb) (FR.of xe) h t).length - q) (fun q=>q ≤ (slL (FR.of xa) (FR.of xb) (FR.of xe) h t).length) [4,14,15,16,17,18,19,20,21,22,23,24,25,26,27,28,30,31,32,99,100,101,102,103,104,105,106,107,108,109,110,111,112,113,114,115,116,117,118,119,120,121,122,123,124,125,126,127,128,129,130,131,132,133,134,135,136,137,138,139,140,141,142,143,144,145,146,147,148,149,150,151,152,153,154,155,156,157,158,159,160,161,162,163,164,165,166,167,168,169,170,171,172,173,174,175,176,177,178,179,180,181,182,183,184,185,186,187] (fun q=>[(99,NT q)]) (fun q=>[]) (0) ?_ ?_ ?_ fun q hq a w G=>?_|refine W.ag (x:=q) (q+1) ?_ ?_ ?_ ?_|refine W.lp 166 (α:=Nat) (fun p=>7 - p) (fun p=>p ≤ 7) [4,30,163,164,165,166,167,168,169,170,171] (fun p=>[(165,NT p),(164,NT 7),(163,LS none ((List.replicate 7 (0 : Int)).map ERL))]) (fun p=>[]) (0) ?_ ?_ ?_ fun p hp a w G=>?_|refine W.ag (x:=p) (p+1) ?_ ?_ ?_ ?_|clear hK K|clear hu|exact True.intro|exact Nat.le_trans (by clear hp;omega) hp|exact Nat.le_trans (by clear hp;omega) hp.1|exact Nat.le_trans (by clear hp;omega) hp.2|(clear hp;omega)|apply And.intro|refine GI.i fun _=>?_|with_reducible rfl|decide|(simp only [List.length_cons,List.length_nil];omega))
  all_goals first
    | omega
    | (simp [e0,e1,e2,e3,e6.2,e9];done)
    | exact e1
    | exact e2
    | exact trn_of
    | rfl
    | (rw [e8];rfl)
    | (rw [List.length_replicate];omega)
    | (exfalso;exact hc (rep7 _))
    | (exfalso;have hd:=dist_sl e1 e2 e3 (j:=q) (by omega) rfl rfl;rw [hd] at hc;simp at hc;done)
    | exact e7.1
    | exact e7.2.1
    | exact pw1k
    | exact pw_rot e7.2.1
    | exact (e7.2.2.2 q (by omega)).1
    | exact (e7.2.2.2 0 (by omega)).1
    | exact (e7.2.2.2 1 (by omega)).1
    | (refine sho_pw e7.1.rl.2 ?_;refine PW.tm e7.1.rl.1 (Nat.le_refl _) ?_ ?_ <;> first | exact pw1k | exact pw_rot e7.2.1 | (refine sho_pw e7.1.rl.2 ?_;refine PW.plus ?_ (sho_pw e7.1.rl.2 (PW.tm e7.1.rl.1 (Nat.le_refl _) (pw_rot e7.2.1) pw1k)).minus;first | exact pw1k | exact (e7.2.2.2 q (by omega)).1))
    | (refine sho_pw e7.1.rl.2 ?_;refine PW.plus ?_ (sho_pw e7.1.rl.2 (PW.tm e7.1.rl.1 (Nat.le_refl _) (pw_rot e7.2.1) pw1k)).minus;first | exact pw1k | exact (e7.2.2.2 q (by omega)).1)
    | (refine sho_pw e7.1.rl.2 (PW.plus ?_ ?_) <;> (refine sho_pw e7.1.rl.2 ?_;refine PW.tm e7.1.rl.1 (Nat.le_refl _) ?_ ?_ <;> (refine sho_pw e7.1.rl.2 ?_;refine PW.plus ?_ (sho_pw e7.1.rl.2 (PW.tm e7.1.rl.1 (Nat.le_refl _) (pw_rot e7.2.1) pw1k)).minus;first | exact pw1k | exact (e7.2.2.2 q (by omega)).1)))
    | (rw [e6.1];simp only [tB1,tB2,sB1,sB2];decide)
    | skip
theorem shortSliderDistancesF {ra rb re t : FR} {h : Bool} : Con Tryz.prog 7 [PTS [(some 3,FX 64 ra),(some 3,FX 64 rb),(some 3,FX 64 re)],TRN 64 t h] (shortF [ra,rb,re,t] = true ∧ (slC ra rb re = 0 ∧ trnF h t = true ∧ slE ra rb re h t = 0 ∧ slS ra rb re h t.val ≠ 0)) (BT true):=.o2 fun hok h1 h2 hp=>by
  have e1:=hp.2.1
  have e2:=hp.2.2.1
  obtain ⟨k1,k2,k3⟩:=sld_self h1
  obtain ⟨l1,l2,l3⟩:=sl_oks e1
  obtain ⟨xa,rfl⟩:=k1 l1
  obtain ⟨xb,rfl⟩:=k2 l2
  obtain ⟨xe,rfl⟩:=k3 l3
  refine St.enter (N:=208) Tryz.func7 rfl rfl rfl hok (enter2 h1 h2) fun a=>?_
  have e0:=hp.1
  have e3:=hp.2.2.2.1
  have e4:=hp.2.2.2.2
  have e6:=(sl_len e1 e2 e3).2 e4
  have e7:=sl_vals e1 e2 e3
  have e9:=rep7
  have e8:=two_gt e1 e2 e3 e4
  repeat' (first|((with_reducible refine gS_ ?_);first|((with_reducible refine gL_ ?_);first|refine W.run ?_ fun a w G=>?_|refine W.mv fun a w G=>?_|refine W.asg fun a w G=>?_|refine W.bx fun b a w G=>?_|(refine W.nn hK ?_;clear hK K)|refine W.nl ?_|refine W.al fun b a w G=>?_|refine W.st fun w=>?_|refine W.stp fun w=>?_|refine W.ste ?_ fun w=>?_)|((with_reducible refine gC_ ?_);first|with_reducible refine W.cbt (by first|assumption|(simp [e0,e1,e2,e3,e6.2,e8,e9];done)|fail) ?_|with_reducible refine W.cbf (by first|assumption|(simp [e0,e1,e2,e3,e6.2,e8,e9];done)|fail) ?_|with_reducible refine W.cbf (rep7d _) ?_|with_reducible refine W.gcc 7 ?_|with_reducible refine W.gcd 7 ?_|refine W.reg fun K hK=>?_|refine W.reg1 ?_|refine W.sq fun K hK=>?_|refine W.ds ?_ (fun β a w G hu=>W.fin ?_ hu) mixedOrders (by kernel_rfl)|refine W.sk ?_|refine W.cd (fun hc=>?_) (fun hc=>?_)|refine W.cb (fun hc=>?_) (fun hc=>?_)|refine W.bl ?_|refine W.ex ?_|refine W.rt ?_)|((with_reducible refine W.kn hK ?_);clear hK K)|(with_reducible first|refine W.bn ?_|refine W.xt ?_|refine W.xb ?_|refine W.xo ?_|refine W.tr ?_|refine W.br ?_)|refine W.rt1 rfl ?_|refine W.rt2 rfl ?_ ?_|refine W.rt3 rfl ?_ ?_ ?_)|refine W.lp 100 (α:=Nat) (fun q=>(slL (FR.of xa) (FR.of xb) (FR.of xe) h t).length - q) (fun q=>q ≤ (slL (FR.of xa) (FR.of xb) (FR.of xe) h t).length) [4,14,15,16,17,18,19,20,21,22,23,24,25,26,27,28,30,31,32,99,100,101,102,103,104,105,106,107,108,109,110,111,112,113,114,115,116,117,118,119,120,121,122,123,124,125,126,127,128,129,130,131,132,133,134,135,136,137,138,139,140,141,142,143,144,145,146,147,148,149,150,151,152,153,154,155,156,157,158,159,160,161,162,163,164,165,166,167,168,169,170,171,172,173,174,175,176,177,178,179,180,181,182,183,184,185,186,187] (fun q=>[(99,NT q)]) (fun q=>[]) (0) ?_ ?_ ?_ fun q hq a w G=>?_|refine W.ag (x:=q) (q+1) ?_ ?_ ?_ ?_|refine W.lp 166 (α:=Nat) (fun p=>7 - p) (fun p=>p ≤ 7) [4,30,163,164,165,166,167,168,169,170,171] (fun p=>[(165,NT p),(164,NT 7),(163,LS none ((List.replicate 7 (0 : Int)).map ERL))]) (fun p=>[]) (0) ?_ ?_ ?_ fun p hp a w G=>?_|refine W.ag (x:=p) (p+1) ?_ ?_ ?_ ?_|clear hK K|clear hu|exact True.intro|exact Nat.le_trans (by clear hp;omega) hp|exact Nat.le_trans (by clear hp;omega) hp.1|exact Nat.le_trans (by clear hp;omega) hp.2|(clear hp;omega)|apply And.intro|refine GI.i fun _=>?_|with_reducible rfl|decide|(simp only [List.length_cons,List.length_nil];omega))
  all_goals first
    | omega
    | (simp [e0,e1,e2,e3,e6.2,e8,e9];done)
    | exact e1
    | exact e2
    | exact trn_of
    | rfl
    | (rw [e8];rfl)
    | (rw [List.length_replicate];omega)
    | (exfalso;exact hc (rep7 _))
    | (exfalso;have hd:=dist_sl e1 e2 e3 (j:=q) (by omega) rfl rfl;rw [hd] at hc;simp at hc;done)
    | exact e7.1
    | exact e7.2.1
    | exact pw1k
    | exact pw_rot e7.2.1
    | exact (e7.2.2.2 q (by omega)).1
    | exact (e7.2.2.2 0 (by omega)).1
    | exact (e7.2.2.2 1 (by omega)).1
    | (refine sho_pw e7.1.rl.2 ?_;refine PW.tm e7.1.rl.1 (Nat.le_refl _) ?_ ?_ <;> first | exact pw1k | exact pw_rot e7.2.1 | (refine sho_pw e7.1.rl.2 ?_;refine PW.plus ?_ (sho_pw e7.1.rl.2 (PW.tm e7.1.rl.1 (Nat.le_refl _) (pw_rot e7.2.1) pw1k)).minus;first | exact pw1k | exact (e7.2.2.2 q (by omega)).1))
    | (refine sho_pw e7.1.rl.2 ?_;refine PW.plus ?_ (sho_pw e7.1.rl.2 (PW.tm e7.1.rl.1 (Nat.le_refl _) (pw_rot e7.2.1) pw1k)).minus;first | exact pw1k | exact (e7.2.2.2 q (by omega)).1)
    | (refine sho_pw e7.1.rl.2 (PW.plus ?_ ?_) <;> (refine sho_pw e7.1.rl.2 ?_;refine PW.tm e7.1.rl.1 (Nat.le_refl _) ?_ ?_ <;> (refine sho_pw e7.1.rl.2 ?_;refine PW.plus ?_ (sho_pw e7.1.rl.2 (PW.tm e7.1.rl.1 (Nat.le_refl _) (pw_rot e7.2.1) pw1k)).minus;first | exact pw1k | exact (e7.2.2.2 q (by omega)).1)))
    | (rw [e6.1];simp only [tB1,tB2,sB1,sB2];decide)
    | skip
theorem longSliderDistances {ra rb re t : FR} {h : Bool} : Con Tryz.prog 7 [PTS [(some 3,RX ra),(some 3,RX rb),(some 3,RX re)],PTS [(some 3,RX t),(none,BT h)]] (shortF [ra,rb,re,t] = false) (BT true):=.o2 fun hok h1 h2 hp=>by
  refine St.enter (N:=208) Tryz.func7 rfl rfl rfl hok (enter2 h1 h2) fun a=>?_
  repeat' (first|refine W.cbt (long1_2 hp) ?_|((with_reducible refine gS_ ?_);first|((with_reducible refine gL_ ?_);first|refine W.run ?_ fun a w G=>?_|refine W.mv fun a w G=>?_|refine W.asg fun a w G=>?_|refine W.bx fun b a w G=>?_|(refine W.nn hK ?_;clear hK K)|refine W.nl ?_|refine W.al fun b a w G=>?_|refine W.st fun w=>?_|refine W.stp fun w=>?_|refine W.ste ?_ fun w=>?_)|((with_reducible refine gC_ ?_);first|refine W.reg fun K hK=>?_|refine W.reg1 ?_|refine W.sq fun K hK=>?_|refine W.ds ?_ (fun β a w G hu=>W.fin ?_ hu) mixedOrders (by kernel_rfl)|refine W.sk ?_|refine W.cd (fun hc=>?_) (fun hc=>?_)|refine W.cb (fun hc=>?_) (fun hc=>?_)|refine W.bl ?_|refine W.ex ?_|refine W.rt ?_)|((with_reducible refine W.kn hK ?_);clear hK K)|(with_reducible first|refine W.bn ?_|refine W.xt ?_|refine W.xb ?_|refine W.xo ?_|refine W.tr ?_|refine W.br ?_)|refine W.rt1 rfl ?_|refine W.rt2 rfl ?_ ?_|refine W.rt3 rfl ?_ ?_ ?_)|clear hK K|clear hu|exact True.intro|exact Nat.le_trans (by clear hp;omega) hp|exact Nat.le_trans (by clear hp;omega) hp.1|exact Nat.le_trans (by clear hp;omega) hp.2|(clear hp;omega)|apply And.intro|refine GI.i fun _=>?_|with_reducible rfl|decide|(simp only [List.length_cons,List.length_nil];omega))
  all_goals first | exact (gi1_0 hp (by assumption)).elim | exact (gi1_1 hp (by assumption)).elim | skip
theorem lawSliderDistances {ra rb re t : FR} {h : Bool} {w : World} {G : Gh} {v1 v2 : Value} (hok : Gok w G) (h1 : (PTS [(some 3,RX ra),(some 3,RX rb),(some 3,RX re)]).t v1 G) (h2 : (PTS [(some 3,RX t),(none,BT h)]).t v2 G) : Calls Tryz.prog 7 #[v1,v2] w (Ret w G (BT true)):=by
  cases hs : shortF [ra,rb,re,t] with
  | true =>
    have hq:=hs
    (try simp only [shortF,List.all_cons,List.all_nil,Bool.and_true,Bool.and_eq_true] at hq)
    have hcs : (slC ra rb re ≠ 0) ∨ (slC ra rb re = 0 ∧ trnF h t = false) ∨ (slC ra rb re = 0 ∧ trnF h t = true ∧ slE ra rb re h t ≠ 0) ∨ (slC ra rb re = 0 ∧ trnF h t = true ∧ slE ra rb re h t = 0 ∧ slS ra rb re h t.val = 0) ∨ (slC ra rb re = 0 ∧ trnF h t = true ∧ slE ra rb re h t = 0 ∧ slS ra rb re h t.val ≠ 0):=by
      by_cases e : slC ra rb re = 0
      · cases e2 : trnF h t with
        | false=>exact .inr (.inl ⟨e,rfl⟩)
        | true =>
          by_cases e3 : slE ra rb re h t = 0
          · by_cases e4 : slS ra rb re h t.val = 0
            · exact .inr (.inr (.inr (.inl ⟨e,rfl,e3,e4⟩)))
            · exact .inr (.inr (.inr (.inr ⟨e,rfl,e3,e4⟩)))
          · exact .inr (.inr (.inl ⟨e,rfl,e3⟩))
      · exact .inl e
    rcases hcs with hcs | hcs | hcs | hcs | hcs
    · exact shortSliderDistancesB.c2 hok (NS.h (τ':=PTS [(some 3,FX 64 ra),(some 3,FX 64 rb),(some 3,FX 64 re)]) (by (try simp only [and_true,true_and]);grind) h1) (NS.h (τ':=TRN 64 t h) (by (try simp only [and_true,true_and]);grind) h2) ⟨hs,hcs⟩
    · exact shortSliderDistancesC.c2 hok (NS.h (τ':=PTS [(some 3,FX 64 ra),(some 3,FX 64 rb),(some 3,FX 64 re)]) (by (try simp only [and_true,true_and]);grind) h1) (NS.h (τ':=TRN 64 t h) (by (try simp only [and_true,true_and]);grind) h2) ⟨hs,hcs⟩
    · exact shortSliderDistancesD.c2 hok (NS.h (τ':=PTS [(some 3,FX 64 ra),(some 3,FX 64 rb),(some 3,FX 64 re)]) (by (try simp only [and_true,true_and]);grind) h1) (NS.h (τ':=TRN 64 t h) (by (try simp only [and_true,true_and]);grind) h2) ⟨hs,hcs⟩
    · exact shortSliderDistancesE.c2 hok (NS.h (τ':=PTS [(some 3,FX 64 ra),(some 3,FX 64 rb),(some 3,FX 64 re)]) (by (try simp only [and_true,true_and]);grind) h1) (NS.h (τ':=TRN 64 t h) (by (try simp only [and_true,true_and]);grind) h2) ⟨hs,hcs⟩
    · exact shortSliderDistancesF.c2 hok (NS.h (τ':=PTS [(some 3,FX 64 ra),(some 3,FX 64 rb),(some 3,FX 64 re)]) (by (try simp only [and_true,true_and]);grind) h1) (NS.h (τ':=TRN 64 t h) (by (try simp only [and_true,true_and]);grind) h2) ⟨hs,hcs⟩
  | false=>exact longSliderDistances.c2 hok h1 h2 hs
end Go.Proofs.YtnjbcjmkkejfpaaGreat
namespace Go.Proofs.YtnjbcjmkkejfpaaGreat
open Go.RowKit (Below)
def G0of (W : World) : Gh:=fun b=>W.heap[b]?
theorem G0of_ok (W : World) : Gok W (G0of W):=fun _ _ h=>h
theorem Gc_G0 {W : World} {b i : Nat} : Gc (G0of W) b i = W.cell? ⟨b,i,none⟩:=by
  unfold Gc G0of World.cell?;cases W.heap[b]? with
  | none=>rfl
  | some o=>cases o <;> rfl
def RdA (P : Program) (W : World) (t : TypeId) (k : Option Nat) (A : MT → Prop) : Prop:=∀ (H : Type) (enc : TypeId × Value → H) (fuel : Nat) (cs : List Value) (x : DataW H × List MemPlace),
  DataW.trod enc P W 0 (fun _=>true) true fuel t cs = some x → (x.1.weights P t).all (· ≤ reachBytes) = true → ∃ (v : Value) (τ : MT),A τ ∧ v.cells.toList = cs ∧ Shaped k v ∧ τ.t v (G0of W)
section
variable {P : Program} {W : World} {t e : TypeId} {k : Option Nat} {A A' : MT → Prop}
theorem RdA.mono (h : RdA P W t k A) (hA : ∀ τ v,A τ → τ.t v (G0of W) → ∃ σ,A' σ ∧ σ.t v (G0of W)) : RdA P W t k A':=fun H enc fuel cs x hx hw=>by
  obtain ⟨v,τ,h1,h2,h3,h4⟩:=h H enc fuel cs x hx hw
  obtain ⟨σ,h5,h6⟩:=hA τ v h1 h4
  exact ⟨v,σ,h5,h2,h3,h6⟩
theorem rd_bool (ht : P.underlying t = some .bool) : RdA P W t none (fun τ=>∃ b,τ = .ex (.bool b)):=fun H enc fuel cs x hx hw=>by
  obtain ⟨b,rfl,rfl⟩:=DataW.trod_bool ht hx
  exact ⟨.bool b,_,⟨b,rfl⟩,rfl,⟨rfl,rfl⟩,rfl⟩
theorem rd_int {kk : IntKind} (ht : P.underlying t = some (.int kk)) : RdA P W t none (fun τ=>∃ z,(Lit.int kk z).wf = true ∧ τ = .ex (.int kk z)):=fun H enc fuel cs x hx hw=>by
  obtain ⟨z,rfl,rfl,h⟩:=DataW.trod_int ht hx
  exact ⟨.int kk z,_,⟨z,h,rfl⟩,rfl,⟨rfl,rfl⟩,rfl⟩
theorem rd_i64 (ht : P.underlying t = some (.int .i64)) : RdA P W t none (fun τ=>∃ z : Int,τ = .ex (.int .i64 z)):=(rd_int ht).mono fun τ v ⟨z,_,e⟩ hv=>⟨τ,⟨z,e⟩,hv⟩
theorem rd_u8 (ht : P.underlying t = some (.int .u8)) : RdA P W t none (fun τ=>∃ z : Fin 256,τ = .ex (.int .u8 ((z.val : Nat) : Int))):=(rd_int ht).mono fun τ v ⟨z,hz,e⟩ hv=>by
  have h0 : (0 : Int) ≤ z:=of_decide_eq_true (Bool.and_eq_true_iff.1 hz).1
  have h1 : z ≤ 255:=of_decide_eq_true (Bool.and_eq_true_iff.1 hz).2
  refine ⟨τ,⟨⟨z.toNat,by omega⟩,?_⟩,hv⟩
  rw [e];show _ = MT.ex (.int .u8 ((z.toNat : Nat) : Int));rw [Int.toNat_of_nonneg h0]
theorem cells_get {a : Addr} {n : Nat} {L : List Value} (h : W.cells? 0 a n = some L) : L.length = n ∧ ∀ j,j < n → W.cell? (a.add j) = L[j]?:=by
  unfold World.cells? at h
  rw [if_pos (Nat.zero_le _)] at h
  exact ⟨by simpa using mapM_some_length h,fun j hj=>mapM_some_get h j j (by simp [hj])⟩
theorem weightsAll_mem {H : Type} {es : List (DataW H)} {d : DataW H} {i : Nat} (hi : es[i]? = some d) : ∀ n ∈ d.weights P e,n ∈ DataW.weightsAll P e es:=by
  induction es generalizing i with
  | nil=>simp at hi
  | cons x r ih =>
    intro n hn
    rw [DataW.weightsAll,List.mem_append]
    cases i with
    | zero=>simp at hi;subst hi;exact .inl hn
    | succ j=>exact .inr (ih (by simpa using hi) n hn)
theorem rd_sliceB (ht : P.underlying t = some (.slice e)) (hc : P.cellsOf e = k.getD 1) (hc0 : 0 < k.getD 1) (hb : 4 ≤ P.bytesOf e) (h : RdA P W e k A) : RdA P W t none (fun τ=>∃ τs,(∀ σ ∈ τs,A σ) ∧ τs.length * P.bytesOf e ≤ 140737488351232 ∧ τ = LS k τs):=fun H enc fuel cs x hx hw=>by
  rcases DataW.trod_slice ht hx with ⟨rfl,rfl⟩ | ⟨a,len,cap,elems,rest,n,rfl,rfl,rfl,hb0,hlc,hcm,hel,hE,_,_⟩
  · exact ⟨.slice none 0 0,LS k [],⟨[],by simp,by simp,rfl⟩,rfl,⟨rfl,rfl⟩,LS.nil⟩
  · simp only [DataW.weights,ht,List.all_cons,List.all_append,Bool.and_eq_true,decide_eq_true_eq] at hw
    obtain ⟨hw1,hw2,_⟩:=hw
    have hlim : len ≤ LIM:=by
      have h1 : len * 4 ≤ ((elems.map (·.1)).length + (rest.map (·.1)).length) * P.bytesOf e:=Nat.mul_le_mul (by simp;omega) hb
      have h2 : reachBytes = 140737488351232:=rfl
      simp only [LIM];omega
    have hby : len * P.bytesOf e ≤ 140737488351232:=by
      have h1 : len * P.bytesOf e ≤ ((elems.map (·.1)).length + (rest.map (·.1)).length) * P.bytesOf e:=Nat.mul_le_mul_right _ (by simp;omega)
      have h2 : reachBytes = 140737488351232:=rfl
      omega
    have each : ∀ i,∃ (v : Value) (τ : MT),i < len → W.cells? 0 (a.add (i * k.getD 1)) (k.getD 1) = some v.cells.toList ∧ A τ ∧ Shaped k v ∧ τ.t v (G0of W):=fun i=>by
      by_cases hi : i < len
      · have h1:=hE i hi
        rw [List.getElem?_eq_getElem (by omega),Option.bind_eq_some_iff,hc] at h1
        obtain ⟨cs',h2,h3⟩:=h1
        obtain ⟨v,τ,h4,h5,h6,h7⟩:=h H enc n cs' _ h3 (List.all_eq_true.2 fun m hm=>List.all_eq_true.1 hw2 m (weightsAll_mem (i:=i) (by rw [List.getElem?_map,List.getElem?_eq_getElem (by omega)];rfl) m hm))
        exact ⟨v,τ,fun _=>⟨by rw [h5];exact h2,h4,h6,h7⟩⟩
      · exact ⟨undef,.ex undef,fun h=>absurd h hi⟩
    obtain ⟨f,g,hfg⟩ : ∃ (f : Nat → Value) (g : Nat → MT),∀ i,i < len → W.cells? 0 (a.add (i * k.getD 1)) (k.getD 1) = some (f i).cells.toList ∧ A (g i) ∧ Shaped k (f i) ∧ (g i).t (f i) (G0of W):=⟨fun i=>(each i).choose,fun i=>(each i).choose_spec.choose,fun i=>(each i).choose_spec.choose_spec⟩
    refine ⟨.slice (some a) len cap,LS k ((List.range len).map g),⟨_,fun σ hσ=>?_,by simpa using hby,rfl⟩,rfl,⟨rfl,rfl⟩,LS.of_vals (us:=(List.range len).map f) (A:=some a) (c:=cap) (by simp) (by simpa using hlc) (by simpa using hlim) ⟨by simp,fun i τ u hi hu=>?_⟩ fun i u hu=>?_⟩
    · obtain ⟨i,hi,rfl⟩:=List.mem_map.1 hσ
      exact (hfg i (by simpa using hi)).2.1
    · have hlt : i < len:=by have:=(List.getElem?_eq_some_iff.1 hi).1;simpa using this
      simp [List.getElem?_range hlt] at hi hu
      subst hi;subst hu
      exact (hfg i hlt).2.2
    · have hlt : i < len:=by have:=(List.getElem?_eq_some_iff.1 hu).1;simpa using this
      simp [List.getElem?_range hlt] at hu
      subst hu
      obtain ⟨h1,h2,h3,h4⟩:=hfg i hlt
      obtain ⟨h5,h6⟩:=cells_get h1
      obtain ⟨g5,g6⟩:=cells_get (hfg 0 (by omega)).1
      obtain ⟨b,off,spot⟩:=a
      have h7:=g6 0 hc0
      rw [List.getElem?_eq_getElem (by omega)] at h7
      have hs : spot = none:=by simpa [Addr.add] using World.cell?_spot h7
      subst hs
      refine ⟨b,off,rfl,fun j x hj=>?_⟩
      have hjl : j < k.getD 1:=by have:=(Array.getElem?_eq_some_iff.1 hj).1;rw [← h5,Array.length_toList];exact this
      have h8:=h6 j hjl
      rw [Gc_G0]
      rw [addr_add,addr_add,Array.getElem?_toList,hj] at h8
      exact h8
theorem rd_slice (ht : P.underlying t = some (.slice e)) (hc : P.cellsOf e = k.getD 1) (hc0 : 0 < k.getD 1) (hb : 4 ≤ P.bytesOf e) (h : RdA P W e k A) : RdA P W t none (fun τ=>∃ τs,(∀ σ ∈ τs,A σ) ∧ τ = LS k τs) :=
  (rd_sliceB ht hc hc0 hb h).mono fun τ v ⟨τs,h1,_,h2⟩ hv=>⟨τ,⟨τs,h1,h2⟩,hv⟩
theorem forall_map {α : Type} {T : α → MT} {τs : List MT} (h : ∀ σ ∈ τs,∃ x,σ = T x) : ∃ xs : List α,τs = xs.map T:=by
  induction τs with
  | nil=>exact ⟨[],rfl⟩
  | cons a r ih =>
    obtain ⟨l,rfl⟩:=ih fun σ h'=>h σ (List.mem_cons_of_mem _ h')
    obtain ⟨x,rfl⟩:=h a (List.mem_cons_self ..)
    exact ⟨x :: l,rfl⟩
theorem forall_map' {α : Type} {T : α → MT} {p : α → Prop} {τs : List MT} (h : ∀ σ ∈ τs,∃ x,p x ∧ σ = T x) : ∃ xs : List α,τs = xs.map T ∧ ∀ x ∈ xs,p x:=by
  induction τs with
  | nil=>exact ⟨[],rfl,by simp⟩
  | cons a r ih =>
    obtain ⟨l,rfl,hl⟩:=ih fun σ h'=>h σ (List.mem_cons_of_mem _ h')
    obtain ⟨x,hx,rfl⟩:=h a (List.mem_cons_self ..)
    exact ⟨x :: l,rfl,by simpa using ⟨hx,hl⟩⟩
theorem rd_words (ht : P.underlying t = some (.slice e)) (hu : P.underlying e = some (.int .u32)) (hc : P.cellsOf e = 1) (hb : 4 ≤ P.bytesOf e) : RdA P W t none (fun τ=>∃ l,τ = SL l):=by
  have h1 : RdA P W e none (fun τ=>∃ x : Nat,x < 4294967296 ∧ τ = .ex (u32 x)):=(rd_int hu).mono fun τ v ⟨z,hz,hτ⟩ hv=>by
    subst hτ
    have hm : IntKind.u32.min = 0:=by decide
    have hM : IntKind.u32.max = 4294967295:=by decide
    simp [Lit.wf,hm,hM] at hz
    exact ⟨_,⟨z.toNat,by omega,rfl⟩,by
      have : (z.toNat : Int) = z:=by omega
      show v = .int .u32 (z.toNat : Int);rw [this];exact hv⟩
  refine (rd_slice (k:=none) ht hc (by decide) hb h1).mono fun τ v ⟨τs,hσ,hτ⟩ hv=>?_
  subst hτ
  obtain ⟨l,hl,hlt⟩:=forall_map' hσ
  subst hl
  obtain ⟨A,c,us,h2,h3,h4,h5,h6⟩:=LS.vals hv
  rw [List.length_map] at h2 h3 h4
  refine ⟨_,⟨l,rfl⟩,A,c,h2,h3,h4,hlt,fun i x hi=>?_⟩
  have hil:=(List.getElem?_eq_some_iff.1 hi).1
  have hul : i < us.length:=by rw [h5.1,List.length_map];exact hil
  have hui : us[i]? = some us[i]:=by rw [List.getElem?_eq_getElem hul]
  have h7:=(h5.2 i (.ex (u32 x)) us[i] (by rw [List.getElem?_map,hi];rfl) hui).2
  obtain ⟨b,off,e1,h8⟩:=h6 i us[i] hui
  refine ⟨b,off,e1,?_⟩
  have h9 : us[i] = u32 x:=h7
  rw [h9] at h8
  simpa using h8 0 (u32 x) rfl
def FldOk (P : Program) (W : World) : Nat → List Field → List (Option Nat × (MT → Prop)) → Prop
  | _,[],[]=>True
  | off,f :: fs,a :: As=>f.offset = off ∧ P.cellsOf f.type = a.1.getD 1 ∧ RdA P W f.type a.1 a.2 ∧ FldOk P W (off + a.1.getD 1) fs As
  | _,_,_=>False
def Mt : List (Option Nat × (MT → Prop)) → List (Option Nat × MT) → Prop
  | [],[]=>True
  | a :: As,f :: F=>f.1 = a.1 ∧ a.2 f.2 ∧ Mt As F
  | _,_=>False
def tot (As : List (Option Nat × (MT → Prop))) : Nat:=(As.map fun a=>a.1.getD 1).sum
theorem Mt.tot : ∀ {As : List (Option Nat × (MT → Prop))} {F : List (Option Nat × MT)},Mt As F → (F.map fun f=>f.1.getD 1).sum = Go.Proofs.YtnjbcjmkkejfpaaGreat.tot As
  | [],[],_=>rfl
  | a :: As,f :: F,h=>by
    have:=Mt.tot h.2.2
    simp only [Go.Proofs.YtnjbcjmkkejfpaaGreat.tot,List.map_cons,List.sum_cons,h.1] at this ⊢
    rw [this]
  | [],_ :: _,h=>h.elim
  | _ :: _,[],h=>h.elim
theorem rd_fields {H : Type} {enc : TypeId × Value → H} {n : Nat} {cs : List Value} : ∀ (fs : List Field) (As : List (Option Nat × (MT → Prop))) (xs : List (DataW H × List MemPlace)) (off : Nat), FldOk P W off fs As → xs.length = fs.length →
    (∀ (i : Nat) (f : Field),fs[i]? = some f → DataW.trod enc P W 0 (fun _=>true) true n f.type ((cs.drop f.offset).take (P.cellsOf f.type)) = xs[i]?) → (DataW.weightsEach P (fs.map (·.type)) (xs.map (·.1))).all (· ≤ reachBytes) = true → cs.length = off + tot As →
    ∃ us F,Mt As F ∧ flat us = cs.drop off ∧ us.length = F.length ∧ ∀ (i : Nat) (f : Option Nat × MT) (u : Value),F[i]? = some f → us[i]? = some u → Shaped f.1 u ∧ f.2.t u (G0of W)
  | [],[],xs,off,_,_,_,_,hl=>⟨[],[],trivial,by rw [List.drop_eq_nil_of_le (by rw [hl];simp [tot])];rfl,rfl,fun i f u h=>by simp at h⟩
  | f :: fs,a :: As,[],off,_,hx,_,_,_=>by simp at hx
  | f :: fs,a :: As,x :: xs,off,hF,hx,hT,hw,hl=>by
    obtain ⟨h1,h2,h3,h4⟩:=hF
    simp only [List.map_cons,DataW.weightsEach,List.all_append,Bool.and_eq_true] at hw
    obtain ⟨v,τ,h5,h6,h7,h8⟩:=h3 H enc n _ x (hT 0 f rfl) hw.1
    obtain ⟨us,F,g1,g2,g3,g4⟩:=rd_fields fs As xs (off + a.1.getD 1) h4 (by simpa using hx) (fun i g hg=>by simpa using hT (i + 1) g (by simpa using hg)) hw.2 (by rw [hl];simp [tot];omega)
    refine ⟨v :: us,(a.1,τ) :: F,⟨rfl,h5,g1⟩,?_,by simp [g3],fun i f' u hf hu=>?_⟩
    · rw [flat_cons,h6,g2,h1,h2,← List.drop_drop,List.take_append_drop]
    · cases i with
      | zero=>simp at hf hu;subst hf;subst hu;exact ⟨h7,h8⟩
      | succ i=>exact g4 i f' u (by simpa using hf) (by simpa using hu)
  | [],_ :: _,_,_,h,_,_,_,_=>h.elim
  | _ :: _,[],_,_,h,_,_,_,_=>h.elim
theorem rd_struct {fs : Array Field} {As : List (Option Nat × (MT → Prop))} {n : Nat} (ht : P.underlying t = some (.struct fs)) (hn : P.cellsOf t = n) (hnA : tot As = n) (hF : FldOk P W 0 fs.toList As) : RdA P W t (some n) (fun τ=>∃ F,Mt As F ∧ τ = PTS F):=fun H enc fuel cs x hx hw=>by
  obtain ⟨xs,m,rfl,rfl,hl,hxl,hT⟩:=DataW.trod_struct ht hx
  simp only [DataW.weights,ht] at hw
  obtain ⟨us,F,h1,h2,h3,h4⟩:=rd_fields fs.toList As xs 0 hF (by simpa using hxl) (fun i f hf=>hT i f (by simpa using hf)) hw (by omega)
  have hP : (PTS F).t (.agg (flat us).toArray) (G0of W):=⟨us,rfl,h3,h4⟩
  refine ⟨.agg (flat us).toArray,PTS F,⟨F,h1,rfl⟩,by rw [h2];rfl,PTS.shaped (by unfold offs;rw [List.take_length,h1.tot,hnA]) hP,hP⟩
theorem shaped1 {u : Value} (h : Shaped none u) : u.cells = #[u]:=h.1
theorem PTS.toQR {s : Bool} {p q : List Nat} {v : Value} {G : Gh} (h : (PTS [(none,.ex (.bool s)),(none,SL p),(none,SL q)]).t v G) : (QR s p q).t v G:=by
  obtain ⟨us,rfl,hl,h⟩:=h
  match us,hl,h with
  | [u0,u1,u2],_,h =>
    obtain ⟨a0,b0⟩:=h 0 _ u0 rfl rfl
    obtain ⟨a1,b1⟩:=h 1 _ u1 rfl rfl
    obtain ⟨a2,b2⟩:=h 2 _ u2 rfl rfl
    refine ⟨u1,u2,?_,b1,b2⟩
    have e0 : u0 = .bool s:=b0
    simp only [flat,List.flatMap_cons,List.flatMap_nil,shaped1 a0,shaped1 a1,shaped1 a2]
    rw [e0];rfl
theorem rd_frac {fs : Array Field} {f0 f1 f2 : Field} {tw : TypeId} (ht : P.underlying t = some (.struct fs)) (hf : fs.toList = [f0, f1, f2]) (hn : P.cellsOf t = 3) (h0 : f0.offset = 0 ∧ P.cellsOf f0.type = 1 ∧ P.underlying f0.type = some .bool) (h1 : f1.offset = 1 ∧ f1.type = tw) (h2 : f2.offset = 2 ∧ f2.type = tw)
    (hw : P.underlying tw = some (.slice e) ∧ P.cellsOf tw = 1) (he : P.underlying e = some (.int .u32) ∧ P.cellsOf e = 1 ∧ 4 ≤ P.bytesOf e) : RdA P W t (some 3) (fun τ=>∃ r : FR,τ = QR r.s r.p r.q):=by
  have hW : RdA P W tw none (fun τ=>∃ l,τ = SL l):=rd_words hw.1 he.1 he.2.1 he.2.2
  refine (rd_struct (As:=[(none,fun τ=>∃ b,τ = .ex (.bool b)),(none,fun τ=>∃ l,τ = SL l),(none,fun τ=>∃ l,τ = SL l)]) ht hn rfl (by
    rw [hf];exact ⟨h0.1,h0.2.1,rd_bool h0.2.2,h1.1,by rw [h1.2];exact hw.2,by rw [h1.2];exact hW,h2.1,by rw [h2.2];exact hw.2,by rw [h2.2];exact hW,trivial⟩)).mono fun τ v ⟨F,hM,hτ⟩ hv=>?_
  subst hτ
  match F,hM with
  | [a,b,c],⟨a1,⟨s,a2⟩,b1,⟨p,b2⟩,c1,⟨q,c2⟩,_⟩ =>
    obtain ⟨a0,a'⟩:=a;obtain ⟨b0,b'⟩:=b;obtain ⟨c0,c'⟩:=c
    simp only at a1 a2 b1 b2 c1 c2
    subst a1;subst a2;subst b1;subst b2;subst c1;subst c2
    exact ⟨_,⟨⟨s,p,q⟩,rfl⟩,PTS.toQR hv⟩
theorem rd_list {α : Type} {T : α → MT} (ht : P.underlying t = some (.slice e)) (hc : P.cellsOf e = k.getD 1) (hc0 : 0 < k.getD 1) (hb : 4 ≤ P.bytesOf e) (h : RdA P W e k (fun τ=>∃ x,τ = T x)) : RdA P W t none (fun τ=>∃ xs : List α,τ = LS k (xs.map T)) :=
  (rd_slice ht hc hc0 hb h).mono fun τ v ⟨τs,hσ,hτ⟩ hv=>by
    obtain ⟨xs,rfl⟩:=forall_map hσ
    subst hτ
    exact ⟨_,⟨xs,rfl⟩,hv⟩
theorem rd_listB {α : Type} {T : α → MT} {c : Nat} (ht : P.underlying t = some (.slice e)) (hc : P.cellsOf e = k.getD 1) (hc0 : 0 < k.getD 1) (hb : 4 ≤ P.bytesOf e) (hbc : P.bytesOf e = c) (h : RdA P W e k (fun τ=>∃ x,τ = T x)) : RdA P W t none (fun τ=>∃ xs : { xs : List α // xs.length * c ≤ 140737488351232 },τ = LS k (xs.1.map T)) :=
  (rd_sliceB ht hc hc0 hb h).mono fun τ v ⟨τs,hσ,hl,hτ⟩ hv=>by
    obtain ⟨xs,rfl⟩:=forall_map hσ
    subst hτ
    rw [List.length_map,hbc] at hl
    exact ⟨_,⟨⟨xs,hl⟩,rfl⟩,hv⟩
theorem rd_arg {H : Type} {enc : TypeId × Value → H} {v : Value} {d : DataW H} {ps : List MemPlace} (h : RdA P W t k A) (hd : DataW.Trod enc P W 0 (fun _ => true) true t v d ps) (hw : (d.weights P t).all (· ≤ reachBytes) = true)
    (hv : match k with | none=>v.cells = #[v] | some _=>∃ cs,v = .agg cs) : ∃ τ,A τ ∧ Shaped k v ∧ τ.t v (G0of W):=by
  obtain ⟨fuel,hf⟩:=hd
  obtain ⟨u,τ,h1,h2,h3,h4⟩:=h H enc fuel _ _ hf hw
  have : u = v:=by
    cases k with
    | none =>
      have h5 : u.cells = #[u]:=h3.1
      rw [h5,hv] at h2
      simpa using h2
    | some n =>
      obtain ⟨cs,rfl⟩:=hv
      obtain ⟨cs',rfl,_⟩:=h3
      have : cs'.toList = cs.toList:=h2
      rw [Array.toList_inj.1 this]
  subst this
  exact ⟨τ,h1,h3,h4⟩
end
end Go.Proofs.YtnjbcjmkkejfpaaGreat
