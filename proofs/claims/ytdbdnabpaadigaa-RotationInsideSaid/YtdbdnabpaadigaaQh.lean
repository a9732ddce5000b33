import Derived.Test.YtdbdnabpaadigaaQg
set_option linter.unusedVariables false
set_option linter.unusedSimpArgs false
set_option linter.unusedVariables false
set_option linter.unusedSimpArgs false
set_option maxHeartbeats 4000000
set_option maxRecDepth 100000
set_option synthInstance.maxSize 100000
set_option synthInstance.maxHeartbeats 400000
namespace Go.Proofs.Ytdbdnabpaadigaa
open Go.RowKit (Below)
attribute [local irreducible] Go.Code.wp Go.wpList Go.bodyPost
private theorem gS_ {W0 : World} {G0 : Gh} {N : Nat} {L : List (Nat × MT)} {B : List BX} {a : Act} {w : World} {G : Gh} {q : Prop} (h : St W0 G0 N L B a w G → q) : St W0 G0 N L B a w G → q:=h
private theorem gL_ {p : Prop} {P : Program} {arr : Array Oper} {Q : Exit → Act → World → Prop} {l : List Oper} {a : Act} {w : World} (h : p → wpList P arr Q l a w) : p → wpList P arr Q l a w:=h
private theorem gC_ {p : Prop} {P : Program} {c : Code} {Q : Exit → Act → World → Prop} {a : Act} {w : World} (h : p → c.wp P Q a w) : p → c.wp P Q a w:=h
private theorem mixedOrders : Try.prog.follows .mixedOrders = true:=by kernel_rfl
theorem ex_gap : gapC (FR.of 16) (FR.of 1) (FR.of 9) (FR.of 9) (FR.of (-1)) = 0:=by
  unfold gapC
  rw [ex_chk,if_pos rfl,FR.of_ok,if_pos rfl,FR.of_val]
  decide
theorem ex_near : nearF (FR.of 16) (FR.of 1) (FR.of 9) (FR.of 9) (-1) = 1:=by
  unfold nearF
  rw [FR.of_val,FR.of_val,FR.of_val]
  decide +kernel
theorem ex_far : farF (FR.of 16) (FR.of 1) (FR.of 9) (FR.of 9) (-1) = 1:=by
  unfold farF
  rw [FR.of_val,FR.of_val,FR.of_val]
  decide +kernel
theorem ex_full : fullF (FR.of 16) (FR.of 1) (FR.of 9) (FR.of 9) = true:=by
  have h : nearF (FR.of 16) (FR.of 1) (FR.of 9) (FR.of 9) 1 = 1:=by
    unfold nearF
    rw [FR.of_val,FR.of_val,FR.of_val]
    decide +kernel
  unfold fullF
  rw [ex_chk,ex_far,h];rfl
theorem ex_lim : limL (FR.of 16) (FR.of 1) (FR.of 9) (FR.of 9) = []:=by
  have h : (limK (FR.of 16) (FR.of 1)).filter (fun u=>limI (FR.of 16) (FR.of 1) (FR.of 9) (FR.of 9) u) = []:=by
    unfold limI limK limA
    rw [FR.of_val,FR.of_val,FR.of_val]
    decide +kernel
  unfold limL limJ
  rw [ex_chk,if_pos rfl,show (limK (FR.of 16) (FR.of 1)).take 2 = limK (FR.of 16) (FR.of 1) from rfl,h];rfl
attribute [local irreducible] plusF minusF joinF levI lev PW RLN tB sB timesF stepF tmF normF TOK sgL surdsF chkF gapC fullF nearF farF limL limJ
instance  : Con Try.prog 4 [] (True) (BT true):=.o0 fun hok  hp=>by
  refine St.enter (N:=53) Try.func4 rfl rfl rfl hok enter0 fun a=>?_
  repeat' (first | ((with_reducible refine gS_ ?_);first | ((with_reducible refine gL_ ?_);first | refine W.run ?_ fun a w G=>?_ | refine W.mv fun a w G=>?_ | refine W.asg fun a w G=>?_ | refine W.bx fun b a w G=>?_ | (refine W.nn hK ?_;clear hK K) | refine W.nl ?_ | refine W.al fun b a w G=>?_ | refine W.st fun w=>?_ | refine W.stp fun w=>?_ | refine W.ste ?_ fun w=>?_) | ((with_reducible refine gC_ ?_);first | refine W.reg fun K hK=>?_ | refine W.reg1 ?_ | refine W.sq fun K hK=>?_ | refine W.ds ?_ (fun β a w G hu=>W.fin ?_ hu) mixedOrders (by kernel_rfl) | refine W.sk ?_ | refine W.cd (fun hc=>?_) (fun hc=>?_) | refine W.cb (fun hc=>?_) (fun hc=>?_) | refine W.bl ?_ | refine W.ex ?_ | refine W.rt ?_) | ((with_reducible refine W.kn hK ?_);clear hK K) | with_reducible refine W.bn ?_ | with_reducible refine W.xt ?_ | with_reducible refine W.xb ?_ | with_reducible refine W.xo ?_ | with_reducible refine W.tr ?_ | with_reducible refine W.br ?_ | refine W.rt1 rfl ?_ | refine W.rt2 rfl ?_ ?_ | refine W.rt3 rfl ?_ ?_ ?_) | clear hK K | clear hu | exact True.intro | exact Nat.le_trans (by clear hp;omega) hp | exact Nat.le_trans (by clear hp;omega) hp.1 | exact Nat.le_trans (by clear hp;omega) hp.2 | (clear hp;omega) | apply And.intro | refine GI.i fun _=>?_ | with_reducible rfl | decide | (simp only [List.length_cons,List.length_nil];omega))
  all_goals first
    | (rw [ex_gap,ex_chk,FR.of_val,if_pos rfl,if_pos rfl,ex_near,ex_far,ex_full,ex_lim];rfl)
    | (simp only [ex_gap,ex_chk,FR.of_val,if_true,ex_near,ex_far,ex_full,ex_lim];decide)
    | decide
    | skip
end Go.Proofs.Ytdbdnabpaadigaa
