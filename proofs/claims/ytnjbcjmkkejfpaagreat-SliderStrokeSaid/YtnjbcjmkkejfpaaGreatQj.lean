import Derived.Test.YtnjbcjmkkejfpaaGreatQi
set_option linter.unusedVariables false
set_option linter.unusedSimpArgs false
set_option linter.unusedVariables false
set_option linter.unusedSimpArgs false
set_option maxHeartbeats 4000000
set_option maxRecDepth 100000
set_option synthInstance.maxSize 100000
set_option synthInstance.maxHeartbeats 400000
namespace Go.Proofs.YtnjbcjmkkejfpaaGreat
open Go.RowKit (Below)
attribute [local irreducible] Go.Code.wp Go.wpList Go.bodyPost
private theorem gS_ {W0 : World} {G0 : Gh} {N : Nat} {L : List (Nat × MT)} {B : List BX} {a : Act} {w : World} {G : Gh} {q : Prop} (h : St W0 G0 N L B a w G → q) : St W0 G0 N L B a w G → q:=h
private theorem gL_ {p : Prop} {P : Program} {arr : Array Oper} {Q : Exit → Act → World → Prop} {l : List Oper} {a : Act} {w : World} (h : p → wpList P arr Q l a w) : p → wpList P arr Q l a w:=h
private theorem gC_ {p : Prop} {P : Program} {c : Code} {Q : Exit → Act → World → Prop} {a : Act} {w : World} (h : p → c.wp P Q a w) : p → c.wp P Q a w:=h
private theorem mixedOrders : Tryz.prog.follows .mixedOrders = true:=by kernel_rfl
attribute [local irreducible] slF slEC slC
theorem slec_e {a b e : FR} (h : slEC a b e ≠ 0) {l : List Rat} : slEL a b e l = []:=if_neg h
theorem w25 {n : Nat} {ra rb re : FR} : Con Tryz.prog 25 [PTS [(some 3,FX n ra),(some 3,FX n rb),(some 3,FX n re)]] (20000 * n + 500000 ≤ BIG) (MT.tup3 (TWR (10 * n + 200) (slET ra rb re)) (NM 64 (slEL ra rb re stL)) (.ex (errV 46 (slEC ra rb re)))):=.o1 fun hok h1 hp=>by
  refine St.enter (N:=24) Tryz.func25 rfl rfl rfl hok (enter1 h1) fun a=>?_
  repeat' (first|with_reducible refine X.fz 21 [(2,-1),(4,1)] (X.mpe2 (by decide)) fun G=>?_|with_reducible refine X.fz 21 [(2,-1),(4,1)] (X.mpe2' (by decide)) fun G=>?_|((with_reducible refine gS_ ?_);first|((with_reducible refine gL_ ?_);first|refine W.run ?_ fun a w G=>?_|refine W.mv fun a w G=>?_|refine W.asg fun a w G=>?_|refine W.bx fun b a w G=>?_|(refine W.nn hK ?_;clear hK K)|refine W.nl ?_|refine W.al fun b a w G=>?_|refine W.st fun w=>?_|refine W.stp fun w=>?_|refine W.ste ?_ fun w=>?_)|((with_reducible refine gC_ ?_);first|refine W.anyS mixedOrders 9 rfl fun w=>?_|refine W.reg fun K hK=>?_|refine W.reg1 ?_|refine W.sq fun K hK=>?_|refine W.ds ?_ (fun β a w G hu=>W.fin ?_ hu) mixedOrders (by kernel_rfl)|refine W.sk ?_|refine W.cd (fun hc=>?_) (fun hc=>?_)|refine W.cb (fun hc=>?_) (fun hc=>?_)|refine W.bl ?_|refine W.ex ?_|refine W.rt ?_)|((with_reducible refine W.kn hK ?_);clear hK K)|(with_reducible first|refine W.bn ?_|refine W.xt ?_|refine W.xb ?_|refine W.xo ?_|refine W.tr ?_|refine W.br ?_)|refine W.rt1 rfl ?_|refine W.rt2 rfl ?_ ?_|refine W.rt3 rfl ?_ ?_ ?_)|refine X.mk fun r a w G=>?_|refine X.ins ?_ fun w=>?_|refine X.op ?_ fun a w G=>?_|with_reducible refine W.any2 [] 0 1 (by kernel_rfl) ?_ ?_|with_reducible refine W.any1 [0] 1 (by kernel_rfl) ?_|with_reducible refine W.any2 [1,0] 2 3 (by kernel_rfl) ?_ ?_|with_reducible refine W.any1 [2,1,0] 3 (by kernel_rfl) ?_|with_reducible refine W.any1 [3,2,1,0] 4 (by kernel_rfl) ?_|with_reducible refine W.any1 [4,3,2,1,0] 5 (by kernel_rfl) ?_|with_reducible refine W.any1 [5,4,3,2,1,0] 6 (by kernel_rfl) ?_|with_reducible refine W.any1 [6,5,4,3,2,1,0] 7 (by kernel_rfl) ?_|with_reducible refine W.any1 [7,6,5,4,3,2,1,0] 8 (by kernel_rfl) ?_|with_reducible refine W.anyE [8,7,6,5,4,3,2,1,0] (by kernel_rfl) ?_|with_reducible refine W.any1 [3,1,0] 2 (by kernel_rfl) ?_|with_reducible refine W.any1 [2,3,1,0] 4 (by kernel_rfl) ?_|with_reducible refine W.any1 [4,2,3,1,0] 5 (by kernel_rfl) ?_|with_reducible refine W.any1 [5,4,2,3,1,0] 6 (by kernel_rfl) ?_|with_reducible refine W.any1 [6,5,4,2,3,1,0] 7 (by kernel_rfl) ?_|with_reducible refine W.any1 [7,6,5,4,2,3,1,0] 8 (by kernel_rfl) ?_|with_reducible refine W.anyE [8,7,6,5,4,2,3,1,0] (by kernel_rfl) ?_|with_reducible refine W.any3 [1] 0 2 3 (by kernel_rfl) ?_ ?_ ?_|with_reducible refine W.any2 [0,1] 2 3 (by kernel_rfl) ?_ ?_|with_reducible refine W.any1 [2,0,1] 3 (by kernel_rfl) ?_|with_reducible refine W.any1 [3,2,0,1] 4 (by kernel_rfl) ?_|with_reducible refine W.any1 [4,3,2,0,1] 5 (by kernel_rfl) ?_|with_reducible refine W.any1 [5,4,3,2,0,1] 6 (by kernel_rfl) ?_|with_reducible refine W.any1 [6,5,4,3,2,0,1] 7 (by kernel_rfl) ?_|with_reducible refine W.any1 [7,6,5,4,3,2,0,1] 8 (by kernel_rfl) ?_|with_reducible refine W.anyE [8,7,6,5,4,3,2,0,1] (by kernel_rfl) ?_|with_reducible refine W.any1 [3,0,1] 2 (by kernel_rfl) ?_|with_reducible refine W.any1 [2,3,0,1] 4 (by kernel_rfl) ?_|with_reducible refine W.any1 [4,2,3,0,1] 5 (by kernel_rfl) ?_|with_reducible refine W.any1 [5,4,2,3,0,1] 6 (by kernel_rfl) ?_|with_reducible refine W.any1 [6,5,4,2,3,0,1] 7 (by kernel_rfl) ?_|with_reducible refine W.any1 [7,6,5,4,2,3,0,1] 8 (by kernel_rfl) ?_|with_reducible refine W.anyE [8,7,6,5,4,2,3,0,1] (by kernel_rfl) ?_|with_reducible refine W.any2 [2,1] 0 3 (by kernel_rfl) ?_ ?_|with_reducible refine W.any1 [0,2,1] 3 (by kernel_rfl) ?_|with_reducible refine W.any1 [3,0,2,1] 4 (by kernel_rfl) ?_|with_reducible refine W.any1 [4,3,0,2,1] 5 (by kernel_rfl) ?_|with_reducible refine W.any1 [5,4,3,0,2,1] 6 (by kernel_rfl) ?_|with_reducible refine W.any1 [6,5,4,3,0,2,1] 7 (by kernel_rfl) ?_|with_reducible refine W.any1 [7,6,5,4,3,0,2,1] 8 (by kernel_rfl) ?_|with_reducible refine W.anyE [8,7,6,5,4,3,0,2,1] (by kernel_rfl) ?_|with_reducible refine W.any2 [3,2,1] 0 4 (by kernel_rfl) ?_ ?_|with_reducible refine W.any1 [0,3,2,1] 4 (by kernel_rfl) ?_|with_reducible refine W.any1 [4,0,3,2,1] 5 (by kernel_rfl) ?_|with_reducible refine W.any1 [5,4,0,3,2,1] 6 (by kernel_rfl) ?_|with_reducible refine W.any1 [6,5,4,0,3,2,1] 7 (by kernel_rfl) ?_|with_reducible refine W.any1 [7,6,5,4,0,3,2,1] 8 (by kernel_rfl) ?_|with_reducible refine W.anyE [8,7,6,5,4,0,3,2,1] (by kernel_rfl) ?_|with_reducible refine W.any2 [4,3,2,1] 0 5 (by kernel_rfl) ?_ ?_|with_reducible refine W.any1 [0,4,3,2,1] 5 (by kernel_rfl) ?_|with_reducible refine W.any1 [5,0,4,3,2,1] 6 (by kernel_rfl) ?_|with_reducible refine W.any1 [6,5,0,4,3,2,1] 7 (by kernel_rfl) ?_|with_reducible refine W.any1 [7,6,5,0,4,3,2,1] 8 (by kernel_rfl) ?_|with_reducible refine W.anyE [8,7,6,5,0,4,3,2,1] (by kernel_rfl) ?_|with_reducible refine W.any1 [5,4,3,2,1] 0 (by kernel_rfl) ?_|with_reducible refine W.any1 [0,5,4,3,2,1] 6 (by kernel_rfl) ?_|with_reducible refine W.any1 [6,0,5,4,3,2,1] 7 (by kernel_rfl) ?_|with_reducible refine W.any1 [7,6,0,5,4,3,2,1] 8 (by kernel_rfl) ?_|with_reducible refine W.anyE [8,7,6,0,5,4,3,2,1] (by kernel_rfl) ?_|with_reducible refine W.any2 [3,1] 0 2 (by kernel_rfl) ?_ ?_|with_reducible refine W.any1 [0,3,1] 2 (by kernel_rfl) ?_|with_reducible refine W.any1 [2,0,3,1] 4 (by kernel_rfl) ?_|with_reducible refine W.any1 [4,2,0,3,1] 5 (by kernel_rfl) ?_|with_reducible refine W.any1 [5,4,2,0,3,1] 6 (by kernel_rfl) ?_|with_reducible refine W.any1 [6,5,4,2,0,3,1] 7 (by kernel_rfl) ?_|with_reducible refine W.any1 [7,6,5,4,2,0,3,1] 8 (by kernel_rfl) ?_|with_reducible refine W.anyE [8,7,6,5,4,2,0,3,1] (by kernel_rfl) ?_|with_reducible refine W.any2 [2,3,1] 0 4 (by kernel_rfl) ?_ ?_|with_reducible refine W.any1 [0,2,3,1] 4 (by kernel_rfl) ?_|with_reducible refine W.any1 [4,0,2,3,1] 5 (by kernel_rfl) ?_|with_reducible refine W.any1 [5,4,0,2,3,1] 6 (by kernel_rfl) ?_|with_reducible refine W.any1 [6,5,4,0,2,3,1] 7 (by kernel_rfl) ?_|with_reducible refine W.any1 [7,6,5,4,0,2,3,1] 8 (by kernel_rfl) ?_|with_reducible refine W.anyE [8,7,6,5,4,0,2,3,1] (by kernel_rfl) ?_|with_reducible refine W.any2 [4,2,3,1] 0 5 (by kernel_rfl) ?_ ?_|with_reducible refine W.any1 [0,4,2,3,1] 5 (by kernel_rfl) ?_|with_reducible refine W.any1 [5,0,4,2,3,1] 6 (by kernel_rfl) ?_|with_reducible refine W.any1 [6,5,0,4,2,3,1] 7 (by kernel_rfl) ?_|with_reducible refine W.any1 [7,6,5,0,4,2,3,1] 8 (by kernel_rfl) ?_|with_reducible refine W.anyE [8,7,6,5,0,4,2,3,1] (by kernel_rfl) ?_|with_reducible refine W.any1 [5,4,2,3,1] 0 (by kernel_rfl) ?_|with_reducible refine W.any1 [0,5,4,2,3,1] 6 (by kernel_rfl) ?_|with_reducible refine W.any1 [6,0,5,4,2,3,1] 7 (by kernel_rfl) ?_|with_reducible refine W.any1 [7,6,0,5,4,2,3,1] 8 (by kernel_rfl) ?_|with_reducible refine W.anyE [8,7,6,0,5,4,2,3,1] (by kernel_rfl) ?_|refine W.anyO rfl rfl ?_|with_reducible refine W.anyN ?_|refine W.nl ?_|clear hK K|clear hu|exact True.intro|exact Nat.le_trans (by clear hp;omega) hp|exact Nat.le_trans (by clear hp;omega) hp.1|exact Nat.le_trans (by clear hp;omega) hp.2|(clear hp;omega)|apply And.intro|refine GI.i fun _=>?_|with_reducible rfl|decide|(simp only [List.length_cons,List.length_nil];omega))
  all_goals first
    | omega
    | (intro p hp;simp only [List.mem_cons,List.not_mem_nil,or_false] at hp;first | (subst hp;decide) | (rcases hp with hp | hp <;> subst hp <;> decide))
    | decide
    | (simp;done)
    | exact (slec_n (l:=[]) (by assumption)).1
    | exact (slec_n (l:=[]) (by assumption)).1.symm
    | exact slec_e (by assumption)
    | exact (slec_e (by assumption)).symm
    | (have hx : slEC ra rb re = 0 := Classical.not_not.1 (by assumption)
       first
       | exact hx
       | exact hx.symm
       | (rw [(slec_y hx).2];exact un_st)
       | skip)
    | skip
instance {n : Nat} {ra rb re : FR} {τ1 : MT} [j1 : NF τ1 (PTS [(some 3,FX n ra),(some 3,FX n rb),(some 3,FX n re)])] : Con Tryz.prog 25 [τ1] (20000 * n + 500000 ≤ BIG) (MT.tup3 (TWR (10 * n + 200) (slET ra rb re)) (NM 64 (slEL ra rb re stL)) (.ex (errV 46 (slEC ra rb re)))):=.o1 fun hok h1 hp=>w25.c1 hok (j1.h h1) hp
def slH (a b e x y z : FR) : Bool:=decide (cmpQ (x.val * x.val + y.val * y.val) a.val = 0) && decide (cmpQ ((x.val - z.val) * (x.val - z.val) + (y.val - e.val) * (y.val - e.val)) b.val = 0)
def slHC (a b e x y z : FR) : Int:=if slC a b e = 0 then (if x.ok && y.ok && z.ok then 0 else 2) else slC a b e
section
variable {a b e x y z : FR}
theorem slh_c (h : slC a b e ≠ 0) : slHC a b e x y z = slC a b e:=if_neg h
theorem slh_2 (h : ¬ slC a b e ≠ 0) (h2 : (!x.ok || !y.ok || !z.ok) = true) : slHC a b e x y z = 2:=by
  unfold slHC;rw [if_pos (by omega),if_neg];cases hx : x.ok <;> cases hy : y.ok <;> cases hz : z.ok <;> simp_all
theorem slh_0 (h : ¬ slC a b e ≠ 0) (h2 : (!x.ok || !y.ok || !z.ok) = false) : slHC a b e x y z = 0:=by
  unfold slHC;rw [if_pos (by omega),if_pos];cases hx : x.ok <;> cases hy : y.ok <;> cases hz : z.ok <;> simp_all
end
theorem w26 {n k l : Nat} {ra rb re rx ry rz : FR} : Con Tryz.prog 26 [PTS [(some 3,FX n ra),(some 3,FX n rb),(some 3,FX n re)],PTS [(some 3,FX k rx),(some 3,FX k ry)],FX l rz] (20000 * n + 20000 * k + 20000 * l + 500000 ≤ BIG) (MT.tup2 (BT (decide (slHC ra rb re rx ry rz = 0) && slH ra rb re rx ry rz)) (.ex (errV 46 (slHC ra rb re rx ry rz)))):=.o3 fun hok h1 h2 h3 hp=>by
  refine St.enter (N:=63) Tryz.func26 rfl rfl rfl hok (enter3 h1 h2 h3) fun a=>?_
  repeat' (first|((with_reducible refine gS_ ?_);first|((with_reducible refine gL_ ?_);first|refine W.run ?_ fun a w G=>?_|refine W.mv fun a w G=>?_|refine W.asg fun a w G=>?_|refine W.bx fun b a w G=>?_|(refine W.nn hK ?_;clear hK K)|refine W.nl ?_|refine W.al fun b a w G=>?_|refine W.st fun w=>?_|refine W.stp fun w=>?_|refine W.ste ?_ fun w=>?_)|((with_reducible refine gC_ ?_);first|refine W.reg fun K hK=>?_|refine W.reg1 ?_|refine W.sq fun K hK=>?_|refine W.ds ?_ (fun β a w G hu=>W.fin ?_ hu) mixedOrders (by kernel_rfl)|refine W.sk ?_|refine W.cd (fun hc=>?_) (fun hc=>?_)|refine W.cb (fun hc=>?_) (fun hc=>?_)|refine W.bl ?_|refine W.ex ?_|refine W.rt ?_)|((with_reducible refine W.kn hK ?_);clear hK K)|(with_reducible first|refine W.bn ?_|refine W.xt ?_|refine W.xb ?_|refine W.xo ?_|refine W.tr ?_|refine W.br ?_)|refine W.rt1 rfl ?_|refine W.rt2 rfl ?_ ?_|refine W.rt3 rfl ?_ ?_ ?_)|clear hK K|clear hu|exact True.intro|exact Nat.le_trans (by clear hp;omega) hp|exact Nat.le_trans (by clear hp;omega) hp.1|exact Nat.le_trans (by clear hp;omega) hp.2|(clear hp;omega)|apply And.intro|refine GI.i fun _=>?_|with_reducible rfl|decide|(simp only [List.length_cons,List.length_nil];omega))
  all_goals first
    | omega
    | (rw [slh_c (by assumption),decide_eq_false (by assumption)];rfl)
    | (rw [slh_c (by assumption),decide_eq_false hc];rfl)
    | exact slh_c (by assumption)
    | exact (slh_c (by assumption)).symm
    | exact slh_2 (by assumption) (by assumption)
    | exact (slh_2 (by assumption) (by assumption)).symm
    | exact slh_0 (by assumption) (by assumption)
    | exact (slh_0 (by assumption) (by assumption)).symm
    | (have h0:=slh_c (x:=rx) (y:=ry) (z:=rz) hc;rw [h0,decide_eq_false hc];rfl)
    | (rw [slh_2 (by assumption) (by assumption)];rfl)
    | (rw [slh_2 (by assumption) (by assumption)])
    | (rw [slh_0 (by assumption) (by assumption)];rfl)
    | (rw [slh_0 (by assumption) (by assumption)])
    | skip
instance {n k l : Nat} {ra rb re rx ry rz : FR} {τ1 : MT} [j1 : NF τ1 (PTS [(some 3,FX n ra),(some 3,FX n rb),(some 3,FX n re)])] {τ2 : MT} [j2 : NF τ2 (PTS [(some 3,FX k rx),(some 3,FX k ry)])] {τ3 : MT} [j3 : NF τ3 (FX l rz)] : Con Tryz.prog 26 [τ1,τ2,τ3] (20000 * n + 20000 * k + 20000 * l + 500000 ≤ BIG) (MT.tup2 (BT (decide (slHC ra rb re rx ry rz = 0) && slH ra rb re rx ry rz)) (.ex (errV 46 (slHC ra rb re rx ry rz)))):=.o3 fun hok h1 h2 h3 hp=>w26.c3 hok (j1.h h1) (j2.h h2) (j3.h h3) hp
end Go.Proofs.YtnjbcjmkkejfpaaGreat
set_option linter.unusedVariables false
set_option linter.unusedSimpArgs false
set_option maxHeartbeats 4000000
set_option maxRecDepth 100000
set_option synthInstance.maxSize 100000
set_option synthInstance.maxHeartbeats 400000
namespace Go.Proofs.YtnjbcjmkkejfpaaGreat
open Go.RowKit (Below)
attribute [local irreducible] Go.Code.wp Go.wpList Go.bodyPost
def limN (y u : Rat) : List Rat:=[0,y,0,u]
def limA (g a b c : FR) : Rat:=(g.val + a.val - (b.val + c.val)) / (2 * (a.val * g.val))
def limI (g a b c : FR) (u : Rat) : Bool:=decide (surdsF (-1) (limA g a b c) (a.val * g.val) u (a.val * g.val * (b.val * c.val)) ≤ 0) && decide (surdsF 1 (limA g a b c) (a.val * g.val) u (a.val * g.val * (b.val * c.val)) ≥ 0)
def limK (g a : FR) : List Rat:=[-(1 / (a.val * g.val)),1 / (a.val * g.val)]
def limJ (g a b c : FR) (j : Nat) : List (List Rat):=(((limK g a).take j).filter fun u=>limI g a b c u).map fun u=>limN (limA g a b c) u
def limL (g a b c : FR) : List (List Rat):=if chkF [g,a,b,c] = 0 then limJ g a b c 2 else []
theorem LSC.nm {b c : Nat} {l : List Rat} {v : Value} {G : Gh} (h : (LSC none [NM b l]).t v G) (e : b ≤ c) : (LSC none [NM c l]).t v G:=⟨LS.els h.1 rfl fun i τ σ h1 h2 _ hv=>by
  match i,h1,h2 with
  | 0,h1,h2=>cases h1;cases h2;exact NM.up hv e,h.2⟩
instance AsT.nm {b : Nat} {l : List Rat} : AsT (NM b l) (NM b) l:=⟨fun h=>h⟩
attribute [local irreducible] plusF minusF joinF levI lev PW RLN tB sB timesF stepF tmF normF TOK sgL surdsF chkF nearF farF gapC fullF
attribute [local irreducible] limJ limL limI
end Go.Proofs.YtnjbcjmkkejfpaaGreat
namespace Go.Proofs.YtnjbcjmkkejfpaaGreat
end Go.Proofs.YtnjbcjmkkejfpaaGreat
namespace Go.Proofs.YtnjbcjmkkejfpaaGreat
open Go.RowKit (Below)
attribute [local irreducible] rotQ compareF befR
end Go.Proofs.YtnjbcjmkkejfpaaGreat
namespace Go.Proofs.YtnjbcjmkkejfpaaGreat
open Go.RowKit (Below)
end Go.Proofs.YtnjbcjmkkejfpaaGreat
namespace Go.Proofs.YtnjbcjmkkejfpaaGreat
open Go.RowKit (Below)
def invQ (l : List FR) (k : Int) : List FR:=[invF l k 0,invF l k 1,invF l k 2,invF l k 3]
theorem inv_pos {l : List FR} {k : Int} (h : chkF l = 0) (hl : l.length = 4) : (invQ l k).all posR = true:=by
  have hp:=chk_pos h
  have : ∀ j,posR (invF l k j) = true:=fun j=>by
    unfold invF;rw [if_pos h,posR_of4]
    have hlt : (j + md4 k) % 4 < l.length:=by rw [hl];exact Nat.mod_lt _ (by decide)
    refine decide_eq_true (posR_val (List.all_eq_true.1 hp _ ?_))
    rw [List.getD_eq_getElem?_getD,List.getElem?_eq_getElem hlt];exact List.getElem_mem hlt
  unfold invQ;simp [this]
end Go.Proofs.YtnjbcjmkkejfpaaGreat
namespace Go.Proofs.YtnjbcjmkkejfpaaGreat
end Go.Proofs.YtnjbcjmkkejfpaaGreat
set_option linter.unusedVariables false
set_option linter.unusedSimpArgs false
namespace Go.Proofs.YtnjbcjmkkejfpaaGreat
section
variable {g a b c : Rat}
end
theorem rt_pos {x : Rat} (h : 0 < x) : 0 < rt x:=by
  refine RR.lt_of_ne (rt_nn x) fun e=>?_
  have h2:=rt_sq (Rat.le_of_lt h)
  rw [← e,RR.mul_zero] at h2
  have:=RR.of_inj (p:=0) |>.1 h2
  grind
end Go.Proofs.YtnjbcjmkkejfpaaGreat
namespace Go.Proofs.YtnjbcjmkkejfpaaGreat
open RR
theorem vl3 {p x y z u a0 a1 a2 a3 a4 a5 a6 a7 : Rat} : vlL [[p], [x, y], [z, u, 0, 0]] [a0, a1, a2, a3, a4, a5, a6, a7] =
    ((RR.of a0 + RR.of a1 * rt p) + (RR.of a2 + RR.of a3 * rt p) * (RR.of x + RR.of y * rt p).sq) + ((RR.of a4 + RR.of a5 * rt p) + (RR.of a6 + RR.of a7 * rt p) * (RR.of x + RR.of y * rt p).sq) * (RR.of z + RR.of u * rt p).sq:=by
  rw [El.vl_at (k:=3) (l:=[a0,a1,a2,a3,a4,a5,a6,a7]) (by decide) (Nat.le_refl 8)]
  show ((RR.of a0 + RR.of a1 * (RR.of p).sq) + (RR.of a2 + RR.of a3 * (RR.of p).sq) * (RR.of x + RR.of y * (RR.of p).sq).sq) + ((RR.of a4 + RR.of a5 * (RR.of p).sq) + (RR.of a6 + RR.of a7 * (RR.of p).sq) * (RR.of x + RR.of y * (RR.of p).sq).sq) * ((RR.of z + RR.of u * (RR.of p).sq) + (RR.of 0 + RR.of 0 * (RR.of p).sq) * (RR.of x + RR.of y * (RR.of p).sq).sq).sq = _
  rw [show RR.of 0 = (0 : RR) from rfl,RR.zero_mul,RR.add_zero,RR.zero_mul,RR.add_zero];rfl
theorem vl2g {p x y a0 a1 a2 a3 : Rat} : vlL [[p],[x,y]] [a0,a1,a2,a3] = (RR.of a0 + RR.of a1 * rt p) + (RR.of a2 + RR.of a3 * rt p) * (RR.of x + RR.of y * rt p).sq:=by
  rw [El.vl_at (k:=2) (l:=[a0,a1,a2,a3]) (by decide) (Nat.le_refl 4)]
  rfl
noncomputable def radR (a b e s : Rat) : RR:=RR.of b - (RR.of e - RR.of s * rt a) * (RR.of e - RR.of s * rt a)
theorem rad_val {a b e s : Rat} (ha : 0 ≤ a) : RR.of (b - a * (s * s) - e * e) + RR.of (2 * (e * s)) * rt a = radR a b e s:=by
  have h1 : radR a b e s = RR.of (b - e * e) + RR.of (2 * (e * s)) * rt a - RR.of (s * s) * (rt a * rt a):=by
    unfold radR
    generalize rt a = A
    obtain ⟨f,hf,rfl⟩:=RR.rep A
    exact RR.ext fun n=>by grind
  rw [h1,rt_sq ha]
  generalize rt a = A
  obtain ⟨f,hf,rfl⟩:=RR.rep A
  exact RR.ext fun n=>by grind
theorem rt_abs (e : Rat) : (0 ≤ e ∧ rt (e * e) = RR.of e) ∨ (e ≤ 0 ∧ rt (e * e) = RR.of (-e)):=by
  rcases (Rat.le_total : 0 ≤ e ∨ e ≤ 0) with h | h
  · exact .inl ⟨h,rt_c h⟩
  · refine .inr ⟨h,?_⟩
    rw [show e * e = -e * -e by grind]
    exact rt_c (by grind)
theorem abs_nn (e : Rat) : 0 ≤ rt (e * e) - RR.of e ∧ 0 ≤ rt (e * e) + RR.of e:=by
  rcases rt_abs e with ⟨h,h2⟩ | ⟨h,h2⟩ <;> rw [h2] <;> constructor
  · rw [← RR.of_sub];exact RR.of_le (p:=0) |>.2 (by grind)
  · rw [← RR.of_add];exact RR.of_le (p:=0) |>.2 (by grind)
  · rw [← RR.of_sub];exact RR.of_le (p:=0) |>.2 (by grind)
  · rw [← RR.of_add];exact RR.of_le (p:=0) |>.2 (by grind)
theorem rad_full {a b e s : Rat} (hb : 0 ≤ b) (h : rt a + rt (e * e) ≤ rt b) (h1 : -1 ≤ s) (h2 : s ≤ 1) : 0 ≤ radR a b e s:=by
  have he:=abs_nn e
  have k1 : 0 ≤ RR.of (1 + s) * rt a:=RR.mul_nn (RR.of_le (p:=0) |>.2 (by grind)) (rt_nn a)
  have k2 : 0 ≤ RR.of (1 - s) * rt a:=RR.mul_nn (RR.of_le (p:=0) |>.2 (by grind)) (rt_nn a)
  rw [RR.le_iff_sub] at h
  have p1:=RR.add_nn (RR.add_nn h he.1) k1
  have p2:=RR.add_nn (RR.add_nn h he.2) k2
  have p:=RR.mul_nn p1 p2
  have e1 : radR a b e s = (rt b - (rt a + rt (e * e)) + (rt (e * e) - RR.of e) + RR.of (1 + s) * rt a) * (rt b - (rt a + rt (e * e)) + (rt (e * e) + RR.of e) + RR.of (1 - s) * rt a):=by
    unfold radR
    rw [← rt_sq hb]
    generalize rt a = A;generalize rt b = B;generalize rt (e * e) = E
    obtain ⟨f,hf,rfl⟩:=RR.rep A;obtain ⟨f2,hf2,rfl⟩:=RR.rep B;obtain ⟨f3,hf3,rfl⟩:=RR.rep E
    exact RR.ext fun n=>by grind
  rw [e1];exact p
theorem le_sqR {x y : RR} (hx : 0 ≤ x) (hy : 0 ≤ y) (h : 0 ≤ y * y - x * x) : x ≤ y:=by
  rw [RR.le_iff_sub,← sgR_nn,sgR_sq hy hx,sgR_nn];exact h
theorem cmp_full {a b e : Rat} (ha : 0 ≤ a) (hb : 0 ≤ b) : compareF [a,e * e] [b] ≤ 0 ↔ rt a + rt (e * e) ≤ rt b:=by
  have he : 0 ≤ e * e:=by
    rcases (Rat.le_total : 0 ≤ e ∨ e ≤ 0) with h | h
    · exact Rat.mul_nonneg h h
    · have:=Rat.mul_nonneg (show 0 ≤ -e by grind) (show 0 ≤ -e by grind);grind
  rw [compareF_sg (by intro q hq;simp at hq;rcases hq with rfl | rfl <;> assumption) (by intro q hq;simp at hq;subst hq;exact hb),rs_cons (r:=[e * e]) (Nat.le_refl 1),rs_cons (r:=[]) (Nat.zero_le 1),sgR_le]
  simp only [List.getD_cons_zero,List.getD_nil,rt_zero,RR.add_zero]
theorem rod_len {a b e s c : Rat} {D : RR} (hD : D * D = radR a b e s) : (RR.of c * rt a + D - rt a * RR.of c) * (RR.of c * rt a + D - rt a * RR.of c) + (RR.of e - rt a * RR.of s) * (RR.of e - rt a * RR.of s) = RR.of b:=by
  have h1 : (RR.of c * rt a + D - rt a * RR.of c) * (RR.of c * rt a + D - rt a * RR.of c) = D * D:=by
    generalize rt a = A
    obtain ⟨f,hf,rfl⟩:=RR.rep A;obtain ⟨f2,hf2,rfl⟩:=RR.rep D
    exact RR.ext fun n=>by grind
  rw [h1,hD]
  unfold radR
  generalize rt a = A
  obtain ⟨f,hf,rfl⟩:=RR.rep A
  exact RR.ext fun n=>by grind
theorem dist_0 {R : List (List Rat)} {x r : List Rat} {c s e b : Rat} (hT : TOK R) (hx : PW R.length x) (hr : PW R.length r) (hc : PW R.length [c]) (hs : PW R.length [s]) (he : PW R.length [e])
    (hv : (vlL R x - vlL R r * vlL R [c]) * (vlL R x - vlL R r * vlL R [c]) + (vlL R [e] - vlL R r * vlL R [s]) * (vlL R [e] - vlL R r * vlL R [s]) = vlL R [b]) :
    sgL R (plusF (shoF (plusF (shoF (tmF R (shoF (plusF x (minusF (shoF (tmF R r [c]))))) (shoF (plusF x (minusF (shoF (tmF R r [c]))))))) (shoF (tmF R (shoF (plusF [e] (minusF (shoF (tmF R r [s]))))) (shoF (plusF [e] (minusF (shoF (tmF R r [s]))))))))) (minusF [b])) = 0:=by
  have h5:=hT.1
  have rl:=hT.2.1
  have p1:=PW.tm rl (Nat.le_refl _) hr hc
  have p2:=hx.plus (sho_pw h5 p1).minus
  have p3:=sho_pw h5 p2
  have p4:=PW.tm rl (Nat.le_refl _) p3 p3
  have q1:=PW.tm rl (Nat.le_refl _) hr hs
  have q2:=he.plus (sho_pw h5 q1).minus
  have q3:=sho_pw h5 q2
  have q4:=PW.tm rl (Nat.le_refl _) q3 q3
  have v1 : ∀ {y : List Rat} {d : Rat},PW R.length y → PW R.length [d] → vlL R (shoF (plusF y (minusF (shoF (tmF R r [d]))))) = vlL R y - vlL R r * vlL R [d]:=fun {y d} hy hd=>by
    have t1:=PW.tm rl (Nat.le_refl _) hr hd
    rw [vlL_sho h5 (hy.plus (sho_pw h5 t1).minus),vlL_plus,vlL_minus,vlL_sho h5 t1,vlL_tm hT hr hd];rfl
  unfold sgL
  rw [vlL_plus,vlL_minus,vlL_sho h5 ((sho_pw h5 p4).plus (sho_pw h5 q4)),vlL_plus,vlL_sho h5 p4,vlL_sho h5 q4,vlL_tm hT p3 p3,vlL_tm hT q3 q3,v1 hx hc,v1 he hs,hv]
  rw [show vlL R [b] + -vlL R [b] = 0 from RR.add_neg _]
  exact sgR_zero
end Go.Proofs.YtnjbcjmkkejfpaaGreat
set_option linter.unusedVariables false
set_option linter.unusedSimpArgs false
set_option maxHeartbeats 4000000
set_option maxRecDepth 100000
set_option synthInstance.maxSize 100000
set_option synthInstance.maxHeartbeats 400000
namespace Go.Proofs.YtnjbcjmkkejfpaaGreat
open Go.RowKit (Below)
attribute [local irreducible] Go.Code.wp Go.wpList Go.bodyPost
theorem ok_of {x : Rat} (h : 0 < x) : posR (FR.of x) = true:=by unfold posR;rw [FR.of_ok,FR.of_val,decide_eq_true h];rfl
theorem ex9_c : slC (FR.of 9) (FR.of 25) (FR.of 0) = 0:=sl_0 (by rw [FR.of_ok];rfl) (by simp only [List.all_cons,List.all_nil,ok_of (show (0 : Rat) < 9 by decide),ok_of (show (0 : Rat) < 25 by decide)];rfl)
theorem ex9_f : slF (FR.of 9) (FR.of 25) (FR.of 0) = true:=by
  rw [sl_f1 (by rw [ex9_c];decide)]
  unfold slN
  simp only [FR.of_val]
  decide +kernel
theorem ex9_s : slS (FR.of 9) (FR.of 25) (FR.of 0) false 1 = 1:=by unfold slS slX slY;simp only [FR.of_val];decide +kernel
theorem ex9_t : trnF false (FR.of 1) = true:=by unfold trnF;rw [FR.of_ok];rfl
theorem ex9_e : slE (FR.of 9) (FR.of 25) (FR.of 0) false (FR.of 1) = 0:=sle_0 (by rw [ex9_c];decide) ex9_t (by rw [FR.of_val,ex9_s];decide)
theorem ex9_r : slR (FR.of 9) (FR.of 25) (FR.of 0) false (FR.of 1) = [[9],[16,0]]:=by
  rw [(sle_t ex9_e (by rw [FR.of_val,ex9_s];decide)).1]
  unfold slX slY;simp only [FR.of_val];decide +kernel
theorem ex9_l : slL (FR.of 9) (FR.of 25) (FR.of 0) false (FR.of 1) = [[0,0,1,0],[0,0,-1,0]]:=by
  rw [(sle_t ex9_e (by rw [FR.of_val,ex9_s];decide)).2]
  simp only [FR.of_val];decide +kernel
theorem ex9_ec : slEC (FR.of 9) (FR.of 25) (FR.of 0) = 0:=slec_0 (by rw [ex9_c];decide) ex9_f
theorem ex9_et : slET (FR.of 9) (FR.of 25) (FR.of 0) = [[225],[34,-2],[34,2,0,0]]:=by
  rw [(slec_y (l:=[]) ex9_ec).1];unfold slT slQ;simp only [FR.of_val];decide +kernel
theorem ex9_el {l : List Rat} : slEL (FR.of 9) (FR.of 25) (FR.of 0) l = l:=(slec_y ex9_ec).2
theorem ex9_4 : sgL [[9],[16,0]] (plusF [0,0,1,0] (minusF [4])) = 0:=by
  have e : plusF [0,0,1,0] (minusF [4]) = [-4,0,1,0]:=by decide +kernel
  rw [e,sg2 (by decide) (by decide)];decide +kernel
theorem rt225 : rt 225 = RR.of 15:=by rw [show (225 : Rat) = 15 * 15 by decide +kernel];exact rt_c (by decide)
theorem ex9_6 : sgL [[225],[34,-2],[34,2,0,0]] (plusF stL (minusF [6])) = 0:=by
  have e : plusF stL (minusF [6]) = [-6,0,-1,0,1,0,0,0]:=by decide +kernel
  rw [e];unfold sgL
  rw [vl3,rt225]
  have e1 : (RR.of 34 + RR.of (-2) * RR.of 15).sq = RR.of 2:=by
    rw [← RR.of_mul,← RR.of_add,show (34 + -2 * 15 : Rat) = 2 * 2 by decide +kernel];exact rt_c (by decide)
  have e2 : (RR.of 34 + RR.of 2 * RR.of 15).sq = RR.of 8:=by
    rw [← RR.of_mul,← RR.of_add,show (34 + 2 * 15 : Rat) = 8 * 8 by decide +kernel];exact rt_c (by decide)
  rw [e1,e2]
  simp only [← RR.of_mul,← RR.of_add]
  rw [sgR_of];decide +kernel
theorem ex9_tok2 : TOK [[9],[16,0]]:=tok2 (by decide) (by decide)
theorem ex9_tok3 : TOK [[225],[34,-2],[34,2,0,0]]:=by
  refine ⟨by decide,fun j hj=>?_,fun j hj=>?_⟩
  · match j,hj with
    | 0,_=>rfl
    | 1,_=>rfl
    | 2,_=>rfl
  · match j,hj with
    | 0,_ =>
      show 0 ≤ vlL [[225],[34,-2],[34,2,0,0]] [225]
      rw [El.vl_at (k:=0) (l:=[225]) (by decide) (Nat.le_refl 1)]
      exact RR.of_le (p:=0) (q:=225) |>.2 (by decide)
    | 1,_ =>
      show 0 ≤ vlL [[225],[34,-2],[34,2,0,0]] [34,-2]
      rw [El.vl_at (k:=1) (l:=[34,-2]) (by decide) (Nat.le_refl 2)]
      show 0 ≤ RR.of 34 + RR.of (-2) * rt 225
      rw [rt225,← RR.of_mul,← RR.of_add]
      exact RR.of_le (p:=0) |>.2 (by decide +kernel)
    | 2,_ =>
      show 0 ≤ vlL [[225],[34,-2],[34,2,0,0]] [34,2,0,0]
      rw [El.vl_at (k:=2) (l:=[34,2,0,0]) (by decide) (Nat.le_refl 4)]
      show 0 ≤ (RR.of 34 + RR.of 2 * rt 225) + (RR.of 0 + RR.of 0 * rt 225) * _
      rw [show RR.of 0 = (0 : RR) from rfl,RR.zero_mul,RR.add_zero,RR.zero_mul,RR.add_zero,rt225,← RR.of_mul,← RR.of_add]
      exact RR.of_le (p:=0) |>.2 (by decide +kernel)
theorem sB3 {x r : Nat} : sB 3 x r ≤ 5000 * x + 5000 * r + 5000:=by simp only [sB,tB];omega
theorem pw8 {l : List Rat} (h : l.length = 8) : PW 3 l:=.inr ⟨3,Nat.le_refl _,h⟩
theorem pw4i {k : Nat} (h : 2 ≤ k) {x y z u : Rat} : PW k [x,y,z,u]:=.inr ⟨2,h,rfl⟩
attribute [local irreducible] plusF minusF joinF levI lev PW RLN tB sB timesF stepF tmF normF shoF TOK sgL surdsF surdF trnC trnF dirC dirS slC slE slS slF slEC slR slL slT slEL slET slX slY slH slHC
instance NR.lx8 {τs : List MT} {xs : List FR} [h : AsTL τs RX xs] : NR (LSC (some 3) τs) (LS (some 3) (xs.map RX)):=⟨fun hv=>h.ls hv.1⟩
instance AsT.fxr8 {n : Nat} {r : FR} : AsT (FX n r) RX r:=⟨fun h=>FX.toRX h⟩
instance AsT.qxr8 {n : Nat} {x : Rat} : AsT (QC n x) RX (FR.of x):=⟨fun h=>NR.h h⟩
theorem fr_of0 : (default : FR) = FR.of 0:=by
  have e1 : (FR.of 0).p = []:=words_zero
  have e2 : (FR.of 0).q = []:=by show dwords 0 = [];simp [dwords]
  have e3 : (FR.of 0).s = false:=by show decide ((0 : Rat) < 0) = false;decide
  show FR.mk false [] [] = FR.mk (FR.of 0).s (FR.of 0).p (FR.of 0).q
  rw [e1,e2,e3]
instance  : Con Tryz.prog 46 [] (True) (PTS [(some 3,FX 64 (FR.of 9)),(some 3,FX 64 (FR.of 25)),(some 3,FX 64 (FR.of 0))]):=.o0 fun hok  hp=>by
  refine St.enter (N:=4) Tryz.func46 rfl rfl rfl hok enter0 fun a=>?_
  repeat' (first|((with_reducible refine gS_ ?_);first|((with_reducible refine gL_ ?_);first|refine W.run ?_ fun a w G=>?_|refine W.mv fun a w G=>?_|refine W.asg fun a w G=>?_|refine W.bx fun b a w G=>?_|(refine W.nn hK ?_;clear hK K)|refine W.nl ?_|refine W.al fun b a w G=>?_|refine W.st fun w=>?_|refine W.stp fun w=>?_|refine W.ste ?_ fun w=>?_)|((with_reducible refine gC_ ?_);first|refine W.reg fun K hK=>?_|refine W.reg1 ?_|refine W.sq fun K hK=>?_|refine W.ds ?_ (fun β a w G hu=>W.fin ?_ hu) mixedOrders (by kernel_rfl)|refine W.sk ?_|refine W.cd (fun hc=>?_) (fun hc=>?_)|refine W.cb (fun hc=>?_) (fun hc=>?_)|refine W.bl ?_|refine W.ex ?_|refine W.rt ?_)|((with_reducible refine W.kn hK ?_);clear hK K)|(with_reducible first|refine W.bn ?_|refine W.xt ?_|refine W.xb ?_|refine W.xo ?_|refine W.tr ?_|refine W.br ?_)|refine W.rt1 rfl ?_|refine W.rt2 rfl ?_ ?_|refine W.rt3 rfl ?_ ?_ ?_)|clear hK K|clear hu|exact True.intro|exact Nat.le_trans (by clear hp;omega) hp|exact Nat.le_trans (by clear hp;omega) hp.1|exact Nat.le_trans (by clear hp;omega) hp.2|(clear hp;omega)|apply And.intro|refine GI.i fun _=>?_|with_reducible rfl|decide|(simp only [List.length_cons,List.length_nil];omega))
  all_goals first | omega | rfl | exact fr_of0 | skip
theorem w10 {ra rb re t : FR} {h : Bool} : Con Tryz.prog 10 [PTS [(some 3,RX ra),(some 3,RX rb),(some 3,RX re)],PTS [(some 3,RX t),(none,BT h)]] (True) (BT (shortF [ra,rb,re,t])):=.o2 fun hok h1 h2 hp=>by
  refine St.enter (N:=15) Tryz.func10 rfl rfl rfl hok (enter2 h1 h2) fun a=>?_
  repeat' (first|((with_reducible refine gS_ ?_);first|((with_reducible refine gL_ ?_);first|refine W.run ?_ fun a w G=>?_|refine W.mv fun a w G=>?_|refine W.asg fun a w G=>?_|refine W.bx fun b a w G=>?_|(refine W.nn hK ?_;clear hK K)|refine W.nl ?_|refine W.al fun b a w G=>?_|refine W.st fun w=>?_|refine W.stp fun w=>?_|refine W.ste ?_ fun w=>?_)|((with_reducible refine gC_ ?_);first|refine W.reg fun K hK=>?_|refine W.reg1 ?_|refine W.sq fun K hK=>?_|refine W.ds ?_ (fun β a w G hu=>W.fin ?_ hu) mixedOrders (by kernel_rfl)|refine W.sk ?_|refine W.cd (fun hc=>?_) (fun hc=>?_)|refine W.cb (fun hc=>?_) (fun hc=>?_)|refine W.bl ?_|refine W.ex ?_|refine W.rt ?_)|((with_reducible refine W.kn hK ?_);clear hK K)|(with_reducible first|refine W.bn ?_|refine W.xt ?_|refine W.xb ?_|refine W.xo ?_|refine W.tr ?_|refine W.br ?_)|refine W.rt1 rfl ?_|refine W.rt2 rfl ?_ ?_|refine W.rt3 rfl ?_ ?_ ?_)|clear hK K|clear hu|exact True.intro|exact Nat.le_trans (by clear hp;omega) hp|exact Nat.le_trans (by clear hp;omega) hp.1|exact Nat.le_trans (by clear hp;omega) hp.2|(clear hp;omega)|apply And.intro|refine GI.i fun _=>?_|with_reducible rfl|decide|(simp only [List.length_cons,List.length_nil];omega))
  all_goals first | omega | rfl | (simp only [LIM,List.length_cons,List.length_nil];omega) | skip
instance {ra rb re t : FR} {h : Bool} {τ1 : MT} [j1 : NR τ1 (PTS [(some 3,RX ra),(some 3,RX rb),(some 3,RX re)])] {τ2 : MT} [j2 : NR τ2 (PTS [(some 3,RX t),(none,BT h)])] : Con Tryz.prog 10 [τ1,τ2] (True) (BT (shortF [ra,rb,re,t])):=.o2 fun hok h1 h2 hp=>w10.c2 hok (j1.h h1) (j2.h h2) hp
instance  : Con Tryz.prog 9 [] (True) (BT true):=.o0 fun hok  hp=>by
  refine St.enter (N:=83) Tryz.func9 rfl rfl rfl hok enter0 fun a=>?_
  have x1:=ex9_c
  have x2:=ex9_f
  have x3:=ex9_e
  have x4:=ex9_l
  have x5:=ex9_r
  have x6:=ex9_ec
  have x7:=ex9_et
  have x8:=@ex9_el
  repeat' (first|((with_reducible refine gS_ ?_);first|((with_reducible refine gL_ ?_);first|refine W.run ?_ fun a w G=>?_|refine W.mv fun a w G=>?_|refine W.asg fun a w G=>?_|refine W.bx fun b a w G=>?_|(refine W.nn hK ?_;clear hK K)|refine W.nl ?_|refine W.al fun b a w G=>?_|refine W.st fun w=>?_|refine W.stp fun w=>?_|refine W.ste ?_ fun w=>?_)|((with_reducible refine gC_ ?_);first|with_reducible refine W.cbf (by simp [ex9_c,ex9_f,ex9_e,ex9_l];done) ?_|refine W.reg fun K hK=>?_|refine W.reg1 ?_|refine W.sq fun K hK=>?_|refine W.ds ?_ (fun β a w G hu=>W.fin ?_ hu) mixedOrders (by kernel_rfl)|refine W.sk ?_|refine W.cd (fun hc=>?_) (fun hc=>?_)|refine W.cb (fun hc=>?_) (fun hc=>?_)|refine W.bl ?_|refine W.ex ?_|refine W.rt ?_)|((with_reducible refine W.kn hK ?_);clear hK K)|(with_reducible first|refine W.bn ?_|refine W.xt ?_|refine W.xb ?_|refine W.xo ?_|refine W.tr ?_|refine W.br ?_)|refine W.rt1 rfl ?_|refine W.rt2 rfl ?_ ?_|refine W.rt3 rfl ?_ ?_ ?_)|clear hK K|clear hu|exact True.intro|exact Nat.le_trans (by clear hp;omega) hp|exact Nat.le_trans (by clear hp;omega) hp.1|exact Nat.le_trans (by clear hp;omega) hp.2|(clear hp;omega)|apply And.intro|refine GI.i fun _=>?_|with_reducible rfl|decide|(simp only [List.length_cons,List.length_nil];omega))
  all_goals (try simp only [ex9_c,ex9_f,ex9_e,ex9_l,ex9_r,ex9_ec,ex9_et,ex9_el,List.length_cons,List.length_nil] at *)
  all_goals first
    | omega
    | decide
    | rfl
    | exact ex9_tok2
    | exact ex9_tok3
    | exact pw4
    | exact pw4i (by decide)
    | exact pw1k
    | exact pw8 rfl
    | (show sB 2 _ _ ≤ BIG;rw [sB2];omega)
    | (show sB 2 _ _ ≤ BIG;rw [sB2];decide)
    | (refine Nat.le_trans (show sB 3 _ _ ≤ _ from sB3) ?_;first | omega | decide)
    | (rw [show ([[0,0,1,0],[0,0,-1,0]] : List (List Rat)).getD 0 default = [0,0,1,0] from rfl,ex9_4,ex9_6];rfl)
    | (show PW 2 [0,0,1,0];exact pw4)
    | skip
theorem gi1_0 {s1 : Bool} (h : s1 = false) (g : (!true || !s1) = false) : False:=by cases s1 <;> simp_all
theorem gi1_1 {s1 A1 : Bool} (h : s1 = false) (g : ((!true || !s1) || A1) = false) : False:=by cases s1 <;> simp_all
theorem long1_2 {s1 A1 A2 : Bool} (h : s1 = false) : (((!true || !s1) || A1) || A2) = true:=by cases s1 <;> simp_all
theorem gi1_2 {s1 A1 A2 : Bool} (h : s1 = false) (g : (((!true || !s1) || A1) || A2) = false) : False:=by cases s1 <;> simp_all
theorem gi1_3 {s1 A1 A2 A3 : Bool} (h : s1 = false) (g : ((((!true || !s1) || A1) || A2) || A3) = false) : False:=by cases s1 <;> simp_all
theorem gi1_4 {s1 A1 A2 A3 A4 : Bool} (h : s1 = false) (g : (((((!true || !s1) || A1) || A2) || A3) || A4) = false) : False:=by cases s1 <;> simp_all
theorem long1_5 {s1 A1 A2 A3 A4 A5 : Bool} (h : s1 = false) : ((((((!true || !s1) || A1) || A2) || A3) || A4) || A5) = true:=by cases s1 <;> simp_all
instance FitX.e {z : Int} : AsT (.ex (errV 46 z)) (fun z=>.ex (errV 46 z)) z:=⟨fun h=>h⟩
theorem sle_ne {a b e t : FR} {h : Bool} (h0 : slC a b e = 0) (h1 : trnF h t = true) (h2 : slE a b e h t ≠ 0) : slE a b e h t = 16 ∧ slS a b e h t.val < 0:=by
  rw [sle_rs h0 h1] at h2 ⊢
  split at h2
  · rename_i hs;exact ⟨if_pos hs,hs⟩
  · exact absurd rfl h2
theorem sle_eq {a b e t : FR} {h : Bool} (h0 : slC a b e = 0) (h1 : trnF h t = true) (h2 : slE a b e h t = 0) : 0 ≤ slS a b e h t.val:=by
  rw [sle_rs h0 h1] at h2
  split at h2
  · cases h2
  · omega
theorem slL_n {a b e t : FR} {h : Bool} (h0 : slE a b e h t ≠ 0) : slL a b e h t = []:=(sle_n h0).2
theorem slL_len (a b e t : FR) (h : Bool) : (slL a b e h t).length ≤ 2:=by
  by_cases h0 : slE a b e h t = 0
  · by_cases h1 : slS a b e h t.val = 0
    · rw [(sle_s h0 h1).2];exact Nat.le_succ 1
    · rw [(sle_t h0 h1).2];exact Nat.le_refl 2
  · rw [slL_n h0];exact Nat.zero_le _
end Go.Proofs.YtnjbcjmkkejfpaaGreat
set_option linter.unusedVariables false
set_option linter.unusedSimpArgs false
namespace Go.Proofs.YtnjbcjmkkejfpaaGreat
section
variable {g a b c : Rat}
end
theorem dir_one {h : Bool} {t : Rat} : dirC h t * dirC h t + dirS h t * dirS h t = 1:=by
  unfold dirC dirS
  cases h with
  | true=>rw [if_pos rfl,if_pos rfl];decide +kernel
  | false =>
    rw [if_neg (by decide),if_neg (by decide)]
    have hd:=one_sq t
    generalize hD : 1 + t * t = D at *
    have e1 : (1 - t * t) / D * ((1 - t * t) / D) + (t + t) / D * ((t + t) / D) = ((1 - t * t) * (1 - t * t) + (t + t) * (t + t)) / (D * D):=by grind
    rw [e1,show (1 - t * t) * (1 - t * t) + (t + t) * (t + t) = D * D by rw [← hD];grind]
    rw [Rat.div_def];exact Rat.mul_inv_cancel _ (by intro e;rcases Rat.mul_eq_zero.1 e with e | e <;> exact hd e)
end Go.Proofs.YtnjbcjmkkejfpaaGreat
set_option linter.unusedVariables false
set_option linter.unusedSimpArgs false
set_option maxHeartbeats 4000000
set_option maxRecDepth 100000
set_option synthInstance.maxSize 100000
set_option synthInstance.maxHeartbeats 400000
namespace Go.Proofs.YtnjbcjmkkejfpaaGreat
open Go.RowKit (Below)
attribute [local irreducible] Go.Code.wp Go.wpList Go.bodyPost
theorem sin_rng {h : Bool} {t : Rat} : -1 ≤ dirS h t ∧ dirS h t ≤ 1:=by
  have h1:=dir_one (h:=h) (t:=t)
  have h2:=sq_nnq (dirC h t)
  constructor
  · apply Classical.byContradiction;intro hn
    have hp : 0 < (-dirS h t - 1) * (-dirS h t - 1):=Rat.mul_pos (by grind) (by grind)
    grind
  · apply Classical.byContradiction;intro hn
    have hp : 0 < (dirS h t - 1) * (dirS h t - 1):=Rat.mul_pos (by grind) (by grind)
    grind
section
variable {a b e : FR}
theorem slS_rad (hc : slC a b e = 0) {h : Bool} {t : Rat} : slS a b e h t = sgR (radR a.val b.val e.val (dirS h t)):=by
  have ha:=Rat.le_of_lt (sl_pos hc).1
  unfold slS slX slY
  rw [surd_sg ha,rad_val ha]
theorem sl_full_iff (hc : slC a b e = 0) : slF a b e = true ↔ rt a.val + rt (e.val * e.val) ≤ rt b.val:=by
  rw [sl_f1 (fun k=>k hc),decide_eq_true_eq]
  unfold slN
  exact cmp_full (Rat.le_of_lt (sl_pos hc).1) (Rat.le_of_lt (sl_pos hc).2)
theorem sl_full_all (hc : slC a b e = 0) (hf : slF a b e = true) {h : Bool} {t : Rat} : 0 ≤ slS a b e h t:=by
  rw [slS_rad hc]
  exact sgR_nn.2 (rad_full (Rat.le_of_lt (sl_pos hc).2) ((sl_full_iff hc).1 hf) sin_rng.1 sin_rng.2)
theorem sl_full_e (hc : slC a b e = 0) (hf : slF a b e = true) {h : Bool} {t : FR} (ht : trnF h t = true) : slE a b e h t = 0:=sle_0 (fun k=>k hc) ht (by have:=sl_full_all (h:=h) (t:=t.val) hc hf;omega)
theorem trn_of {x : Rat} : trnF false (FR.of x) = true:=by unfold trnF;rw [FR.of_ok];rfl
theorem slL_pos {t : FR} {h : Bool} (h0 : slE a b e h t = 0) : 0 < (slL a b e h t).length:=by
  by_cases h1 : slS a b e h t.val = 0
  · rw [(sle_s h0 h1).2];exact Nat.zero_lt_one
  · rw [(sle_t h0 h1).2];exact Nat.zero_lt_succ 1
end
attribute [local irreducible] plusF minusF joinF levI lev PW RLN tB sB timesF stepF tmF normF shoF TOK sgL surdsF surdF trnC trnF dirC dirS slC slE slS slF slEC slR slL slT slEL slET slX slY slH slHC shortF
instance {ra rb re : FR} : Con Tryz.prog 15 [PTS [(some 3,RX ra),(some 3,RX rb),(some 3,RX re)]] ([ra,rb,re].all shortR = true) (.ex (errV 46 (slC ra rb re))):=.o1 fun hok h1 hp=>by
  have hq:=hp
  (try simp only [shortF,List.all_cons,List.all_nil,Bool.and_true,Bool.and_eq_true] at hq)
  exact (inferInstance : Con Tryz.prog 15 [PTS [(some 3,FX 64 ra),(some 3,FX 64 rb),(some 3,FX 64 re)]] _ (.ex (errV 46 (slC ra rb re)))).c1 hok (NS.h (τ':=PTS [(some 3,FX 64 ra),(some 3,FX 64 rb),(some 3,FX 64 re)]) (by (try simp only [and_true,true_and]);grind) h1) (by decide)
instance {t : FR} {h : Bool} : Con Tryz.prog 17 [PTS [(some 3,RX t),(none,BT h)]] (shortR t = true) (BT (trnF h t)):=.o1 fun hok h1 hp=>by
  have hq:=hp
  (try simp only [shortF,List.all_cons,List.all_nil,Bool.and_true,Bool.and_eq_true] at hq)
  exact (inferInstance : Con Tryz.prog 17 [TRN 64 t h] _ (BT (trnF h t))).c1 hok (NS.h (τ':=TRN 64 t h) (by (try simp only [and_true,true_and]);grind) h1) (by decide)
instance gTS6_4_2 : GcT 4 2 false 2 [3,4,16,17,18,19,20,21,22,23,24,25,26,27,28,29,30,31,32,33]:=⟨⟩
instance gTS6_4_3 : GcT 4 3 false 4 [16,17,18,19,20,21,22,23,24,25,26,27,28,29,30,31,32,33]:=⟨⟩
instance gTS6_4_5 : GcT 4 5 false 7 [8,35,36,37,38,39,40,41,42,43,44,45,46,47]:=⟨⟩
instance gTS6_4_6 : GcT 4 6 false 10 [11,48,49,50,51,52,53,54,55]:=⟨⟩
instance gTS6_4_7 : GcT 4 7 false 2 [3,13,56,57,58,59,60,61,62]:=⟨⟩
instance gTS6_4_8 : GcT 4 8 false 5 [6,9,12,14,15,63,64,65,66,67,68,69,70,71,72,73,74]:=⟨⟩
instance gTS6_4_9 : GcT 4 9 false 6 [9,12,63,64,65,66,67,68,69,70,71,72,73,74]:=⟨⟩
end Go.Proofs.YtnjbcjmkkejfpaaGreat
set_option linter.unusedVariables false
set_option linter.unusedSimpArgs false
set_option maxHeartbeats 4000000
set_option maxRecDepth 100000
set_option synthInstance.maxSize 100000
set_option synthInstance.maxHeartbeats 400000
namespace Go.Proofs.YtnjbcjmkkejfpaaGreat
open Go.RowKit (Below)
attribute [local irreducible] Go.Code.wp Go.wpList Go.bodyPost
theorem tB1 {N r : Nat} : tB 1 N r = 2 * N + r + 1:=by simp only [tB];omega
theorem tB2 {N r : Nat} : tB 2 N r = 6 * N + 6 * r + 5:=by simp only [tB];omega
abbrev ERL (z : Int) : MT:=.ex (errV 46 z)
instance {z : Int} : AsT (.ex (errV 46 z)) ERL z:=⟨fun h=>h⟩
instance {n : TypeId} {z : Int} : ShK (.ex (errV n z)) none:=⟨fun h=>by cases h;unfold errV;split <;> exact ⟨rfl,rfl⟩⟩
theorem rep7 (j : Nat) : (List.replicate 7 (0 : Int)).getD j default = 0:=by
  rw [List.getD_eq_getElem?_getD,List.getElem?_replicate];split <;> rfl
theorem rep7d (j : Nat) : decide ((List.replicate 7 (0 : Int)).getD j default ≠ 0) = false:=decide_eq_false (fun k=>k (rep7 j))
theorem tok2g {p x y : Rat} (hp : 0 ≤ p) (hs : 0 ≤ RR.of x + RR.of y * rt p) : TOK [[p],[x,y]]:=by
  refine ⟨show 2 ≤ 5 by decide,fun j hj=>?_,fun j hj=>?_⟩
  · match j,hj with
    | 0,_=>rfl
    | 1,_=>rfl
  · match j,hj with
    | 0,_ =>
      show 0 ≤ vlL [[p],[x,y]] [p]
      rw [El.vl_at (k:=0) (l:=[p]) (by decide) (Nat.le_refl 1)]
      exact RR.of_le (p:=0) |>.2 hp
    | 1,_ =>
      show 0 ≤ vlL [[p],[x,y]] [x,y]
      rw [El.vl_at (k:=1) (l:=[x,y]) (by decide) (Nat.le_refl 2)]
      exact hs
theorem vlc {R : List (List Rat)} {q : Rat} : vlL R [q] = RR.of q:=by
  rw [El.vl_at (k:=0) (l:=[q]) (by decide) (Nat.le_refl 1)];rfl
theorem vl_r0 {p : Rat} {R : List (List Rat)} : vlL ([p] :: R) (rooF 0) = rt p:=by
  rw [El.vl_at (k:=1) (l:=rooF 0) (by decide) (Nat.le_refl 2)]
  show RR.of 0 + RR.of 1 * (RR.of p).sq = _
  rw [show RR.of 0 = (0 : RR) from rfl,RR.zero_add,show RR.of 1 = (1 : RR) from rfl,RR.one_mul];rfl
theorem vl_0c {p c : Rat} {R : List (List Rat)} : vlL ([p] :: R) [0,c] = RR.of c * rt p:=by
  rw [El.vl_at (k:=1) (l:=[0,c]) (by decide) (Nat.le_refl 2)]
  show RR.of 0 + RR.of c * (RR.of p).sq = _
  rw [show RR.of 0 = (0 : RR) from rfl,RR.zero_add];rfl
theorem vl_p {p x y c d : Rat} : vlL [[p],[x,y]] [0,c,d,0] = RR.of c * rt p + RR.of d * (RR.of x + RR.of y * rt p).sq:=by
  rw [vl2g,show RR.of 0 = (0 : RR) from rfl,RR.zero_add,RR.zero_mul,RR.add_zero]
section
variable {xa xb xe : Rat} {t : FR} {h : Bool}
theorem sl_two (hc : slC (FR.of xa) (FR.of xb) (FR.of xe) = 0) (ht : trnF h t = true) (h0 : slE (FR.of xa) (FR.of xb) (FR.of xe) h t = 0) : (slS (FR.of xa) (FR.of xb) (FR.of xe) h t.val = 0 ∧ radR xa xb xe (dirS h t.val) = 0 ∧ slR (FR.of xa) (FR.of xb) (FR.of xe) h t = [[xa]] ∧ slL (FR.of xa) (FR.of xb) (FR.of xe) h t = [[0, dirC h t.val]]) ∨
    (slS (FR.of xa) (FR.of xb) (FR.of xe) h t.val = 1 ∧ 0 < radR xa xb xe (dirS h t.val) ∧ slR (FR.of xa) (FR.of xb) (FR.of xe) h t = [[xa],[slX (FR.of xa) (FR.of xb) (FR.of xe) h t.val,slY (FR.of xe) h t.val]] ∧ slL (FR.of xa) (FR.of xb) (FR.of xe) h t = [[0,dirC h t.val,1,0],[0,dirC h t.val,-1,0]] ∧
      RR.of (slX (FR.of xa) (FR.of xb) (FR.of xe) h t.val) + RR.of (slY (FR.of xe) h t.val) * rt xa = radR xa xb xe (dirS h t.val)):=by
  have hnn:=sle_eq hc ht h0
  have hr:=slS_rad (h:=h) (t:=t.val) hc
  simp only [FR.of_val] at hr
  have ha:=(sl_pos hc).1
  rw [FR.of_val] at ha
  by_cases h1 : slS (FR.of xa) (FR.of xb) (FR.of xe) h t.val = 0
  · have e:=sle_s h0 h1
    rw [FR.of_val] at e
    rw [h1] at hr
    refine .inl ⟨h1,?_,e.1,e.2⟩
    rcases sgR_cases (radR xa xb xe (dirS h t.val)) with ⟨_,k⟩ | ⟨k,_⟩ | ⟨_,k⟩
    · omega
    · exact k
    · omega
  · have e:=sle_t h0 h1
    rw [FR.of_val] at e
    have hv : RR.of (slX (FR.of xa) (FR.of xb) (FR.of xe) h t.val) + RR.of (slY (FR.of xe) h t.val) * rt xa = radR xa xb xe (dirS h t.val):=by
      unfold slX slY;simp only [FR.of_val];exact rad_val (Rat.le_of_lt ha)
    rcases sgR_cases (radR xa xb xe (dirS h t.val)) with ⟨_,k⟩ | ⟨_,k⟩ | ⟨k2,k⟩
    · omega
    · omega
    · exact .inr ⟨by omega,k2,e.1,e.2,hv⟩
theorem sl_vals (hc : slC (FR.of xa) (FR.of xb) (FR.of xe) = 0) (ht : trnF h t = true) (h0 : slE (FR.of xa) (FR.of xb) (FR.of xe) h t = 0) : TOK (slR (FR.of xa) (FR.of xb) (FR.of xe) h t) ∧ 0 < (slR (FR.of xa) (FR.of xb) (FR.of xe) h t).length ∧ vlL (slR (FR.of xa) (FR.of xb) (FR.of xe) h t) (rooF 0) = rt xa ∧
    ∀ j,j < (slL (FR.of xa) (FR.of xb) (FR.of xe) h t).length → PW (slR (FR.of xa) (FR.of xb) (FR.of xe) h t).length ((slL (FR.of xa) (FR.of xb) (FR.of xe) h t).getD j default) ∧ ∃ D : RR,D * D = radR xa xb xe (dirS h t.val) ∧ vlL (slR (FR.of xa) (FR.of xb) (FR.of xe) h t) ((slL (FR.of xa) (FR.of xb) (FR.of xe) h t).getD j default) = RR.of (dirC h t.val) * rt xa + D:=by
  have ha:=(sl_pos hc).1
  rw [FR.of_val] at ha
  rcases sl_two hc ht h0 with ⟨_,k2,k3,k4⟩ | ⟨_,k2,k3,k4,k5⟩
  · rw [k3,k4]
    refine ⟨tok1 (Rat.le_of_lt ha),Nat.zero_lt_one,vl_r0,fun j hj=>?_⟩
    match j,hj with
    | 0,_=>exact ⟨pw2 (Nat.le_refl 1),0,by rw [k2,RR.mul_zero],by rw [RR.add_zero];exact vl_0c⟩
  · rw [k3,k4]
    refine ⟨tok2g (Rat.le_of_lt ha) (by rw [k5];exact RR.le_of_lt k2),Nat.zero_lt_succ 1,vl_r0,fun j hj=>?_⟩
    have hsq:=RR.sq_sq (RR.le_of_lt k2)
    match j,hj with
    | 0,_ =>
      refine ⟨pw4i (Nat.le_refl 2),(radR xa xb xe (dirS h t.val)).sq,hsq,?_⟩
      show vlL _ [0,dirC h t.val,1,0] = _
      rw [vl_p,k5,show RR.of 1 = (1 : RR) from rfl,RR.one_mul]
    | 1,_ =>
      refine ⟨pw4i (Nat.le_refl 2),-(radR xa xb xe (dirS h t.val)).sq,by rw [RR.mul_neg_neg];exact hsq,?_⟩
      show vlL _ [0,dirC h t.val,-1,0] = _
      rw [vl_p,k5,show RR.of (-1) = -(1 : RR) from rfl,RR.neg_mul,RR.one_mul]
theorem dist_sl (hc : slC (FR.of xa) (FR.of xb) (FR.of xe) = 0) (ht : trnF h t = true) (h0 : slE (FR.of xa) (FR.of xb) (FR.of xe) h t = 0) {j : Nat} (hj : j < (slL (FR.of xa) (FR.of xb) (FR.of xe) h t).length) {R : List (List Rat)} (hR : R = slR (FR.of xa) (FR.of xb) (FR.of xe) h t) {x : List Rat} (hx : x = (slL (FR.of xa) (FR.of xb) (FR.of xe) h t).getD j default) :
    sgL R (plusF (shoF (plusF (shoF (tmF R (shoF (plusF x (minusF (shoF (tmF R (rooF 0) [dirC h t.val]))))) (shoF (plusF x (minusF (shoF (tmF R (rooF 0) [dirC h t.val]))))))) (shoF (tmF R (shoF (plusF [xe] (minusF (shoF (tmF R (rooF 0) [dirS h t.val]))))) (shoF (plusF [xe] (minusF (shoF (tmF R (rooF 0) [dirS h t.val]))))))))) (minusF [xb])) = 0:=by
  subst hR hx
  obtain ⟨v1,v2,v3,v4⟩:=sl_vals hc ht h0
  obtain ⟨v5,D,v6,v7⟩:=v4 j hj
  refine dist_0 v1 v5 (pw_rot v2) pw1k pw1k pw1k ?_
  rw [v3,v7,vlc,vlc,vlc,vlc]
  exact rod_len v6
theorem two_gt (hc : slC (FR.of xa) (FR.of xb) (FR.of xe) = 0) (ht : trnF h t = true) (h0 : slE (FR.of xa) (FR.of xb) (FR.of xe) h t = 0) (h1 : slS (FR.of xa) (FR.of xb) (FR.of xe) h t.val ≠ 0) : sgL (slR (FR.of xa) (FR.of xb) (FR.of xe) h t) (plusF ((slL (FR.of xa) (FR.of xb) (FR.of xe) h t).getD 0 default) (minusF ((slL (FR.of xa) (FR.of xb) (FR.of xe) h t).getD 1 default))) = 1:=by
  rcases sl_two hc ht h0 with ⟨k1,_⟩ | ⟨_,k2,k3,k4,k5⟩
  · exact absurd k1 h1
  · rw [k3,k4]
    show sgL _ (plusF [0,dirC h t.val,1,0] (minusF [0,dirC h t.val,-1,0])) = 1
    unfold sgL
    rw [vlL_plus,vlL_minus,vl_p,vl_p,k5,show RR.of (-1) = -(1 : RR) from rfl,show RR.of 1 = (1 : RR) from rfl,RR.neg_mul,RR.one_mul]
    have hs : 0 < (radR xa xb xe (dirS h t.val)).sq:=RR.lt_of_ne (RR.sq_nonneg _) (fun e=>by
      have:=RR.sq_sq (RR.le_of_lt k2)
      rw [← e,RR.mul_zero] at this
      exact RR.ne_of_lt k2 this)
    refine sgR_pos ?_
    generalize (radR xa xb xe (dirS h t.val)).sq = D at *
    have e : RR.of (dirC h t.val) * rt xa + D + -(RR.of (dirC h t.val) * rt xa + -D) = D + D:=by
      generalize rt xa = A
      obtain ⟨f,hf,rfl⟩:=RR.rep A;obtain ⟨f2,hf2,rfl⟩:=RR.rep D
      exact RR.ext fun n=>by grind
    rw [e];exact RR.add_pos hs (RR.le_of_lt hs)
theorem sl_len (hc : slC (FR.of xa) (FR.of xb) (FR.of xe) = 0) (ht : trnF h t = true) (h0 : slE (FR.of xa) (FR.of xb) (FR.of xe) h t = 0) : (slS (FR.of xa) (FR.of xb) (FR.of xe) h t.val = 0 → (slR (FR.of xa) (FR.of xb) (FR.of xe) h t).length = 1 ∧ (slL (FR.of xa) (FR.of xb) (FR.of xe) h t).length = 1) ∧ (slS (FR.of xa) (FR.of xb) (FR.of xe) h t.val ≠ 0 → (slR (FR.of xa) (FR.of xb) (FR.of xe) h t).length = 2 ∧ (slL (FR.of xa) (FR.of xb) (FR.of xe) h t).length = 2):=by
  rcases sl_two hc ht h0 with ⟨k1,_,k3,k4⟩ | ⟨k1,_,k3,k4,_⟩
  · rw [k3,k4];exact ⟨fun _=>⟨rfl,rfl⟩,fun k=>absurd k1 k⟩
  · rw [k3,k4];exact ⟨fun k=>by omega,fun _=>⟨rfl,rfl⟩⟩
end
end Go.Proofs.YtnjbcjmkkejfpaaGreat
