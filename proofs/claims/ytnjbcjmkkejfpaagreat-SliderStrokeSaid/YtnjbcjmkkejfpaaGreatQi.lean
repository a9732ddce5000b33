import Derived.Test.YtnjbcjmkkejfpaaGreatQh
set_option linter.unusedVariables false
set_option linter.unusedSimpArgs false
set_option linter.unusedVariables false
set_option linter.unusedSimpArgs false
set_option maxHeartbeats 4000000
set_option maxRecDepth 100000
set_option synthInstance.maxSize 100000
set_option synthInstance.maxHeartbeats 400000
namespace Go.Proofs.YtnjbcjmkkejfpaaGreat
open Go.RowKit (Below)
attribute [local irreducible] Go.Code.wp Go.wpList Go.bodyPost
private theorem gS_ {W0 : World} {G0 : Gh} {N : Nat} {L : List (Nat × MT)} {B : List BX} {a : Act} {w : World} {G : Gh} {q : Prop} (h : St W0 G0 N L B a w G → q) : St W0 G0 N L B a w G → q:=h
private theorem gL_ {p : Prop} {P : Program} {arr : Array Oper} {Q : Exit → Act → World → Prop} {l : List Oper} {a : Act} {w : World} (h : p → wpList P arr Q l a w) : p → wpList P arr Q l a w:=h
private theorem gC_ {p : Prop} {P : Program} {c : Code} {Q : Exit → Act → World → Prop} {a : Act} {w : World} (h : p → c.wp P Q a w) : p → c.wp P Q a w:=h
private theorem mixedOrders : Tryz.prog.follows .mixedOrders = true:=by kernel_rfl
attribute [local irreducible] plusF minusF joinF levI lev PW RLN tB sB timesF stepF tmF normF shoF TOK sgL surdsF surdF chkF gapC fullF nearF farF trnC dirC dirS
instance : X.MapI Tryz.prog 104:=⟨_,_,Tryz.underlying104,by kernel_rfl⟩
instance {n : Nat} {ps : List (Int × Int)} : Con Tryz.prog 64 [NT n,MP ps] (n ≤ 64 ∧ (ps.map Prod.fst).Nodup ∧ ∀ p ∈ ps,0 ≤ p.1 ∧ p.1 < n ∧ I64 p.2) (NM 64 (X.unitF n ps)):=.o2 fun hok h1 h2 hp=>by
  obtain ⟨r,es,c,h2,hG,he⟩:=X.mp_ex h2
  refine St.enter (N:=23) Tryz.func64 rfl rfl rfl hok (enter2 h1 h2) fun a=>?_
  have own9 : OwnAt 9:=⟨⟩
  repeat' (first|((with_reducible refine gS_ ?_);first|((with_reducible refine gL_ ?_);first|refine W.run ?_ fun a w G=>?_|refine W.mv fun a w G=>?_|refine W.asg fun a w G=>?_|refine W.bx fun b a w G=>?_|(refine W.nn hK ?_;clear hK K)|refine W.nl ?_|refine W.al fun b a w G=>?_|refine W.st fun w=>?_|refine W.stp fun w=>?_|refine W.ste ?_ fun w=>?_)|((with_reducible refine gC_ ?_);first|refine W.reg fun K hK=>?_|refine W.reg1 ?_|refine W.sq fun K hK=>?_|refine W.ds ?_ (fun β a w G hu=>W.fin ?_ hu) mixedOrders (by kernel_rfl)|refine W.sk ?_|refine W.cd (fun hc=>?_) (fun hc=>?_)|refine W.cb (fun hc=>?_) (fun hc=>?_)|refine W.bl ?_|refine W.ex ?_|refine W.rt ?_)|((with_reducible refine W.kn hK ?_);clear hK K)|(with_reducible first|refine W.bn ?_|refine W.xt ?_|refine W.xb ?_|refine W.xo ?_|refine W.tr ?_|refine W.br ?_)|refine W.rt1 rfl ?_|refine W.rt2 rfl ?_ ?_|refine W.rt3 rfl ?_ ?_ ?_)|refine W.mk (mt:=FX 1 default) (QC 64) (0:Rat) ?_ fun b a w G=>?_|refine W.fz 4 ?_ fun G=>?_|refine X.range hG fun ib a w G=>?_|refine X.lp es [(5,OSL b n n),(11,X.ITP ib)] (fun seen=>[⟨b,24,some (n * 3),ROWS (some 3) ((X.outF es n seen).map (QC 64))⟩]) ?_ ?_ fun seen a w G=>?_|refine X.next hG he.1 (X.un_mem he hp.2.2) (fun hz a w G=>?_) (fun e i z hm hk hv hR a w G=>?_)|refine X.entry hk hv hG he.1 (mem_left hm).1 fun a w G=>?_|refine X.op ?_ fun a w G=>?_|refine X.asg fun a w G=>?_|refine X.cb (fun hc=>?_) (fun hc=>?_)|refine X.ste ?_ fun w=>?_|refine X.ag ?_ hm ?_|refine X.out ?_|(refine W.nn hK ?_;clear hK K)|refine W.nl ?_|refine W.reg fun K hK=>?_|refine W.reg1 ?_|refine W.sq fun K hK=>?_|refine W.bl ?_|refine W.sk ?_|((with_reducible refine W.kn hK ?_);clear hK K)|with_reducible refine W.bn ?_|with_reducible refine W.xt ?_|exact Bool.noConfusion hc|clear hK K|clear hu|exact True.intro|exact Nat.le_trans (by clear hp;omega) hp|exact Nat.le_trans (by clear hp;omega) hp.1|exact Nat.le_trans (by clear hp;omega) hp.2|(clear hp;omega)|apply And.intro|refine GI.i fun _=>?_|with_reducible rfl|decide|(simp only [List.length_cons,List.length_nil];omega))
  all_goals first
    | omega
    | rfl
    | exact congrArg (fun l=>[(⟨_,_,_,ROWS (some 3) (List.map (QC 64) l)⟩ : BX)]) X.outF_0
    | exact congrArg (fun l=>[(⟨_,_,_,ROWS (some 3) (List.map (QC 64) l)⟩ : BX)]) (X.un_set he hm hk hv)
    | (intro p hp;simp only [List.mem_cons,List.not_mem_nil,or_false] at hp ⊢;rcases hp with hp | hp <;> subst hp <;> simp;done)
    | exact X.outF_u hz he hp.2.1
    | exact X.outF_len.symm
    | (rw [X.outF_len];exact hR.1)
    | (simp only [LIM];omega)
    | exact hR.2
    | skip
abbrev LFX (n : Nat) (l : List FR) : MT:=LS (some 3) (l.map (FX n))
instance : Grow FX:=⟨FX.up⟩
instance Rdn.fx {n : Nat} {r : FR} : Rdn (FX n r) FX n r:=⟨fun h=>h⟩
instance Rdn.fxq {n : Nat} {x : Rat} : Rdn (QC n x) FX n (FR.of x):=⟨fun h=>QC.toFX h (QC.one h)⟩
instance Rdn.lfx {τ : MT} {τs : List MT} {b : Nat} {l : List FR} [a : LsQ τ τs] [h : RdnL τs FX b l] : Rdn τ LFX b l:=⟨fun hv=>h.ls (a.h hv)⟩
theorem LFX.up {n m : Nat} {l : List FR} {v : Value} {G : Gh} (h : (LFX n l).t v G) (e : n ≤ m) : (LFX m l).t v G:=LS.convM (T:=FX n) (U:=FX m) (f:=fun r=>r) h (by simp) fun _ _ _ _ hv=>FX.up hv e
instance {n : Nat} {l : List FR} : AsT (LS (some 3) (l.map (FX n))) (LFX n) l:=⟨fun h=>h⟩
class NG (τ : MT) (τ' : outParam MT) : Prop where
  h : ∀ {v : Value} {G : Gh},τ.t v G → τ'.t v G
instance NG.of {τ : MT} {b : Nat} {l : List FR} [h : Rdn τ LFX b l] : NG τ (LFX b l):=⟨fun hv=>h.h hv⟩
instance {n : Nat} : AsT (FX 1 default) (QV (n + 1)) 0:=⟨fun h=>FX.toQV (FX.up h (by omega))⟩
instance AsTL.fv {n : Nat} {l : List FR} : AsTL (l.map (FX n)) (QV n) (l.map FR.val):=⟨by simp,fun i τ hi=>by
  rw [List.getElem?_map] at hi
  cases hx : l[i]? with
  | none=>rw [hx] at hi;cases hi
  | some r=>rw [hx] at hi;cases hi;exact ⟨r.val,by simp [hx],fun h=>FX.toQV h⟩⟩
theorem pairF_l2 {l : List Rat} (h : l.length ≤ 2) : (pairF l).length = 2:=by unfold pairF;simp;omega
theorem good_no {l : List FR} {j : Nat} (h : l.all goodR = true) (hj : j < l.length) (hc : (!(l.getD j default).ok || decide ((l.getD j default).val.num.sign < 0)) = true) : False:=by
  have hm : l.getD j default ∈ l:=by rw [List.getD_eq_getElem?_getD,List.getElem?_eq_getElem hj];exact List.getElem_mem hj
  have:=List.all_eq_true.1 h _ hm
  unfold goodR at this
  rw [Bool.and_eq_true,decide_eq_true_eq] at this
  rw [this.1,Bool.not_true,Bool.false_or,decide_eq_true_eq] at hc
  have:=(nsg (l.getD j default).val).1 hc
  grind
instance {n : Nat} {l : List FR} : Con Tryz.prog 129 [LFX n l] (l.length ≤ 2 ∧ 1 ≤ n) (LS (some 3) ((pairF (l.map FR.val)).map (QV n))):=.o1 fun hok h1 hp=>by
  obtain ⟨n,rfl⟩ : ∃ k,n = k + 1:=⟨n - 1,by omega⟩
  refine St.enter (N:=11) Tryz.func129 rfl rfl rfl hok (enter1 h1) fun a=>?_
  have own6 : OwnAt 6:=⟨⟩
  repeat' (first|((with_reducible refine gS_ ?_);first|((with_reducible refine gL_ ?_);first|refine W.run ?_ fun a w G=>?_|refine W.mv fun a w G=>?_|refine W.asg fun a w G=>?_|refine W.bx fun b a w G=>?_|(refine W.nn hK ?_;clear hK K)|refine W.nl ?_|refine W.al fun b a w G=>?_|refine W.st fun w=>?_|refine W.stp fun w=>?_|refine W.ste ?_ fun w=>?_)|((with_reducible refine gC_ ?_);first|refine W.reg fun K hK=>?_|refine W.reg1 ?_|refine W.sq fun K hK=>?_|refine W.ds ?_ (fun β a w G hu=>W.fin ?_ hu) mixedOrders (by kernel_rfl)|refine W.sk ?_|refine W.cd (fun hc=>?_) (fun hc=>?_)|refine W.cb (fun hc=>?_) (fun hc=>?_)|refine W.bl ?_|refine W.ex ?_|refine W.rt ?_)|((with_reducible refine W.kn hK ?_);clear hK K)|(with_reducible first|refine W.bn ?_|refine W.xt ?_|refine W.xb ?_|refine W.xo ?_|refine W.tr ?_|refine W.br ?_)|refine W.rt1 rfl ?_|refine W.rt2 rfl ?_ ?_|refine W.rt3 rfl ?_ ?_ ?_)|refine W.bso (QV (n+1)) ?_ fun b a w G=>?_|refine W.cp ?_ fun a w G=>?_|refine W.fz 2 ?_ fun G=>?_|clear hK K|clear hu|exact True.intro|exact Nat.le_trans (by clear hp;omega) hp|exact Nat.le_trans (by clear hp;omega) hp.1|exact Nat.le_trans (by clear hp;omega) hp.2|(clear hp;omega)|apply And.intro|refine GI.i fun _=>?_|with_reducible rfl|decide|(simp only [List.length_cons,List.length_nil];omega))
  all_goals first
    | omega
    | rfl
    | (simp only [LIM,List.length_append,List.length_take,List.length_drop,List.length_map,List.length_cons,List.length_nil];omega)
    | skip
instance {n : Nat} {l : List Rat} : Con Tryz.prog 128 [LS (some 3) (l.map (QV n))] (l.length = 2 ∧ n + n + 1 ≤ BIG) (MT.tup2 (QC (n + n + 1) (l.getD 0 default + l.getD 1 default)) (QC (n + n) (l.getD 0 default * l.getD 1 default))):=.o1 fun hok h1 hp=>by
  refine St.enter (N:=18) Tryz.func128 rfl rfl rfl hok (enter1 h1) fun a=>?_
  repeat' (first|((with_reducible refine gS_ ?_);first|((with_reducible refine gL_ ?_);first|refine W.run ?_ fun a w G=>?_|refine W.mv fun a w G=>?_|refine W.asg fun a w G=>?_|refine W.bx fun b a w G=>?_|(refine W.nn hK ?_;clear hK K)|refine W.nl ?_|refine W.al fun b a w G=>?_|refine W.st fun w=>?_|refine W.stp fun w=>?_|refine W.ste ?_ fun w=>?_)|((with_reducible refine gC_ ?_);first|refine W.reg fun K hK=>?_|refine W.reg1 ?_|refine W.sq fun K hK=>?_|refine W.ds ?_ (fun β a w G hu=>W.fin ?_ hu) mixedOrders (by kernel_rfl)|refine W.sk ?_|refine W.cd (fun hc=>?_) (fun hc=>?_)|refine W.cb (fun hc=>?_) (fun hc=>?_)|refine W.bl ?_|refine W.ex ?_|refine W.rt ?_)|((with_reducible refine W.kn hK ?_);clear hK K)|(with_reducible first|refine W.bn ?_|refine W.xt ?_|refine W.xb ?_|refine W.xo ?_|refine W.tr ?_|refine W.br ?_)|refine W.rt1 rfl ?_|refine W.rt2 rfl ?_ ?_|refine W.rt3 rfl ?_ ?_ ?_)|clear hK K|clear hu|exact True.intro|exact Nat.le_trans (by clear hp;omega) hp|exact Nat.le_trans (by clear hp;omega) hp.1|exact Nat.le_trans (by clear hp;omega) hp.2|(clear hp;omega)|apply And.intro|refine GI.i fun _=>?_|with_reducible rfl|decide|(simp only [List.length_cons,List.length_nil];omega))
  all_goals first | omega | rfl | skip
instance {n m : Nat} {l k : List FR} : Con Tryz.prog 91 [LFX n l,LFX m k] (l.length ≤ 2 ∧ k.length ≤ 2 ∧ 1 ≤ n ∧ 1 ≤ m ∧ 200 * n + 200 * m + 10000 ≤ BIG) (IT (compareF (l.map FR.val) (k.map FR.val))):=.o2 fun hok h1 h2 hp=>by
  refine St.enter (N:=27) Tryz.func91 rfl rfl rfl hok (enter2 h1 h2) fun a=>?_
  have e1:=pairF_l2 (l:=l.map FR.val) (by simpa using hp.1)
  have e2:=pairF_l2 (l:=k.map FR.val) (by simpa using hp.2.1)
  repeat' (first|((with_reducible refine gS_ ?_);first|((with_reducible refine gL_ ?_);first|refine W.run ?_ fun a w G=>?_|refine W.mv fun a w G=>?_|refine W.asg fun a w G=>?_|refine W.bx fun b a w G=>?_|(refine W.nn hK ?_;clear hK K)|refine W.nl ?_|refine W.al fun b a w G=>?_|refine W.st fun w=>?_|refine W.stp fun w=>?_|refine W.ste ?_ fun w=>?_)|((with_reducible refine gC_ ?_);first|refine W.reg fun K hK=>?_|refine W.reg1 ?_|refine W.sq fun K hK=>?_|refine W.ds ?_ (fun β a w G hu=>W.fin ?_ hu) mixedOrders (by kernel_rfl)|refine W.sk ?_|refine W.cd (fun hc=>?_) (fun hc=>?_)|refine W.cb (fun hc=>?_) (fun hc=>?_)|refine W.bl ?_|refine W.ex ?_|refine W.rt ?_)|((with_reducible refine W.kn hK ?_);clear hK K)|(with_reducible first|refine W.bn ?_|refine W.xt ?_|refine W.xb ?_|refine W.xo ?_|refine W.tr ?_|refine W.br ?_)|refine W.rt1 rfl ?_|refine W.rt2 rfl ?_ ?_|refine W.rt3 rfl ?_ ?_ ?_)|clear hK K|clear hu|exact True.intro|exact Nat.le_trans (by clear hp;omega) hp|exact Nat.le_trans (by clear hp;omega) hp.1|exact Nat.le_trans (by clear hp;omega) hp.2|(clear hp;omega)|apply And.intro|refine GI.i fun _=>?_|with_reducible rfl|decide|(simp only [List.length_cons,List.length_nil];omega))
  all_goals first | omega | rfl | skip
theorem w48 {n m : Nat} {l k : List FR} : Con Tryz.prog 48 [LFX n l,LFX m k] (l.length ≤ 2 ∧ k.length ≤ 2 ∧ 1 ≤ n ∧ 1 ≤ m ∧ 400 * n + 400 * m + 10000 ≤ BIG ∧ l.all goodR = true ∧ k.all goodR = true) (MT.tup2 (IT (compareF (l.map FR.val) (k.map FR.val))) (.ex (errV 46 (0)))):=.o2 fun hok h1 h2 hp=>by
  replace h1:=LFX.up h1 (Nat.le_max_left n m)
  replace h2:=LFX.up h2 (Nat.le_max_right n m)
  refine St.enter (N:=47) Tryz.func48 rfl rfl rfl hok (enter2 h1 h2) fun a=>?_
  repeat' (first|((with_reducible refine gS_ ?_);first|((with_reducible refine gL_ ?_);first|refine W.run ?_ fun a w G=>?_|refine W.mv fun a w G=>?_|refine W.asg fun a w G=>?_|refine W.bx fun b a w G=>?_|(refine W.nn hK ?_;clear hK K)|refine W.nl ?_|refine W.al fun b a w G=>?_|refine W.st fun w=>?_|refine W.stp fun w=>?_|refine W.ste ?_ fun w=>?_)|((with_reducible refine gC_ ?_);first|refine W.reg fun K hK=>?_|refine W.reg1 ?_|refine W.sq fun K hK=>?_|refine W.ds ?_ (fun β a w G hu=>W.fin ?_ hu) mixedOrders (by kernel_rfl)|refine W.sk ?_|refine W.cd (fun hc=>?_) (fun hc=>?_)|refine W.cb (fun hc=>?_) (fun hc=>?_)|refine W.bl ?_|refine W.ex ?_|refine W.rt ?_)|((with_reducible refine W.kn hK ?_);clear hK K)|(with_reducible first|refine W.bn ?_|refine W.xt ?_|refine W.xb ?_|refine W.xo ?_|refine W.tr ?_|refine W.br ?_)|refine W.rt1 rfl ?_|refine W.rt2 rfl ?_ ?_|refine W.rt3 rfl ?_ ?_ ?_)|refine W.lp 24 (α:=Nat) (fun i=>2 - i) (fun i=>i ≤ 2) [4,5,7,9,21,22,23,24,25,26,27,28,29,30,31,32,33,34,35,36,37,38,39,40,41,42,43] (fun i=>[(23,NT i),(22,NT 2),(21,LS none ([l,k].map (LFX (max n m))))]) (fun i=>[]) (0) ?_ ?_ ?_ fun i hi a w G=>?_|refine W.ag (x:=i) (i+1) ?_ ?_ ?_ ?_|refine W.lp 30 (α:=Nat) (fun j=>([l,k].getD i default).length - j) (fun j=>j ≤ ([l,k].getD i default).length) [4,5,9,29,30,31,32,33,34,35,36,37,38,39,40,41,42] (fun j=>[(29,NT j)]) (fun j=>[]) (0) ?_ ?_ ?_ fun j hj a w G=>?_|refine W.ag (x:=j) (j+1) ?_ ?_ ?_ ?_|clear hK K|clear hu|exact True.intro|exact Nat.le_trans (by clear hp;omega) hp|exact Nat.le_trans (by clear hp;omega) hp.1|exact Nat.le_trans (by clear hp;omega) hp.2|(clear hp;omega)|apply And.intro|refine GI.i fun _=>?_|with_reducible rfl|decide|(simp only [List.length_cons,List.length_nil];omega))
  all_goals (try have hl2 : ([l,k].getD i default).length ≤ 2:=by (match i with | 0=>exact hp.1 | 1=>exact hp.2.1 | _ + 2=>exact Nat.zero_le 2))
  all_goals (try have hg2 : ([l,k].getD i default).all goodR = true:=by (match i with | 0=>exact hp.2.2.2.2.2.1 | 1=>exact hp.2.2.2.2.2.2 | _ + 2=>rfl))
  all_goals first
    | omega
    | rfl
    | (exfalso;simp only [Bool.or_eq_true,decide_eq_true_eq] at *;omega)
    | (exfalso;exact good_no hg2 (by omega) hc)
    | skip
instance {n m : Nat} {l k : List FR} {τ1 : MT} [j1 : NG τ1 (LFX n l)] {τ2 : MT} [j2 : NG τ2 (LFX m k)] : Con Tryz.prog 48 [τ1,τ2] (l.length ≤ 2 ∧ k.length ≤ 2 ∧ 1 ≤ n ∧ 1 ≤ m ∧ 400 * n + 400 * m + 10000 ≤ BIG ∧ l.all goodR = true ∧ k.all goodR = true) (MT.tup2 (IT (compareF (l.map FR.val) (k.map FR.val))) (.ex (errV 46 (0)))):=.o2 fun hok h1 h2 hp=>w48.c2 hok (j1.h h1) (j2.h h2) hp
theorem sld_pos {n : Nat} {a b e : FR} {v : Value} {G : Gh} (h : (PTS [(some 3,FX n a),(some 3,FX n b),(some 3,FX n e)]).t v G) : 1 ≤ n:=by
  obtain ⟨us,_,hl,hE⟩:=h
  match us,hl with
  | u :: us,_=>exact (hE 0 _ u rfl rfl).2.1
def slC (a b e : FR) : Int:=if e.ok then (if [a,b].all posR then 0 else 3) else 2
def slN (a b e : FR) : Int:=compareF [a.val,e.val * e.val] [b.val]
def slF (a b e : FR) : Bool:=decide (slC a b e = 0) && decide (slN a b e ≤ 0)
section
variable {a b e : FR}
theorem sl_2 (h : (!e.ok) = true) : slC a b e = 2:=by unfold slC;rw [if_neg (by simpa using h)]
theorem sl_3 (h0 : (!e.ok) = false) (h : [a,b].all posR = false) : slC a b e = 3:=by unfold slC;rw [if_pos (by simpa using h0),if_neg (by rw [h];decide)]
theorem sl_0 (h0 : (!e.ok) = false) (h : [a,b].all posR = true) : slC a b e = 0:=by unfold slC;rw [if_pos (by simpa using h0),if_pos h]
theorem sl_ok (h : slC a b e = 0) : e.ok = true ∧ [a,b].all posR = true:=by
  unfold slC at h
  split at h
  · split at h
    · exact ⟨by assumption,by assumption⟩
    · cases h
  · cases h
theorem sl_pos (h : slC a b e = 0) : 0 < a.val ∧ 0 < b.val:=by
  have:=(sl_ok h).2
  simp only [List.all_cons,List.all_nil,Bool.and_true,Bool.and_eq_true] at this
  exact ⟨posR_val this.1,posR_val this.2⟩
theorem sq_nnq (x : Rat) : 0 ≤ x * x:=by
  rcases (Rat.le_total : 0 ≤ x ∨ x ≤ 0) with h | h
  · exact Rat.mul_nonneg h h
  · have:=Rat.mul_nonneg (show 0 ≤ -x by grind) (show 0 ≤ -x by grind);grind
theorem sl_good (h : slC a b e = 0) : [a,FR.of (e.val * e.val)].all goodR = true ∧ [b].all goodR = true:=by
  have:=(sl_ok h).2
  simp only [List.all_cons,List.all_nil,Bool.and_true,Bool.and_eq_true] at this ⊢
  have g : ∀ r : FR,posR r = true → goodR r = true:=fun r hr=>by unfold posR at hr;unfold goodR;rw [Bool.and_eq_true,decide_eq_true_eq] at hr ⊢;exact ⟨hr.1,by grind⟩
  refine ⟨⟨g _ this.1,?_⟩,g _ this.2⟩
  unfold goodR;rw [FR.of_ok,FR.of_val,Bool.true_and,decide_eq_true_eq];exact sq_nnq _
theorem sl_f0 (h : slC a b e ≠ 0) : slF a b e = false:=by unfold slF;rw [decide_eq_false h];rfl
theorem sl_f1 (h : ¬ slC a b e ≠ 0) : slF a b e = decide (slN a b e ≤ 0):=by unfold slF;rw [decide_eq_true (show slC a b e = 0 by omega),Bool.true_and]
end
theorem w15 {n : Nat} {ra rb re : FR} : Con Tryz.prog 15 [PTS [(some 3,FX n ra),(some 3,FX n rb),(some 3,FX n re)]] (20000 * n + 500000 ≤ BIG) (.ex (errV 46 (slC ra rb re))):=.o1 fun hok h1 hp=>by
  refine St.enter (N:=30) Tryz.func15 rfl rfl rfl hok (enter1 h1) fun a=>?_
  repeat' (first|((with_reducible refine gS_ ?_);first|((with_reducible refine gL_ ?_);first|refine W.run ?_ fun a w G=>?_|refine W.mv fun a w G=>?_|refine W.asg fun a w G=>?_|refine W.bx fun b a w G=>?_|(refine W.nn hK ?_;clear hK K)|refine W.nl ?_|refine W.al fun b a w G=>?_|refine W.st fun w=>?_|refine W.stp fun w=>?_|refine W.ste ?_ fun w=>?_)|((with_reducible refine gC_ ?_);first|refine W.reg fun K hK=>?_|refine W.reg1 ?_|refine W.sq fun K hK=>?_|refine W.ds ?_ (fun β a w G hu=>W.fin ?_ hu) mixedOrders (by kernel_rfl)|refine W.sk ?_|refine W.cd (fun hc=>?_) (fun hc=>?_)|refine W.cb (fun hc=>?_) (fun hc=>?_)|refine W.bl ?_|refine W.ex ?_|refine W.rt ?_)|((with_reducible refine W.kn hK ?_);clear hK K)|(with_reducible first|refine W.bn ?_|refine W.xt ?_|refine W.xb ?_|refine W.xo ?_|refine W.tr ?_|refine W.br ?_)|refine W.rt1 rfl ?_|refine W.rt2 rfl ?_ ?_|refine W.rt3 rfl ?_ ?_ ?_)|refine W.lp 17 (α:=Nat) (fun j=>2 - j) (fun j=>j ≤ 2 ∧ ([ra,rb].take j).all posR = true) [2,4,14,15,16,17,18,19,20,21,22,23,24,25,26,27,28,29] (fun j=>[(16,NT j),(15,NT 2),(14,LS (some 3) ([ra,rb].map (FX n)))]) (fun j=>[]) (0) ?_ ?_ ?_ fun j hj a w G=>?_|refine W.ag (x:=j) (j+1) ?_ ?_ ?_ ?_|clear hK K|clear hu|exact True.intro|exact Nat.le_trans (by clear hp;omega) hp|exact Nat.le_trans (by clear hp;omega) hp.1|exact Nat.le_trans (by clear hp;omega) hp.2|(clear hp;omega)|apply And.intro|refine GI.i fun _=>?_|with_reducible rfl|decide|(simp only [List.length_cons,List.length_nil];omega))
  all_goals first
    | omega
    | rfl
    | exact sl_2 hc
    | exact (sl_2 hc).symm
    | exact (sl_3 (by assumption) (all_not (show j < 2 by omega) (posR_t hc))).symm
    | exact all_snoc (show j < 2 by omega) hj.2 (posR_f hc)
    | exact sl_0 (by assumption) (all_end (show ¬ j < 2 by omega) hj.2)
    | exact (sl_0 (by assumption) (all_end (show ¬ j < 2 by omega) hj.2)).symm
    | skip
instance {n : Nat} {ra rb re : FR} {τ1 : MT} [j1 : NF τ1 (PTS [(some 3,FX n ra),(some 3,FX n rb),(some 3,FX n re)])] : Con Tryz.prog 15 [τ1] (20000 * n + 500000 ≤ BIG) (.ex (errV 46 (slC ra rb re))):=.o1 fun hok h1 hp=>w15.c1 hok (j1.h h1) hp
theorem w49 {n : Nat} {x : Rat} : Con Tryz.prog 49 [QV n x] (n + n ≤ BIG) (QC (n + n) (x * x)):=.o1 fun hok h1 hp=>by
  refine St.enter (N:=6) Tryz.func49 rfl rfl rfl hok (enter1 h1) fun a=>?_
  repeat' (first|((with_reducible refine gS_ ?_);first|((with_reducible refine gL_ ?_);first|refine W.run ?_ fun a w G=>?_|refine W.mv fun a w G=>?_|refine W.asg fun a w G=>?_|refine W.bx fun b a w G=>?_|(refine W.nn hK ?_;clear hK K)|refine W.nl ?_|refine W.al fun b a w G=>?_|refine W.st fun w=>?_|refine W.stp fun w=>?_|refine W.ste ?_ fun w=>?_)|((with_reducible refine gC_ ?_);first|refine W.reg fun K hK=>?_|refine W.reg1 ?_|refine W.sq fun K hK=>?_|refine W.ds ?_ (fun β a w G hu=>W.fin ?_ hu) mixedOrders (by kernel_rfl)|refine W.sk ?_|refine W.cd (fun hc=>?_) (fun hc=>?_)|refine W.cb (fun hc=>?_) (fun hc=>?_)|refine W.bl ?_|refine W.ex ?_|refine W.rt ?_)|((with_reducible refine W.kn hK ?_);clear hK K)|(with_reducible first|refine W.bn ?_|refine W.xt ?_|refine W.xb ?_|refine W.xo ?_|refine W.tr ?_|refine W.br ?_)|refine W.rt1 rfl ?_|refine W.rt2 rfl ?_ ?_|refine W.rt3 rfl ?_ ?_ ?_)|clear hK K|clear hu|exact True.intro|exact Nat.le_trans (by clear hp;omega) hp|exact Nat.le_trans (by clear hp;omega) hp.1|exact Nat.le_trans (by clear hp;omega) hp.2|(clear hp;omega)|apply And.intro|refine GI.i fun _=>?_|with_reducible rfl|decide|(simp only [List.length_cons,List.length_nil];omega))
instance {n : Nat} {x : Rat} {τ1 : MT} [j1 : NQ τ1 (QV n x)] : Con Tryz.prog 49 [τ1] (n + n ≤ BIG) (QC (n + n) (x * x)):=.o1 fun hok h1 hp=>w49.c1 hok (j1.h h1) hp
theorem w11 {n : Nat} {ra rb re : FR} : Con Tryz.prog 11 [PTS [(some 3,FX n ra),(some 3,FX n rb),(some 3,FX n re)]] (20000 * n + 500000 ≤ BIG) (MT.tup2 (BT (slF ra rb re)) (.ex (errV 46 (slC ra rb re)))):=.o1 fun hok h1 hp=>by
  refine St.enter (N:=32) Tryz.func11 rfl rfl rfl hok (enter1 h1) fun a=>?_
  have hn1:=sld_pos h1
  repeat' (first|((with_reducible refine gS_ ?_);first|((with_reducible refine gL_ ?_);first|refine W.run ?_ fun a w G=>?_|refine W.mv fun a w G=>?_|refine W.asg fun a w G=>?_|refine W.bx fun b a w G=>?_|(refine W.nn hK ?_;clear hK K)|refine W.nl ?_|refine W.al fun b a w G=>?_|refine W.st fun w=>?_|refine W.stp fun w=>?_|refine W.ste ?_ fun w=>?_)|((with_reducible refine gC_ ?_);first|refine W.reg fun K hK=>?_|refine W.reg1 ?_|refine W.sq fun K hK=>?_|refine W.ds ?_ (fun β a w G hu=>W.fin ?_ hu) mixedOrders (by kernel_rfl)|refine W.sk ?_|refine W.cd (fun hc=>?_) (fun hc=>?_)|refine W.cb (fun hc=>?_) (fun hc=>?_)|refine W.bl ?_|refine W.ex ?_|refine W.rt ?_)|((with_reducible refine W.kn hK ?_);clear hK K)|(with_reducible first|refine W.bn ?_|refine W.xt ?_|refine W.xb ?_|refine W.xo ?_|refine W.tr ?_|refine W.br ?_)|refine W.rt1 rfl ?_|refine W.rt2 rfl ?_ ?_|refine W.rt3 rfl ?_ ?_ ?_)|clear hK K|clear hu|exact True.intro|exact Nat.le_trans (by clear hp;omega) hp|exact Nat.le_trans (by clear hp;omega) hp.1|exact Nat.le_trans (by clear hp;omega) hp.2|(clear hp;omega)|apply And.intro|refine GI.i fun _=>?_|with_reducible rfl|decide|(simp only [List.length_cons,List.length_nil];omega))
  all_goals first
    | omega
    | exact (sl_f0 (by assumption)).symm
    | exact (sl_good (b:=rb) (Classical.not_not.1 hc)).1
    | exact (sl_good (a:=ra) (e:=re) (Classical.not_not.1 hc)).2
    | (rw [sl_f1 hc];simp only [List.map_cons,List.map_nil,FR.of_val];rfl)
    | (simp;done)
    | skip
instance {n : Nat} {ra rb re : FR} {τ1 : MT} [j1 : NF τ1 (PTS [(some 3,FX n ra),(some 3,FX n rb),(some 3,FX n re)])] : Con Tryz.prog 11 [τ1] (20000 * n + 500000 ≤ BIG) (MT.tup2 (BT (slF ra rb re)) (.ex (errV 46 (slC ra rb re)))):=.o1 fun hok h1 hp=>w11.c1 hok (j1.h h1) hp
def slX (a b e : FR) (h : Bool) (t : Rat) : Rat:=b.val - a.val * (dirS h t * dirS h t) - e.val * e.val
def slY (e : FR) (h : Bool) (t : Rat) : Rat:=2 * (e.val * dirS h t)
def slS (a b e : FR) (h : Bool) (t : Rat) : Int:=surdF (slX a b e h t) (slY e h t) a.val
def slE (a b e : FR) (h : Bool) (t : FR) : Int:=if slC a b e = 0 then (if trnF h t then (if slS a b e h t.val < 0 then 16 else 0) else 2) else slC a b e
def slR (a b e : FR) (h : Bool) (t : FR) : List (List Rat):=if slE a b e h t = 0 then (if slS a b e h t.val = 0 then [[a.val]] else [[a.val],[slX a b e h t.val,slY e h t.val]]) else []
def slL (a b e : FR) (h : Bool) (t : FR) : List (List Rat):=if slE a b e h t = 0 then (if slS a b e h t.val = 0 then [[0,dirC h t.val]] else [[0,dirC h t.val,1,0],[0,dirC h t.val,-1,0]]) else []
section
variable {a b e t : FR} {h : Bool}
theorem sle_c (h0 : slC a b e ≠ 0) : slE a b e h t = slC a b e:=by unfold slE;rw [if_neg h0]
theorem sle_2 (h0 : ¬ slC a b e ≠ 0) (h1 : trnF h t = false) : slE a b e h t = 2:=by unfold slE;rw [if_pos (by omega),if_neg (by rw [h1];decide)]
theorem sle_16 (h0 : ¬ slC a b e ≠ 0) (h1 : trnF h t = true) (h2 : slS a b e h t.val < 0) : slE a b e h t = 16:=by unfold slE;rw [if_pos (by omega),if_pos h1,if_pos h2]
theorem sle_0 (h0 : ¬ slC a b e ≠ 0) (h1 : trnF h t = true) (h2 : ¬ slS a b e h t.val < 0) : slE a b e h t = 0:=by unfold slE;rw [if_pos (by omega),if_pos h1,if_neg h2]
theorem sle_n (h0 : slE a b e h t ≠ 0) : slR a b e h t = [] ∧ slL a b e h t = []:=⟨if_neg h0,if_neg h0⟩
theorem sle_s (h0 : slE a b e h t = 0) (h1 : slS a b e h t.val = 0) : slR a b e h t = [[a.val]] ∧ slL a b e h t = [[0,dirC h t.val]]:=⟨by unfold slR;rw [if_pos h0,if_pos h1],by unfold slL;rw [if_pos h0,if_pos h1]⟩
theorem sle_t (h0 : slE a b e h t = 0) (h1 : ¬ slS a b e h t.val = 0) : slR a b e h t = [[a.val],[slX a b e h t.val,slY e h t.val]] ∧ slL a b e h t = [[0,dirC h t.val,1,0],[0,dirC h t.val,-1,0]]:=⟨by unfold slR;rw [if_pos h0,if_neg h1],by unfold slL;rw [if_pos h0,if_neg h1]⟩
theorem trc_t (h1 : trnC h t ≠ 0) : trnF h t = false:=by unfold trnC at h1;split at h1 <;> simp_all
theorem trc_f (h1 : ¬ trnC h t ≠ 0) : trnF h t = true:=by unfold trnC at h1;split at h1 <;> simp_all
theorem sls_eq (h0 : ¬ slC a b e ≠ 0) {x : Rat} : sgL [[a.val]] [slX a b e h x,slY e h x] = slS a b e h x:=sg1 (Rat.le_of_lt (sl_pos (Classical.not_not.1 h0)).1)
end
attribute [local irreducible] trnF slC slS slE
theorem w12 {n m : Nat} {ra rb re t : FR} {h : Bool} : Con Tryz.prog 12 [PTS [(some 3,FX n ra),(some 3,FX n rb),(some 3,FX n re)],TRN m t h] (20000 * n + 20000 * m + 500000 ≤ BIG) (MT.tup3 (TWR (60 * n + 60 * m + 2000) (slR ra rb re h t)) (RTS (60 * n + 60 * m + 2000) (slL ra rb re h t)) (.ex (errV 46 (slE ra rb re h t)))):=.o2 fun hok h1 h2 hp=>by
  refine St.enter (N:=106) Tryz.func12 rfl rfl rfl hok (enter2 h1 h2) fun a=>?_
  have hn1:=sld_pos h1
  repeat' (first|((with_reducible refine gS_ ?_);first|((with_reducible refine gL_ ?_);first|refine W.run ?_ fun a w G=>?_|refine W.mv fun a w G=>?_|refine W.asg fun a w G=>?_|refine W.bx fun b a w G=>?_|(refine W.nn hK ?_;clear hK K)|refine W.nl ?_|refine W.al fun b a w G=>?_|refine W.st fun w=>?_|refine W.stp fun w=>?_|refine W.ste ?_ fun w=>?_)|((with_reducible refine gC_ ?_);first|refine W.reg fun K hK=>?_|refine W.reg1 ?_|refine W.sq fun K hK=>?_|refine W.ds ?_ (fun β a w G hu=>W.fin ?_ hu) mixedOrders (by kernel_rfl)|refine W.sk ?_|refine W.cd (fun hc=>?_) (fun hc=>?_)|refine W.cb (fun hc=>?_) (fun hc=>?_)|refine W.bl ?_|refine W.ex ?_|refine W.rt ?_)|((with_reducible refine W.kn hK ?_);clear hK K)|(with_reducible first|refine W.bn ?_|refine W.xt ?_|refine W.xb ?_|refine W.xo ?_|refine W.tr ?_|refine W.br ?_)|refine W.rt1 rfl ?_|refine W.rt2 rfl ?_ ?_|refine W.rt3 rfl ?_ ?_ ?_)|clear hK K|clear hu|exact True.intro|exact Nat.le_trans (by clear hp;omega) hp|exact Nat.le_trans (by clear hp;omega) hp.1|exact Nat.le_trans (by clear hp;omega) hp.2|(clear hp;omega)|apply And.intro|refine GI.i fun _=>?_|with_reducible rfl|decide|(simp only [List.length_cons,List.length_nil];omega))
  all_goals first
    | omega
    | (simp only [LIM,List.length_cons,List.length_nil];omega)
    | exact (sle_n (by rw [sle_c (by assumption)];assumption)).1.symm
    | exact (sle_n (by rw [sle_c (by assumption)];assumption)).1
    | exact (sle_n (by rw [sle_c (by assumption)];assumption)).2
    | exact (sle_n (by rw [sle_c (by assumption)];assumption)).2.symm
    | (rw [sle_c (by assumption)])
    | (have ht := trc_t (by assumption)
       have h2:=sle_2 (by assumption) ht
       first
       | exact (sle_n (by rw [h2];decide)).1.symm
       | exact (sle_n (by rw [h2];decide)).1
       | exact (sle_n (by rw [h2];decide)).2
       | exact (sle_n (by rw [h2];decide)).2.symm
       | (rw [h2]))
    | (have ht := trc_f (by assumption)
       first
       | exact ht
       | exact tok1 (Rat.le_of_lt (sl_pos (Classical.not_not.1 (by assumption))).1)
       | exact pw2 (Nat.le_refl 1)
       | (show sB 1 _ _ ≤ BIG;rw [sB1];omega)
       | (have e0 : ∀ x : Rat, x + (default : FR).val = x := fun x => by rw [zv0']; grind
          have hs : sgL [[ra.val]] [rb.val - ra.val * (dirS h t.val * dirS h t.val) - re.val * re.val,2 * (re.val * dirS h t.val)] = slS ra rb re h t.val:=sls_eq (by assumption)
          (try simp only [e0,hs] at *)
          first
          | exact tok1 (Rat.le_of_lt (sl_pos (Classical.not_not.1 (by assumption))).1)
          | (have h16 := sle_16 (by assumption) ht (by assumption)
             first
             | exact h16
             | exact h16.symm
             | exact (sle_n (by rw [h16];decide)).1.symm
             | exact (sle_n (by rw [h16];decide)).2
             | exact (sle_n (by rw [h16];decide)).2.symm)
          | (have hz := sle_0 (by assumption) ht (by assumption)
             first
             | exact hz
             | exact hz.symm
             | exact (sle_s hz (by assumption)).1.symm
             | exact (sle_s hz (by assumption)).2
             | exact (sle_s hz (by assumption)).2.symm
             | exact (sle_t hz (by assumption)).1.symm
             | exact (sle_t hz (by assumption)).2
             | exact (sle_t hz (by assumption)).2.symm
             | skip)))
    | skip
instance {n m : Nat} {ra rb re t : FR} {h : Bool} {τ1 : MT} [j1 : NF τ1 (PTS [(some 3,FX n ra),(some 3,FX n rb),(some 3,FX n re)])] {τ2 : MT} [j2 : NF τ2 (TRN m t h)] : Con Tryz.prog 12 [τ1,τ2] (20000 * n + 20000 * m + 500000 ≤ BIG) (MT.tup3 (TWR (60 * n + 60 * m + 2000) (slR ra rb re h t)) (RTS (60 * n + 60 * m + 2000) (slL ra rb re h t)) (.ex (errV 46 (slE ra rb re h t)))):=.o2 fun hok h1 h2 hp=>w12.c2 hok (j1.h h1) (j2.h h2) hp
instance unitO {z : Int} {n : Nat} {ps : List (Int × Int)} [l : LitN z n] : Con Tryz.prog 64 [.ex (.int .i64 z),MP ps] (n ≤ 64 ∧ (ps.map Prod.fst).Nodup ∧ ∀ p ∈ ps,0 ≤ p.1 ∧ p.1 < n ∧ I64 p.2) (NM 64 (X.unitF n ps)):=.o2 fun hok h1 h2 hp=>by
  have e:=l.h
  subst e
  exact (inferInstance : Con Tryz.prog 64 [NT n,MP ps] _ (NM 64 (X.unitF n ps))).c2 hok h1 h2 hp
def slQ (a b e : FR) : Rat:=a.val + b.val - e.val * e.val
def slEC (a b e : FR) : Int:=if slC a b e = 0 then (if slF a b e then 0 else 16) else slC a b e
def slT (a b e : FR) : List (List Rat):=[[a.val * b.val],[slQ a b e,-2],[slQ a b e,2,0,0]]
def slET (a b e : FR) : List (List Rat):=if slEC a b e = 0 then slT a b e else []
def slEL (a b e : FR) (l : List Rat) : List Rat:=if slEC a b e = 0 then l else []
def inL : List Rat:=[0,0,1,0]
def ouL8 : List Rat:=[0,0,0,0,1,0,0,0]
def stL : List Rat:=[0,0,-1,0,1,0,0,0]
theorem un_in : X.unitF 4 [(2,1)] = inL:=by decide +kernel
theorem un_ou : X.unitF 8 [(4,1)] = ouL8:=by decide +kernel
theorem un_st : X.unitF 8 [(2,-1),(4,1)] = stL:=by decide +kernel
section
variable {a b e : FR} {l : List Rat}
theorem slec_c (h : slC a b e ≠ 0) : slEC a b e = slC a b e:=if_neg h
theorem slec_16 (h : ¬ slC a b e ≠ 0) (h2 : slF a b e = false) : slEC a b e = 16:=by unfold slEC;rw [if_pos (by omega),if_neg (by rw [h2];decide)]
theorem slec_0 (h : ¬ slC a b e ≠ 0) (h2 : slF a b e = true) : slEC a b e = 0:=by unfold slEC;rw [if_pos (by omega),if_pos h2]
theorem slec_n (h : slEC a b e ≠ 0) : slET a b e = [] ∧ slEL a b e l = []:=⟨if_neg h,if_neg h⟩
theorem slec_y (h : slEC a b e = 0) : slET a b e = slT a b e ∧ slEL a b e l = l:=⟨if_pos h,if_pos h⟩
end
attribute [local irreducible] slF slEC
theorem w63 {n : Nat} {ra rb re : FR} : Con Tryz.prog 63 [PTS [(some 3,FX n ra),(some 3,FX n rb),(some 3,FX n re)]] (20000 * n + 500000 ≤ BIG) (TWR (10 * n + 200) (slT ra rb re)):=.o1 fun hok h1 hp=>by
  refine St.enter (N:=31) Tryz.func63 rfl rfl rfl hok (enter1 h1) fun a=>?_
  have hn1:=sld_pos h1
  repeat' (first|((with_reducible refine gS_ ?_);first|((with_reducible refine gL_ ?_);first|refine W.run ?_ fun a w G=>?_|refine W.mv fun a w G=>?_|refine W.asg fun a w G=>?_|refine W.bx fun b a w G=>?_|(refine W.nn hK ?_;clear hK K)|refine W.nl ?_|refine W.al fun b a w G=>?_|refine W.st fun w=>?_|refine W.stp fun w=>?_|refine W.ste ?_ fun w=>?_)|((with_reducible refine gC_ ?_);first|refine W.reg fun K hK=>?_|refine W.reg1 ?_|refine W.sq fun K hK=>?_|refine W.ds ?_ (fun β a w G hu=>W.fin ?_ hu) mixedOrders (by kernel_rfl)|refine W.sk ?_|refine W.cd (fun hc=>?_) (fun hc=>?_)|refine W.cb (fun hc=>?_) (fun hc=>?_)|refine W.bl ?_|refine W.ex ?_|refine W.rt ?_)|((with_reducible refine W.kn hK ?_);clear hK K)|(with_reducible first|refine W.bn ?_|refine W.xt ?_|refine W.xb ?_|refine W.xo ?_|refine W.tr ?_|refine W.br ?_)|refine W.rt1 rfl ?_|refine W.rt2 rfl ?_ ?_|refine W.rt3 rfl ?_ ?_ ?_)|clear hK K|clear hu|exact True.intro|exact Nat.le_trans (by clear hp;omega) hp|exact Nat.le_trans (by clear hp;omega) hp.1|exact Nat.le_trans (by clear hp;omega) hp.2|(clear hp;omega)|apply And.intro|refine GI.i fun _=>?_|with_reducible rfl|decide|(simp only [List.length_cons,List.length_nil];omega))
  all_goals first
    | omega
    | (unfold slT slQ;simp only [zv0',Rat.add_zero];done)
    | (simp only [slT,slQ,zv0',Rat.add_zero];done)
    | skip
instance {n : Nat} {ra rb re : FR} {τ1 : MT} [j1 : NF τ1 (PTS [(some 3,FX n ra),(some 3,FX n rb),(some 3,FX n re)])] : Con Tryz.prog 63 [τ1] (20000 * n + 500000 ≤ BIG) (TWR (10 * n + 200) (slT ra rb re)):=.o1 fun hok h1 hp=>w63.c1 hok (j1.h h1) hp
theorem w24 {n : Nat} {ra rb re : FR} : Con Tryz.prog 24 [PTS [(some 3,FX n ra),(some 3,FX n rb),(some 3,FX n re)]] (20000 * n + 500000 ≤ BIG) (MT.tup4 (TWR (10 * n + 200) (slET ra rb re)) (NM 64 (slEL ra rb re inL)) (NM 64 (slEL ra rb re ouL8)) (.ex (errV 46 (slEC ra rb re)))):=.o1 fun hok h1 hp=>by
  refine St.enter (N:=29) Tryz.func24 rfl rfl rfl hok (enter1 h1) fun a=>?_
  repeat' (first|with_reducible refine X.fz 23 [(2,1)] X.mpe1 fun G=>?_|with_reducible refine X.fz 26 [(4,1)] X.mpe1 fun G=>?_|((with_reducible refine gS_ ?_);first|((with_reducible refine gL_ ?_);first|refine W.run ?_ fun a w G=>?_|refine W.mv fun a w G=>?_|refine W.asg fun a w G=>?_|refine W.bx fun b a w G=>?_|(refine W.nn hK ?_;clear hK K)|refine W.nl ?_|refine W.al fun b a w G=>?_|refine W.st fun w=>?_|refine W.stp fun w=>?_|refine W.ste ?_ fun w=>?_)|((with_reducible refine gC_ ?_);first|refine W.reg fun K hK=>?_|refine W.reg1 ?_|refine W.sq fun K hK=>?_|refine W.ds ?_ (fun β a w G hu=>W.fin ?_ hu) mixedOrders (by kernel_rfl)|refine W.sk ?_|refine W.cd (fun hc=>?_) (fun hc=>?_)|refine W.cb (fun hc=>?_) (fun hc=>?_)|refine W.bl ?_|refine W.ex ?_|refine W.rt ?_)|((with_reducible refine W.kn hK ?_);clear hK K)|(with_reducible first|refine W.bn ?_|refine W.xt ?_|refine W.xb ?_|refine W.xo ?_|refine W.tr ?_|refine W.br ?_)|refine W.rt1 rfl ?_|refine W.rt2 rfl ?_ ?_|refine W.rt3 rfl ?_ ?_ ?_)|refine X.mk fun r a w G=>?_|refine X.ins ?_ fun w=>?_|refine W.rt4 rfl ?_ ?_ ?_ ?_|clear hK K|clear hu|exact True.intro|exact Nat.le_trans (by clear hp;omega) hp|exact Nat.le_trans (by clear hp;omega) hp.1|exact Nat.le_trans (by clear hp;omega) hp.2|(clear hp;omega)|apply And.intro|refine GI.i fun _=>?_|with_reducible rfl|decide|(simp only [List.length_cons,List.length_nil];omega))
  all_goals first
    | omega
    | (intro p hp;simp only [List.mem_cons,List.not_mem_nil,or_false] at hp;first | (subst hp;decide) | (rcases hp with hp | hp <;> subst hp <;> decide))
    | decide
    | (simp;done)
    | (have hx := slec_c (by assumption)
       first
       | exact hx
       | exact hx.symm
       | exact (slec_n (l:=[]) (by rw [hx];assumption)).1
       | exact (slec_n (l:=[]) (by rw [hx];assumption)).1.symm
       | exact (slec_n (by rw [hx];assumption)).2
       | exact (slec_n (by rw [hx];assumption)).2.symm)
    | (have hx := slec_16 (by assumption) (by simpa using hc)
       first
       | exact hx
       | exact hx.symm
       | exact (slec_n (l:=[]) (by rw [hx];decide)).1
       | exact (slec_n (l:=[]) (by rw [hx];decide)).1.symm
       | exact (slec_n (by rw [hx];decide)).2
       | exact (slec_n (by rw [hx];decide)).2.symm)
    | (have hx := slec_0 (by assumption) (by simpa using hc)
       first
       | exact hx
       | exact hx.symm
       | exact (slec_y (l:=[]) hx).1
       | exact (slec_y (l:=[]) hx).1.symm
       | exact (slec_y hx).2
       | exact (slec_y hx).2.symm
       | (rw [(slec_y hx).2];first | exact un_in | exact un_ou | exact un_st)
       | skip)
    | skip
instance {n : Nat} {ra rb re : FR} {τ1 : MT} [j1 : NF τ1 (PTS [(some 3,FX n ra),(some 3,FX n rb),(some 3,FX n re)])] : Con Tryz.prog 24 [τ1] (20000 * n + 500000 ≤ BIG) (MT.tup4 (TWR (10 * n + 200) (slET ra rb re)) (NM 64 (slEL ra rb re inL)) (NM 64 (slEL ra rb re ouL8)) (.ex (errV 46 (slEC ra rb re)))):=.o1 fun hok h1 hp=>w24.c1 hok (j1.h h1) hp
end Go.Proofs.YtnjbcjmkkejfpaaGreat
set_option linter.unusedVariables false
set_option linter.unusedSimpArgs false
set_option maxHeartbeats 4000000
set_option maxRecDepth 100000
set_option synthInstance.maxSize 100000
set_option synthInstance.maxHeartbeats 400000
namespace Go.Proofs.YtnjbcjmkkejfpaaGreat
open Go.RowKit (Below)
attribute [local irreducible] Go.Code.wp Go.wpList Go.bodyPost
attribute [local irreducible] barC trnC btC
end Go.Proofs.YtnjbcjmkkejfpaaGreat
set_option linter.unusedVariables false
set_option linter.unusedSimpArgs false
set_option maxHeartbeats 4000000
set_option maxRecDepth 100000
set_option synthInstance.maxSize 100000
set_option synthInstance.maxHeartbeats 400000
namespace Go.Proofs.YtnjbcjmkkejfpaaGreat
open Go.RowKit (Below)
attribute [local irreducible] Go.Code.wp Go.wpList Go.bodyPost
attribute [local irreducible] barC trnC btC ciF dsc enR enL cirs exC ofC ofI
end Go.Proofs.YtnjbcjmkkejfpaaGreat
set_option linter.unusedVariables false
set_option linter.unusedSimpArgs false
set_option maxHeartbeats 4000000
set_option maxRecDepth 100000
set_option synthInstance.maxSize 100000
set_option synthInstance.maxHeartbeats 400000
namespace Go.Proofs.YtnjbcjmkkejfpaaGreat
open Go.RowKit (Below)
attribute [local irreducible] Go.Code.wp Go.wpList Go.bodyPost
attribute [local irreducible] barC trnC btC ciF dsc enR enL cirs exC ofC ofI dirC dirS
theorem w55 {n : Nat} {x : Rat} : Con Tryz.prog 55 [QV n x] (n ≤ BIG) (BT (decide (x.num.sign = 0))):=.o1 fun hok h1 hp=>by
  refine St.enter (N:=6) Tryz.func55 rfl rfl rfl hok (enter1 h1) fun a=>?_
  repeat' (first|((with_reducible refine gS_ ?_);first|((with_reducible refine gL_ ?_);first|refine W.run ?_ fun a w G=>?_|refine W.mv fun a w G=>?_|refine W.asg fun a w G=>?_|refine W.bx fun b a w G=>?_|(refine W.nn hK ?_;clear hK K)|refine W.nl ?_|refine W.al fun b a w G=>?_|refine W.st fun w=>?_|refine W.stp fun w=>?_|refine W.ste ?_ fun w=>?_)|((with_reducible refine gC_ ?_);first|refine W.reg fun K hK=>?_|refine W.reg1 ?_|refine W.sq fun K hK=>?_|refine W.ds ?_ (fun β a w G hu=>W.fin ?_ hu) mixedOrders (by kernel_rfl)|refine W.sk ?_|refine W.cd (fun hc=>?_) (fun hc=>?_)|refine W.cb (fun hc=>?_) (fun hc=>?_)|refine W.bl ?_|refine W.ex ?_|refine W.rt ?_)|((with_reducible refine W.kn hK ?_);clear hK K)|(with_reducible first|refine W.bn ?_|refine W.xt ?_|refine W.xb ?_|refine W.xo ?_|refine W.tr ?_|refine W.br ?_)|refine W.rt1 rfl ?_|refine W.rt2 rfl ?_ ?_|refine W.rt3 rfl ?_ ?_ ?_)|clear hK K|clear hu|exact True.intro|exact Nat.le_trans (by clear hp;omega) hp|exact Nat.le_trans (by clear hp;omega) hp.1|exact Nat.le_trans (by clear hp;omega) hp.2|(clear hp;omega)|apply And.intro|refine GI.i fun _=>?_|with_reducible rfl|decide|(simp only [List.length_cons,List.length_nil];omega))
instance iK5_88 {n : Nat} {x : Rat} {τ1 : MT} [j1 : NQ τ1 (QV n x)] : Con Tryz.prog 55 [τ1] (n ≤ BIG) (BT (decide (x.num.sign = 0))):=.o1 fun hok h1 hp=>w55.c1 hok (j1.h h1) hp
theorem w17 {m : Nat} {t : FR} {h : Bool} : Con Tryz.prog 17 [TRN m t h] (10000 * m + 100000 ≤ BIG) (BT (trnF h t)):=.o1 fun hok h1 hp=>by
  refine St.enter (N:=16) Tryz.func17 rfl rfl rfl hok (enter1 h1) fun a=>?_
  repeat' (first|((with_reducible refine gS_ ?_);first|((with_reducible refine gL_ ?_);first|refine W.run ?_ fun a w G=>?_|refine W.mv fun a w G=>?_|refine W.asg fun a w G=>?_|refine W.bx fun b a w G=>?_|(refine W.nn hK ?_;clear hK K)|refine W.nl ?_|refine W.al fun b a w G=>?_|refine W.st fun w=>?_|refine W.stp fun w=>?_|refine W.ste ?_ fun w=>?_)|((with_reducible refine gC_ ?_);first|refine W.reg fun K hK=>?_|refine W.reg1 ?_|refine W.sq fun K hK=>?_|refine W.ds ?_ (fun β a w G hu=>W.fin ?_ hu) mixedOrders (by kernel_rfl)|refine W.sk ?_|refine W.cd (fun hc=>?_) (fun hc=>?_)|refine W.cb (fun hc=>?_) (fun hc=>?_)|refine W.bl ?_|refine W.ex ?_|refine W.rt ?_)|((with_reducible refine W.kn hK ?_);clear hK K)|(with_reducible first|refine W.bn ?_|refine W.xt ?_|refine W.xb ?_|refine W.xo ?_|refine W.tr ?_|refine W.br ?_)|refine W.rt1 rfl ?_|refine W.rt2 rfl ?_ ?_|refine W.rt3 rfl ?_ ?_ ?_)|clear hK K|clear hu|exact True.intro|exact Nat.le_trans (by clear hp;omega) hp|exact Nat.le_trans (by clear hp;omega) hp.1|exact Nat.le_trans (by clear hp;omega) hp.2|(clear hp;omega)|apply And.intro|refine GI.i fun _=>?_|with_reducible rfl|decide|(simp only [List.length_cons,List.length_nil];omega))
  all_goals (unfold trnF;grind)
instance iK5_89 {m : Nat} {t : FR} {h : Bool} {τ1 : MT} [j1 : NF τ1 (TRN m t h)] : Con Tryz.prog 17 [τ1] (10000 * m + 100000 ≤ BIG) (BT (trnF h t)):=.o1 fun hok h1 hp=>w17.c1 hok (j1.h h1) hp
theorem w37 {n m k l : Nat} {x y z u : Rat} : Con Tryz.prog 37 [PTS [(some 3,QV (n) (x)),(some 3,QV (m) (y))],PTS [(some 3,QV (k) (z)),(some 3,QV (l) (u))]] (n + m + k + l + 1 ≤ BIG) (PTS [(some 3,QC (n + k + 1) (x - z)),(some 3,QC (m + l + 1) (y - u))]):=.o2 fun hok h1 h2 hp=>by
  refine St.enter (N:=16) Tryz.func37 rfl rfl rfl hok (enter2 h1 h2) fun a=>?_
  repeat' (first|((with_reducible refine gS_ ?_);first|((with_reducible refine gL_ ?_);first|refine W.run ?_ fun a w G=>?_|refine W.mv fun a w G=>?_|refine W.asg fun a w G=>?_|refine W.bx fun b a w G=>?_|(refine W.nn hK ?_;clear hK K)|refine W.nl ?_|refine W.al fun b a w G=>?_|refine W.st fun w=>?_|refine W.stp fun w=>?_|refine W.ste ?_ fun w=>?_)|((with_reducible refine gC_ ?_);first|refine W.reg fun K hK=>?_|refine W.reg1 ?_|refine W.sq fun K hK=>?_|refine W.ds ?_ (fun β a w G hu=>W.fin ?_ hu) mixedOrders (by kernel_rfl)|refine W.sk ?_|refine W.cd (fun hc=>?_) (fun hc=>?_)|refine W.cb (fun hc=>?_) (fun hc=>?_)|refine W.bl ?_|refine W.ex ?_|refine W.rt ?_)|((with_reducible refine W.kn hK ?_);clear hK K)|(with_reducible first|refine W.bn ?_|refine W.xt ?_|refine W.xb ?_|refine W.xo ?_|refine W.tr ?_|refine W.br ?_)|refine W.rt1 rfl ?_|refine W.rt2 rfl ?_ ?_|refine W.rt3 rfl ?_ ?_ ?_)|clear hK K|clear hu|exact True.intro|exact Nat.le_trans (by clear hp;omega) hp|exact Nat.le_trans (by clear hp;omega) hp.1|exact Nat.le_trans (by clear hp;omega) hp.2|(clear hp;omega)|apply And.intro|refine GI.i fun _=>?_|with_reducible rfl|decide|(simp only [List.length_cons,List.length_nil];omega))
instance iK5_92 {n m k l : Nat} {x y z u : Rat} {τ1 : MT} [j1 : NQ τ1 (PTS [(some 3,QV (n) (x)),(some 3,QV (m) (y))])] {τ2 : MT} [j2 : NQ τ2 (PTS [(some 3,QV (k) (z)),(some 3,QV (l) (u))])] : Con Tryz.prog 37 [τ1,τ2] (n + m + k + l + 1 ≤ BIG) (PTS [(some 3,QC (n + k + 1) (x - z)),(some 3,QC (m + l + 1) (y - u))]):=.o2 fun hok h1 h2 hp=>w37.c2 hok (j1.h h1) (j2.h h2) hp
theorem w36 {n m : Nat} {x y : Rat} : Con Tryz.prog 36 [PTS [(some 3,QV (n) (x)),(some 3,QV (m) (y))]] (4 * n + 4 * m + 1 ≤ BIG) (QC (2 * n + 2 * m + 1) (d2F x y)):=.o1 fun hok h1 hp=>by
  refine St.enter (N:=14) Tryz.func36 rfl rfl rfl hok (enter1 h1) fun a=>?_
  repeat' (first|((with_reducible refine gS_ ?_);first|((with_reducible refine gL_ ?_);first|refine W.run ?_ fun a w G=>?_|refine W.mv fun a w G=>?_|refine W.asg fun a w G=>?_|refine W.bx fun b a w G=>?_|(refine W.nn hK ?_;clear hK K)|refine W.nl ?_|refine W.al fun b a w G=>?_|refine W.st fun w=>?_|refine W.stp fun w=>?_|refine W.ste ?_ fun w=>?_)|((with_reducible refine gC_ ?_);first|refine W.reg fun K hK=>?_|refine W.reg1 ?_|refine W.sq fun K hK=>?_|refine W.ds ?_ (fun β a w G hu=>W.fin ?_ hu) mixedOrders (by kernel_rfl)|refine W.sk ?_|refine W.cd (fun hc=>?_) (fun hc=>?_)|refine W.cb (fun hc=>?_) (fun hc=>?_)|refine W.bl ?_|refine W.ex ?_|refine W.rt ?_)|((with_reducible refine W.kn hK ?_);clear hK K)|(with_reducible first|refine W.bn ?_|refine W.xt ?_|refine W.xb ?_|refine W.xo ?_|refine W.tr ?_|refine W.br ?_)|refine W.rt1 rfl ?_|refine W.rt2 rfl ?_ ?_|refine W.rt3 rfl ?_ ?_ ?_)|clear hK K|clear hu|exact True.intro|exact Nat.le_trans (by clear hp;omega) hp|exact Nat.le_trans (by clear hp;omega) hp.1|exact Nat.le_trans (by clear hp;omega) hp.2|(clear hp;omega)|apply And.intro|refine GI.i fun _=>?_|with_reducible rfl|decide|(simp only [List.length_cons,List.length_nil];omega))
  all_goals rfl
instance iK5_93 {n m : Nat} {x y : Rat} {τ1 : MT} [j1 : NQ τ1 (PTS [(some 3,QV (n) (x)),(some 3,QV (m) (y))])] : Con Tryz.prog 36 [τ1] (4 * n + 4 * m + 1 ≤ BIG) (QC (2 * n + 2 * m + 1) (d2F x y)):=.o1 fun hok h1 hp=>w36.c1 hok (j1.h h1) hp
end Go.Proofs.YtnjbcjmkkejfpaaGreat
set_option linter.unusedVariables false
set_option linter.unusedSimpArgs false
namespace Go.Proofs.YtnjbcjmkkejfpaaGreat
theorem vlL_plus {rs : List (List Rat)} {a b : List Rat} : vlL rs (plusF a b) = vlL rs a + vlL rs b:=by unfold vlL;rw [El.toE_plus,El.vl_add]
theorem vlL_minus {rs : List (List Rat)} {a : List Rat} : vlL rs (minusF a) = -vlL rs a:=by unfold vlL;rw [El.toE_minus,El.vl_neg]
theorem vlL_cf {rs : List (List Rat)} {a b : List Rat} (h : ∀ x,cf a x = cf b x) : vlL rs a = vlL rs b:=by unfold vlL;rw [El.toE_cf h]
theorem vlL_sho {rs : List (List Rat)} {k : Nat} {a : List Rat} (hk : k ≤ 5) (h : PW k a) : vlL rs (shoF a) = vlL rs a:=vlL_cf (sho_ok hk h).2.2.1
theorem vlL_tm {rs : List (List Rat)} (ht : TOK rs) {a b : List Rat} (ha : PW rs.length a) (hb : PW rs.length b) : vlL rs (tmF rs a b) = vlL rs a * vlL rs b:=by
  have h5:=ht.1
  have hp:=PW.tm ht.2.1 (Nat.le_refl _) ha hb
  rw [El.vl_at (k:=rs.length) h5 ha.le,El.vl_at (k:=rs.length) h5 hb.le,El.vl_at (k:=rs.length) h5 hp.le,(tm_ok ht.2.1 (Nat.le_refl _) ha hb).1,El.vl_mul ht.ok]
theorem pw_lvM {K : Nat} {l k : List Rat} (hl : PW K l) (hk : PW K k) : lev (max l.length k.length) ≤ K ∧ PW (lev (max l.length k.length)) l ∧ PW (lev (max l.length k.length)) k:=by
  have key : ∀ {a b : List Rat},PW K a → PW K b → b.length ≤ a.length → lev a.length ≤ K ∧ PW (lev a.length) a ∧ PW (lev a.length) b:=fun {a b} ha hb hab=>by
    rcases ha with h | ⟨j,hj,h⟩
    · have h0 : b.length = 0:=by omega
      rw [h]
      exact ⟨by rw [show lev 0 = 0 from rfl];exact Nat.zero_le _,.inl h,.inl h0⟩
    · rw [h,lev_pow]
      refine ⟨hj,.inr ⟨j,Nat.le_refl _,h⟩,?_⟩
      rcases hb with h2 | ⟨i,hi,h2⟩
      · exact .inl h2
      · refine .inr ⟨i,?_,h2⟩
        rcases Nat.lt_or_ge j i with h3 | h3
        · have:=Nat.pow_lt_pow_right (a:=2) (by decide) h3;omega
        · exact h3
  rcases Nat.le_total l.length k.length with h | h
  · rw [Nat.max_eq_right h];have:=key hk hl h;exact ⟨this.1,this.2.2,this.2.1⟩
  · rw [Nat.max_eq_left h];exact key hl hk h
theorem sho_pw {k : Nat} {a : List Rat} (hk : k ≤ 5) (h : PW k a) : PW k (shoF a):=(sho_ok hk h).2.1
end Go.Proofs.YtnjbcjmkkejfpaaGreat
set_option linter.unusedVariables false
set_option linter.unusedSimpArgs false
set_option maxHeartbeats 4000000
set_option maxRecDepth 100000
set_option synthInstance.maxSize 100000
set_option synthInstance.maxHeartbeats 400000
namespace Go.Proofs.YtnjbcjmkkejfpaaGreat
open Go.RowKit (Below)
attribute [local irreducible] Go.Code.wp Go.wpList Go.bodyPost
attribute [local irreducible] plusF minusF joinF levI lev PW RLN tB sB timesF stepF tmF normF shoF TOK sgL
theorem w42 {r n m : Nat} {rs : List (List Rat)} {l k : List Rat} : Con Tryz.prog 42 [TWR r rs,NM n l,NM m k] (TOK rs ∧ PW rs.length l ∧ PW rs.length k ∧ 1 ≤ r ∧ 1 ≤ n ∧ 1 ≤ m ∧ sB rs.length (r + r) r ≤ BIG ∧ n + m + 1 ≤ BIG) (MT.tup2 (NM (n + m + 1) (shoF (plusF l k))) (.ex (errV 46 (0)))):=.o3 fun hok h1 h2 h3 hp=>by
  refine St.enter (N:=21) Tryz.func42 rfl rfl rfl hok (enter3 h1 h2 h3) fun a=>?_
  have h5:=hp.1.rl
  have hbg:=sB_le (r:=r) (k:=rs.length) (n:=r + r)
  have l1:=hp.2.1.l32 h5.2
  have l2:=hp.2.2.1.l32 h5.2
  have l3:=(hp.2.1.plus hp.2.2.1).l32 h5.2
  repeat' (first|((with_reducible refine gS_ ?_);first|((with_reducible refine gL_ ?_);first|refine W.run ?_ fun a w G=>?_|refine W.mv fun a w G=>?_|refine W.asg fun a w G=>?_|refine W.bx fun b a w G=>?_|(refine W.nn hK ?_;clear hK K)|refine W.nl ?_|refine W.al fun b a w G=>?_|refine W.st fun w=>?_|refine W.stp fun w=>?_|refine W.ste ?_ fun w=>?_)|((with_reducible refine gC_ ?_);first|refine W.reg fun K hK=>?_|refine W.reg1 ?_|refine W.sq fun K hK=>?_|refine W.ds ?_ (fun β a w G hu=>W.fin ?_ hu) mixedOrders (by kernel_rfl)|refine W.sk ?_|refine W.cd (fun hc=>?_) (fun hc=>?_)|refine W.cb (fun hc=>?_) (fun hc=>?_)|refine W.bl ?_|refine W.ex ?_|refine W.rt ?_)|((with_reducible refine W.kn hK ?_);clear hK K)|(with_reducible first|refine W.bn ?_|refine W.xt ?_|refine W.xb ?_|refine W.xo ?_|refine W.tr ?_|refine W.br ?_)|refine W.rt1 rfl ?_|refine W.rt2 rfl ?_ ?_|refine W.rt3 rfl ?_ ?_ ?_)|clear hK K|clear hu|exact True.intro|exact Nat.le_trans (by clear hp;omega) hp|exact Nat.le_trans (by clear hp;omega) hp.1|exact Nat.le_trans (by clear hp;omega) hp.2|(clear hp;omega)|apply And.intro|refine GI.i fun _=>?_|with_reducible rfl|decide|(simp only [List.length_cons,List.length_nil];omega))
  all_goals first
    | omega
    | exact hp.1
    | exact h5.1
    | (intro x hx;simp only [List.mem_cons,List.not_mem_nil,or_false] at hx;first | (subst hx;exact hp.2.1) | (rcases hx with hx | hx <;> subst hx <;> first | exact hp.2.1 | exact hp.2.2.1))
    | (simp;done)
    | skip
instance {r n m : Nat} {rs : List (List Rat)} {l k : List Rat} {τ1 : MT} [j1 : NU τ1 (TWR r rs)] {τ2 : MT} [j2 : NU τ2 (NM n l)] {τ3 : MT} [j3 : NU τ3 (NM m k)] : Con Tryz.prog 42 [τ1,τ2,τ3] (TOK rs ∧ PW rs.length l ∧ PW rs.length k ∧ 1 ≤ r ∧ 1 ≤ n ∧ 1 ≤ m ∧ sB rs.length (r + r) r ≤ BIG ∧ n + m + 1 ≤ BIG) (MT.tup2 (NM (n + m + 1) (shoF (plusF l k))) (.ex (errV 46 (0)))):=.o3 fun hok h1 h2 h3 hp=>w42.c3 hok (j1.h h1) (j2.h h2) (j3.h h3) hp
theorem w41 {r n m : Nat} {rs : List (List Rat)} {l k : List Rat} : Con Tryz.prog 41 [TWR r rs,NM n l,NM m k] (TOK rs ∧ PW rs.length l ∧ PW rs.length k ∧ 1 ≤ r ∧ 1 ≤ n ∧ 1 ≤ m ∧ sB rs.length (r + r) r ≤ BIG ∧ n + m + 1 ≤ BIG) (MT.tup2 (NM (n + m + 1) (shoF (plusF l (minusF k)))) (.ex (errV 46 (0)))):=.o3 fun hok h1 h2 h3 hp=>by
  refine St.enter (N:=22) Tryz.func41 rfl rfl rfl hok (enter3 h1 h2 h3) fun a=>?_
  have h5:=hp.1.rl
  have hbg:=sB_le (r:=r) (k:=rs.length) (n:=r + r)
  have l1:=hp.2.1.l32 h5.2
  have l2:=hp.2.2.1.l32 h5.2
  have l4:=hp.2.2.1.minus.l32 h5.2
  have l3:=(hp.2.1.plus hp.2.2.1.minus).l32 h5.2
  repeat' (first|((with_reducible refine gS_ ?_);first|((with_reducible refine gL_ ?_);first|refine W.run ?_ fun a w G=>?_|refine W.mv fun a w G=>?_|refine W.asg fun a w G=>?_|refine W.bx fun b a w G=>?_|(refine W.nn hK ?_;clear hK K)|refine W.nl ?_|refine W.al fun b a w G=>?_|refine W.st fun w=>?_|refine W.stp fun w=>?_|refine W.ste ?_ fun w=>?_)|((with_reducible refine gC_ ?_);first|refine W.reg fun K hK=>?_|refine W.reg1 ?_|refine W.sq fun K hK=>?_|refine W.ds ?_ (fun β a w G hu=>W.fin ?_ hu) mixedOrders (by kernel_rfl)|refine W.sk ?_|refine W.cd (fun hc=>?_) (fun hc=>?_)|refine W.cb (fun hc=>?_) (fun hc=>?_)|refine W.bl ?_|refine W.ex ?_|refine W.rt ?_)|((with_reducible refine W.kn hK ?_);clear hK K)|(with_reducible first|refine W.bn ?_|refine W.xt ?_|refine W.xb ?_|refine W.xo ?_|refine W.tr ?_|refine W.br ?_)|refine W.rt1 rfl ?_|refine W.rt2 rfl ?_ ?_|refine W.rt3 rfl ?_ ?_ ?_)|clear hK K|clear hu|exact True.intro|exact Nat.le_trans (by clear hp;omega) hp|exact Nat.le_trans (by clear hp;omega) hp.1|exact Nat.le_trans (by clear hp;omega) hp.2|(clear hp;omega)|apply And.intro|refine GI.i fun _=>?_|with_reducible rfl|decide|(simp only [List.length_cons,List.length_nil];omega))
  all_goals first
    | omega
    | exact hp.1
    | exact h5.1
    | (intro x hx;simp only [List.mem_cons,List.not_mem_nil,or_false] at hx;first | (subst hx;exact hp.2.1) | (rcases hx with hx | hx <;> subst hx <;> first | exact hp.2.1 | exact hp.2.2.1))
    | (simp;done)
    | skip
instance {r n m : Nat} {rs : List (List Rat)} {l k : List Rat} {τ1 : MT} [j1 : NU τ1 (TWR r rs)] {τ2 : MT} [j2 : NU τ2 (NM n l)] {τ3 : MT} [j3 : NU τ3 (NM m k)] : Con Tryz.prog 41 [τ1,τ2,τ3] (TOK rs ∧ PW rs.length l ∧ PW rs.length k ∧ 1 ≤ r ∧ 1 ≤ n ∧ 1 ≤ m ∧ sB rs.length (r + r) r ≤ BIG ∧ n + m + 1 ≤ BIG) (MT.tup2 (NM (n + m + 1) (shoF (plusF l (minusF k)))) (.ex (errV 46 (0)))):=.o3 fun hok h1 h2 h3 hp=>w41.c3 hok (j1.h h1) (j2.h h2) (j3.h h3) hp
theorem w40 {r n m : Nat} {rs : List (List Rat)} {l k : List Rat} : Con Tryz.prog 40 [TWR r rs,NM n l,NM m k] (TOK rs ∧ PW rs.length l ∧ PW rs.length k ∧ 1 ≤ r ∧ 1 ≤ n ∧ 1 ≤ m ∧ sB rs.length (r + r) r ≤ BIG ∧ tB rs.length (n + m) r ≤ BIG) (MT.tup2 (NM (tB rs.length (n + m) r) (shoF (tmF rs l k))) (.ex (errV 46 (0)))):=.o3 fun hok h1 h2 h3 hp=>by
  refine St.enter (N:=22) Tryz.func40 rfl rfl rfl hok (enter3 h1 h2 h3) fun a=>?_
  have h5:=hp.1.rl
  have hbg:=sB_le (r:=r) (k:=rs.length) (n:=r + r)
  have l1:=hp.2.1.l32 h5.2
  have l2:=hp.2.2.1.l32 h5.2
  have l3:=(PW.tm h5.1 (Nat.le_refl _) hp.2.1 hp.2.2.1).l32 h5.2
  have lv:=pw_lvM hp.2.1 hp.2.2.1
  have lv2 : tB (lvM l k) (n + m) r ≤ tB rs.length (n + m) r:=tB_up lv.1
  have lv3:=tB_le (r:=r) (k:=rs.length) (n:=n + m)
  repeat' (first|((with_reducible refine gS_ ?_);first|((with_reducible refine gL_ ?_);first|refine W.run ?_ fun a w G=>?_|refine W.mv fun a w G=>?_|refine W.asg fun a w G=>?_|refine W.bx fun b a w G=>?_|(refine W.nn hK ?_;clear hK K)|refine W.nl ?_|refine W.al fun b a w G=>?_|refine W.st fun w=>?_|refine W.stp fun w=>?_|refine W.ste ?_ fun w=>?_)|((with_reducible refine gC_ ?_);first|refine W.reg fun K hK=>?_|refine W.reg1 ?_|refine W.sq fun K hK=>?_|refine W.ds ?_ (fun β a w G hu=>W.fin ?_ hu) mixedOrders (by kernel_rfl)|refine W.sk ?_|refine W.cd (fun hc=>?_) (fun hc=>?_)|refine W.cb (fun hc=>?_) (fun hc=>?_)|refine W.bl ?_|refine W.ex ?_|refine W.rt ?_)|((with_reducible refine W.kn hK ?_);clear hK K)|(with_reducible first|refine W.bn ?_|refine W.xt ?_|refine W.xb ?_|refine W.xo ?_|refine W.tr ?_|refine W.br ?_)|refine W.rt1 rfl ?_|refine W.rt2 rfl ?_ ?_|refine W.rt3 rfl ?_ ?_ ?_)|clear hK K|clear hu|exact True.intro|exact Nat.le_trans (by clear hp;omega) hp|exact Nat.le_trans (by clear hp;omega) hp.1|exact Nat.le_trans (by clear hp;omega) hp.2|(clear hp;omega)|apply And.intro|refine GI.i fun _=>?_|with_reducible rfl|decide|(simp only [List.length_cons,List.length_nil];omega))
  all_goals first
    | omega
    | exact hp.1
    | exact h5.1
    | (intro x hx;simp only [List.mem_cons,List.not_mem_nil,or_false] at hx;first | (subst hx;exact hp.2.1) | (rcases hx with hx | hx <;> subst hx <;> first | exact hp.2.1 | exact hp.2.2.1))
    | (simp;done)
    | exact lv.1
    | exact lv.2.1
    | exact lv.2.2
    | exact Nat.le_trans lv2 (by omega)
    | skip
instance {r n m : Nat} {rs : List (List Rat)} {l k : List Rat} {τ1 : MT} [j1 : NU τ1 (TWR r rs)] {τ2 : MT} [j2 : NU τ2 (NM n l)] {τ3 : MT} [j3 : NU τ3 (NM m k)] : Con Tryz.prog 40 [τ1,τ2,τ3] (TOK rs ∧ PW rs.length l ∧ PW rs.length k ∧ 1 ≤ r ∧ 1 ≤ n ∧ 1 ≤ m ∧ sB rs.length (r + r) r ≤ BIG ∧ tB rs.length (n + m) r ≤ BIG) (MT.tup2 (NM (tB rs.length (n + m) r) (shoF (tmF rs l k))) (.ex (errV 46 (0)))):=.o3 fun hok h1 h2 h3 hp=>w40.c3 hok (j1.h h1) (j2.h h2) (j3.h h3) hp
def rooF (k : Nat) : List Rat:=(List.replicate (2 * 2 ^ k) 0).set (2 ^ k) 1
theorem rooF_len {k : Nat} : (rooF k).length = 2 ^ (k + 1):=by simp [rooF,Nat.pow_succ,Nat.mul_comm]
theorem pw_rot {k K : Nat} (h : k < K) : PW K (rooF k):=(PW.pow rooF_len).mono h
instance {k : Nat} : Con Tryz.prog 84 [NT k] (k ≤ 5) (NM 64 (rooF k)):=.o1 fun hok h1 hp=>by
  refine St.enter (N:=13) Tryz.func84 rfl rfl rfl hok (enter1 h1) fun a=>?_
  have hk5 : 2 ^ k ≤ 2 ^ 5:=Nat.pow_le_pow_right (by decide) hp
  have hk0:=Nat.two_pow_pos k
  have own6 : OwnAt 6:=⟨⟩
  repeat' (first|((with_reducible refine gS_ ?_);first|((with_reducible refine gL_ ?_);first|refine W.run ?_ fun a w G=>?_|refine W.mv fun a w G=>?_|refine W.asg fun a w G=>?_|refine W.bx fun b a w G=>?_|(refine W.nn hK ?_;clear hK K)|refine W.nl ?_|refine W.al fun b a w G=>?_|refine W.st fun w=>?_|refine W.stp fun w=>?_|refine W.ste ?_ fun w=>?_)|((with_reducible refine gC_ ?_);first|refine W.reg fun K hK=>?_|refine W.reg1 ?_|refine W.sq fun K hK=>?_|refine W.ds ?_ (fun β a w G hu=>W.fin ?_ hu) mixedOrders (by kernel_rfl)|refine W.sk ?_|refine W.cd (fun hc=>?_) (fun hc=>?_)|refine W.cb (fun hc=>?_) (fun hc=>?_)|refine W.bl ?_|refine W.ex ?_|refine W.rt ?_)|((with_reducible refine W.kn hK ?_);clear hK K)|(with_reducible first|refine W.bn ?_|refine W.xt ?_|refine W.xb ?_|refine W.xo ?_|refine W.tr ?_|refine W.br ?_)|refine W.rt1 rfl ?_|refine W.rt2 rfl ?_ ?_|refine W.rt3 rfl ?_ ?_ ?_)|refine W.mk (mt:=FX 1 default) (QC 64) (0:Rat) ?_ fun b a w G=>?_|refine W.fz 2 ?_ fun G=>?_|clear hK K|clear hu|exact True.intro|exact Nat.le_trans (by clear hp;omega) hp|exact Nat.le_trans (by clear hp;omega) hp.1|exact Nat.le_trans (by clear hp;omega) hp.2|(clear hp;omega)|apply And.intro|refine GI.i fun _=>?_|with_reducible rfl|decide|(simp only [List.length_cons,List.length_nil];omega))
  all_goals (try simp only [List.length_set,List.length_replicate] at *)
  all_goals first
    | omega
    | rfl
    | (unfold rooF;rw [Nat.one_mul])
    | (simp only [LIM];omega)
    | skip
theorem w39 {r : Nat} {rs : List (List Rat)} {k : Nat} : Con Tryz.prog 39 [TWR r rs,NT k] (TOK rs ∧ k < rs.length ∧ 1 ≤ r ∧ sB rs.length (r + r) r ≤ BIG) (MT.tup2 (NM 64 (rooF k)) (.ex (errV 46 (0)))):=.o2 fun hok h1 h2 hp=>by
  refine St.enter (N:=24) Tryz.func39 rfl rfl rfl hok (enter2 h1 h2) fun a=>?_
  have h5:=hp.1.rl
  have hbg:=sB_le (r:=r) (k:=rs.length) (n:=r + r)
  repeat' (first|((with_reducible refine gS_ ?_);first|((with_reducible refine gL_ ?_);first|refine W.run ?_ fun a w G=>?_|refine W.mv fun a w G=>?_|refine W.asg fun a w G=>?_|refine W.bx fun b a w G=>?_|(refine W.nn hK ?_;clear hK K)|refine W.nl ?_|refine W.al fun b a w G=>?_|refine W.st fun w=>?_|refine W.stp fun w=>?_|refine W.ste ?_ fun w=>?_)|((with_reducible refine gC_ ?_);first|refine W.reg fun K hK=>?_|refine W.reg1 ?_|refine W.sq fun K hK=>?_|refine W.ds ?_ (fun β a w G hu=>W.fin ?_ hu) mixedOrders (by kernel_rfl)|refine W.sk ?_|refine W.cd (fun hc=>?_) (fun hc=>?_)|refine W.cb (fun hc=>?_) (fun hc=>?_)|refine W.bl ?_|refine W.ex ?_|refine W.rt ?_)|((with_reducible refine W.kn hK ?_);clear hK K)|(with_reducible first|refine W.bn ?_|refine W.xt ?_|refine W.xb ?_|refine W.xo ?_|refine W.tr ?_|refine W.br ?_)|refine W.rt1 rfl ?_|refine W.rt2 rfl ?_ ?_|refine W.rt3 rfl ?_ ?_ ?_)|clear hK K|clear hu|exact True.intro|exact Nat.le_trans (by clear hp;omega) hp|exact Nat.le_trans (by clear hp;omega) hp.1|exact Nat.le_trans (by clear hp;omega) hp.2|(clear hp;omega)|apply And.intro|refine GI.i fun _=>?_|with_reducible rfl|decide|(simp only [List.length_cons,List.length_nil];omega))
  all_goals first
    | omega
    | exact hp.1
    | exact h5.1
    | (intro x hx;simp only [List.mem_cons,List.not_mem_nil,or_false] at hx;first | (subst hx;exact hp.2.1) | (rcases hx with hx | hx <;> subst hx <;> first | exact hp.2.1 | exact hp.2.2.1))
    | (simp;done)
    | (exfalso;simp only [Bool.or_eq_true,decide_eq_true_eq] at *;omega)
    | skip
instance {r : Nat} {rs : List (List Rat)} {k : Nat} {τ1 : MT} [j1 : NU τ1 (TWR r rs)] : Con Tryz.prog 39 [τ1,NT k] (TOK rs ∧ k < rs.length ∧ 1 ≤ r ∧ sB rs.length (r + r) r ≤ BIG) (MT.tup2 (NM 64 (rooF k)) (.ex (errV 46 (0)))):=.o2 fun hok h1 h2 hp=>w39.c2 hok (j1.h h1) h2 hp
instance rootO {τ1 : MT} {z : Int} {r k : Nat} {rs : List (List Rat)} [j1 : NU τ1 (TWR r rs)] [l : LitN z k] : Con Tryz.prog 39 [τ1,.ex (.int .i64 z)] (TOK rs ∧ k < rs.length ∧ 1 ≤ r ∧ sB rs.length (r + r) r ≤ BIG) (MT.tup2 (NM 64 (rooF k)) (.ex (errV 46 (0)))):=.o2 fun hok h1 h2 hp=>by
  have e:=l.h
  subst e
  exact (inferInstance : Con Tryz.prog 39 [TWR r rs,NT k] _ (MT.tup2 (NM 64 (rooF k)) (.ex (errV 46 (0))))).c2 hok (j1.h h1) h2 hp
end Go.Proofs.YtnjbcjmkkejfpaaGreat
namespace Go.Proofs.YtnjbcjmkkejfpaaGreat
open Go.RowKit (Below)
end Go.Proofs.YtnjbcjmkkejfpaaGreat
namespace Go.Proofs.YtnjbcjmkkejfpaaGreat
theorem fr_self {r : FR} (hw : wfl r.p ∧ wfl r.q) (hok : r.ok = true) : FR.of r.val = r:=by
  obtain ⟨s,p,q⟩:=r
  have hw : wfl p ∧ wfl q:=hw
  have hok : qok s p q = true:=hok
  by_cases hp : p.length = 0
  · have e:=List.length_eq_zero_iff.1 hp
    subst e
    have h : qok s [] q = true:=hok
    have hv : FR.val ⟨s,[],q⟩ = 0:=qval_nil rfl
    unfold qok at h
    split at h
    · rename_i k
      obtain rfl:=k.2
      rw [hv]
      have : s = false:=by simpa using h
      subst this
      unfold FR.of dwords
      rw [if_pos rfl,show (0 : Rat).num.natAbs = 0 from rfl,words_zero];rfl
    · simp at h
  · obtain ⟨_,h3,h4,h5,h6⟩:=qval_parts hw hok hp
    have hp0 : val p ≠ 0:=fun e=>ne_of_len hp (val_eq_zero h3 e)
    have hne : FR.val ⟨s,p,q⟩ ≠ 0:=fun e=>by
      have h5' : (FR.val ⟨s,p,q⟩).num = sg s (val p):=h5
      rw [e] at h5'
      have:=congrArg Int.natAbs h5'
      rw [sg_abs] at this;exact hp0 this.symm
    have hs : decide (FR.val ⟨s,p,q⟩ < 0) = s:=by
      have h5' : (FR.val ⟨s,p,q⟩).num = sg s (val p):=h5
      have h7 : FR.val ⟨s,p,q⟩ < 0 ↔ (FR.val ⟨s,p,q⟩).num < 0:=by
        rw [← Rat.not_le,← Rat.num_nonneg];omega
      rw [Bool.eq_iff_iff,decide_eq_true_iff,h7,h5']
      cases s <;> simp [sg] <;> omega
    unfold FR.of dwords
    rw [if_neg hne,hs]
    have e1 : (FR.val ⟨s,p,q⟩).num.natAbs = val p:=(congrArg Int.natAbs h5).trans sg_abs
    have e2 : (FR.val ⟨s,p,q⟩).den = val q:=h6
    rw [e1,e2,words_val hw.1 h3,words_val hw.2 h4]
theorem FX.self {n : Nat} {r : FR} {v : Value} {G : Gh} (h : (FX n r).t v G) (hok : r.ok = true) : (FX n (FR.of r.val)).t v G:=FX.eq h (fr_self (QR.wf (FX.qr h)) hok).symm
theorem FX.inv {n : Nat} {ra rb rc rd : FR} {k : Int} {j : Nat} {v : Value} {G : Gh} (hck : chkF [ra,rb,rc,rd] = 0) (h : (FX n ([ra,rb,rc,rd].getD ((j + md4 k) % 4) default)).t v G) : (FX n (invF [ra,rb,rc,rd] k j)).t v G:=by
  have hp:=chk_pos hck
  unfold invF;rw [if_pos hck]
  refine FX.self h ?_
  have hlt : (j + md4 k) % 4 < [ra,rb,rc,rd].length:=Nat.mod_lt _ (by decide)
  have hm : [ra,rb,rc,rd].getD ((j + md4 k) % 4) default ∈ [ra,rb,rc,rd]:=by
    rw [List.getD_eq_getElem?_getD,List.getElem?_eq_getElem hlt];exact List.getElem_mem hlt
  have:=List.all_eq_true.1 hp _ hm
  unfold posR at this
  exact (Bool.and_eq_true_iff.1 this).1
section
variable {a b c d A B C D : Rat}
end
end Go.Proofs.YtnjbcjmkkejfpaaGreat
set_option linter.unusedVariables false
set_option linter.unusedSimpArgs false
set_option maxHeartbeats 4000000
set_option maxRecDepth 100000
set_option synthInstance.maxSize 100000
set_option synthInstance.maxHeartbeats 400000
namespace Go.Proofs.YtnjbcjmkkejfpaaGreat
open Go.RowKit (Below)
attribute [local irreducible] Go.Code.wp Go.wpList Go.bodyPost
attribute [local irreducible] trnC trnF dirC dirS slF slEC slC slE slS cmpRes refRes sumsF cmpCode
instance {n : Nat} : AsT (FX 1 default) (FX (n + 1)) default:=⟨fun h=>FX.up h (by omega)⟩
theorem FX.qc0 {n : Nat} {z : Rat} {v : Value} {G : Gh} (h : (FX n (FR.of z)).t v G) : (QC n z).t v G:=by
  obtain ⟨h1,h2,h5,hq⟩:=h
  refine ⟨⟨by have : Go.Proofs.YtnjbcjmkkejfpaaGreat.val (words z.num.natAbs) < 2 ^ n := h2
              rwa [val_words] at this,?_⟩,hq⟩
  have hq : Go.Proofs.YtnjbcjmkkejfpaaGreat.val (dwords z) < 2 ^ n:=h5
  unfold dwords at hq
  split at hq
  · rename_i e0
    have : z.den = 1:=by
      have h0 : z = 0:=by first | exact e0 | exact Rat.num_eq_zero.1 e0
      rw [h0];rfl
    rw [this];exact Nat.lt_of_lt_of_le (show (1 : Nat) < 2 ^ 1 by decide) (Nat.pow_le_pow_right (by decide) h1)
  · rwa [val_words] at hq
instance {n m : Nat} {z : Rat} : Fit (FX n (FR.of z)) (QC m) z (n ≤ m):=⟨fun e _ _ h=>QC.up (FX.qc0 h) e⟩
instance {n : Nat} {z : Rat} : Rdn (FX n (FR.of z)) QC n z:=⟨fun h=>FX.qc0 h⟩
theorem sld_self {n : Nat} {a b e : FR} {v : Value} {G : Gh} (h : (PTS [(some 3,FX n a),(some 3,FX n b),(some 3,FX n e)]).t v G) : (a.ok = true → ∃ x,a = FR.of x) ∧ (b.ok = true → ∃ x,b = FR.of x) ∧ (e.ok = true → ∃ x,e = FR.of x):=by
  obtain ⟨us,_,hl,hE⟩:=h
  match us,hl with
  | [u1,u2,u3],_=>exact ⟨fun hk=>⟨_,(fr_self (QR.wf (FX.qr (hE 0 _ u1 rfl rfl).2)) hk).symm⟩,fun hk=>⟨_,(fr_self (QR.wf (FX.qr (hE 1 _ u2 rfl rfl).2)) hk).symm⟩,fun hk=>⟨_,(fr_self (QR.wf (FX.qr (hE 2 _ u3 rfl rfl).2)) hk).symm⟩⟩
theorem sl_oks {a b e : FR} (h : slC a b e = 0) : a.ok = true ∧ b.ok = true ∧ e.ok = true:=by
  have:=sl_ok h
  simp only [List.all_cons,List.all_nil,Bool.and_true,Bool.and_eq_true,posR] at this
  exact ⟨this.2.1.1,this.2.2.1,this.1⟩
theorem sle_rs {a b e t : FR} {h : Bool} (h0 : slC a b e = 0) (h1 : trnF h t = true) : slE a b e h t = if slS a b e h t.val < 0 then 16 else 0:=by unfold slE;rw [if_pos h0,if_pos h1]
def plR (x : FR × FR) : MT:=PTS [(some 3,RX x.1),(some 3,RX x.2)]
instance {x : FR × FR} : Shp (plR x) (some 6):=⟨fun h=>PTS.shaped rfl h⟩
instance (priority:=800) Prt.plr {x : FR × FR} {i : Nat} {kt : Option Nat} {τ : MT} [h : PrtL [(some 3,RX x.1),(some 3,RX x.2)] i kt τ] : Prt (plR x) i kt τ:=(inferInstance : Prt (PTS [(some 3,RX x.1),(some 3,RX x.2)]) i kt τ)
instance {r s : FR} : AsT (PTS [(some 3,RX r),(some 3,RX s)]) plR (r,s):=⟨fun h=>h⟩
instance {n : Nat} {r s : FR} : AsT (PTS [(some 3,FX n r),(some 3,FX n s)]) plR (r,s):=⟨fun h=>NR.h h⟩
instance NR.plr {τs : List MT} {xs : List (FR × FR)} [h : AsTL τs plR xs] : NR (LSC (some 6) τs) (LS (some 6) (xs.map plR)):=⟨fun hv=>h.ls hv.1⟩
end Go.Proofs.YtnjbcjmkkejfpaaGreat
