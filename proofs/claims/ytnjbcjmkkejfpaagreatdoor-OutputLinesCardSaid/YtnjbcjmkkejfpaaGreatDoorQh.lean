import Derived.Lib.ItoaMem
import Derived.Test.YtnjbcjmkkejfpaaGreatDoorQg
set_option linter.unusedVariables false
set_option linter.unusedSimpArgs false
set_option linter.unusedVariables false
set_option linter.unusedSimpArgs false
namespace Go.Proofs.YtnjbcjmkkejfpaaGreatDoor
open Go.RowKit (Below)
def tabC : Array Value:=(Lib.pow10Tab.map fun z=>Value.int .u64 z).toArray
def TAB (G : Gh) : Prop:=∃ t f,G (laysItoa_ren.g 17) = some (.cells tabC t f)
theorem TAB.mono {G G' : Gh} (h : Gle G G') : TAB G → TAB G':=fun ⟨t,f,e⟩=>⟨t,f,h _ _ e⟩
def TABT : MT:=⟨fun _ G=>TAB G,fun h k=>k.mono h⟩
theorem TAB.is {P : Program} {w : World} {G : Gh} {n : String} (hok : Gok w G) (h : TAB G) (hn : P.globalNamed n = some (laysItoa_ren.g 17)) : Lib.TabIs P w n .u64 Lib.pow10Tab:=by
  obtain ⟨t,f,e⟩:=h
  unfold Lib.TabIs World.var?
  rw [hn,Option.bind_some,hok _ _ e];rfl
theorem TAB.of {P : Program} {W : World} {n : String} (hn : P.globalNamed n = some (laysItoa_ren.g 17)) (h : Lib.TabIs P W n .u64 Lib.pow10Tab) {G : Gh} (hG : ∀ b,G b = W.heap[b]?) : TAB G:=by
  unfold Lib.TabIs World.var? at h
  rw [hn,Option.bind_some] at h
  split at h
  · rename_i cs t f e
    cases h
    exact ⟨t,f,(hG _).trans e⟩
  · cases h
class ConT (P : Program) (f : Nat) (τs : List MT) (pre : outParam Prop) (ρ : outParam MT) : Prop where
  h : ∀ {vs : List Value} {w : World} {G : Gh},Gok w G → TAB G → Args vs τs G → pre → Calls P f vs.toArray w (Ret w G ρ)
section
variable {P : Program} {f : Nat} {τ1 τ2 τ3 τ4 ρ : MT} {pre : Prop}
theorem ConT.o0 (h : ∀ {w : World} {G : Gh},Gok w G → TAB G → pre → Calls P f #[] w (Ret w G ρ)) : ConT P f [] pre ρ:=⟨fun {vs _ _} hok ht ha hp=>match vs,ha with | [],_=>h hok ht hp⟩
theorem ConT.o1 (h : ∀ {v1 : Value} {w : World} {G : Gh},Gok w G → TAB G → τ1.t v1 G → pre → Calls P f #[v1] w (Ret w G ρ)) : ConT P f [τ1] pre ρ:=⟨fun {vs _ _} hok ht ha hp=>match vs,ha with | [_],ha=>h hok ht ha.1 hp⟩
theorem ConT.o2 (h : ∀ {v1 v2 : Value} {w : World} {G : Gh},Gok w G → TAB G → τ1.t v1 G → τ2.t v2 G → pre → Calls P f #[v1,v2] w (Ret w G ρ)) : ConT P f [τ1,τ2] pre ρ:=⟨fun {vs _ _} hok ht ha hp=>match vs,ha with | [_,_],ha=>h hok ht ha.1 ha.2.1 hp⟩
theorem ConT.o3 (h : ∀ {v1 v2 v3 : Value} {w : World} {G : Gh},Gok w G → TAB G → τ1.t v1 G → τ2.t v2 G → τ3.t v3 G → pre → Calls P f #[v1,v2,v3] w (Ret w G ρ)) : ConT P f [τ1,τ2,τ3] pre ρ:=⟨fun {vs _ _} hok ht ha hp=>match vs,ha with | [_,_,_],ha=>h hok ht ha.1 ha.2.1 ha.2.2.1 hp⟩
section
variable {w : World} {G : Gh} {v1 v2 v3 v4 : Value}
theorem ConT.c1 (c : ConT P f [τ1] pre ρ) (hok : Gok w G) (ht : TAB G) (h1 : τ1.t v1 G) (hp : pre) : Calls P f #[v1] w (Ret w G ρ):=c.h (vs:=[v1]) hok ht ⟨h1,trivial⟩ hp
theorem ConT.c2 (c : ConT P f [τ1,τ2] pre ρ) (hok : Gok w G) (ht : TAB G) (h1 : τ1.t v1 G) (h2 : τ2.t v2 G) (hp : pre) : Calls P f #[v1,v2] w (Ret w G ρ):=c.h (vs:=[v1,v2]) hok ht ⟨h1,h2,trivial⟩ hp
theorem ConT.c3 (c : ConT P f [τ1,τ2,τ3] pre ρ) (hok : Gok w G) (ht : TAB G) (h1 : τ1.t v1 G) (h2 : τ2.t v2 G) (h3 : τ3.t v3 G) (hp : pre) : Calls P f #[v1,v2,v3] w (Ret w G ρ):=c.h (vs:=[v1,v2,v3]) hok ht ⟨h1,h2,h3,trivial⟩ hp
end
instance Op1.callT {L : List (Nat × MT)} {B : List BX} {xs : List Operand} {ats : Array TypeId} {τs : List MT} {u : List Nat} [h : OpdL L xs τs u] [l : Lk L 999999 TABT] [c : ConT P f τs pre ρ] [k : Cb P f] : Op1 P L B (.call { callee:=.value (.func f),args:=xs.toArray,argTypes:=ats }) pre ρ (999999 :: u) :=
  ⟨fun ho hok e _ hp=>.call ho k.h (by rw [List.map_toArray];exact c.h hok (e _ _ (.head _) l.m) (h.h fun t τ ht hm=>e t τ (.tail _ ht) hm) hp)⟩
end
section
variable {P : Program} {W0 : World} {G0 : Gh} {N : Nat} {L : List (Nat × MT)} {B : List BX} {a : Act} {w : World} {G : Gh}
theorem W.tab {X : Prop} (ht : TAB G) (h : St W0 G0 N ((999999,TABT) :: L) B a w G → X) : St W0 G0 N L B a w G → X:=fun S=>h ⟨S.nxt,S.size,S.dfr,fun i p hp=>match i,hp with | 0,hp=>by cases hp;exact ht | i + 1,hp=>S.ty i p hp,S.bx,S.nd⟩
end
abbrev TXT (l : List UInt8) : MT:=.ex (.string ⟨l.toArray⟩)
instance {s : ByteArray} : Shp (.ex (.string s)) none:=⟨fun {_ _} h=>by cases h;exact ⟨rfl,rfl⟩⟩
instance (priority:=850) Cv.txt {a b : List UInt8} : Cv (TXT a) (TXT b) (a = b):=⟨fun e _ _ h=>e ▸ h⟩
instance AsT.txt {a : List UInt8} : AsT (TXT a) TXT a:=⟨fun h=>h⟩
section
variable {P : Program} {L : List (Nat × MT)} {B : List BX} {x y : Operand} {u v : List Nat} {t t' : TypeId} {a b : List UInt8}
instance Op1.apcS {L : List (Nat × MT)} {B : List BX} {x y : Operand} {u v : List Nat} {t e by0 : Nat} {τ : MT} {τs σs ρs : List MT} [el : ElS P t e none by0 (.string ⟨#[]⟩)] [hx : Opd L x (LSC none τs) u] [hy : Opd L y τ v] [ay : AsLS τ none σs] [ap : ApM τs σs ρs] : Op1 P L B (.call { callee:=.builtin .append,args:=#[x,y],argTypes:=#[t,t] }) (τs.length + σs.length ≤ LIM ∧ (τs.length + σs.length) * by0 ≤ 140737488355328) (LS none ρs) (u ++ v):=⟨fun ho hok e' _ hp=>by
  have h:=OpR.appSC hok ho el.h1 el.h2 ⟨rfl,rfl⟩ (hx.h e'.l) (ay.h (hy.h e'.r)) hp.1 hp.2
  rw [ap.h] at h;exact h⟩
instance Op1.seql [h : Opd L x (TXT a) u] [k : Opd L y (TXT b) v] : Op1 P L B (.binOp .eql t x y t') True (BT (decide (a = b))) (u ++ v) :=
  ⟨fun ho hok e _ _=>.run hok (by simp only [execOp,ho,show _ = _ from h.h e.l,show _ = _ from k.h e.r];simp [eqGuard,binOp_string_eql];rfl) (by
    show _ = _
    simp [ByteArray.toList_eq]
    by_cases hab : a = b <;> simp [hab])⟩
instance Op1.sadd [h : Opd L x (TXT a) u] [k : Opd L y (TXT b) v] : Op1 P L B (.binOp .add t x y t') (a.length + b.length ≤ 1000000) (TXT (a ++ b)) (u ++ v) :=
  ⟨fun ho hok e _ hp=>.run hok (by simp only [execOp,ho,show _ = _ from h.h e.l,show _ = _ from k.h e.r];simp [eqGuard,binOp_string_add,Op.stringOp,ByteArray.size];rw [if_neg (by omega)]) (by
    show _ = _
    congr 1)⟩
end
end Go.Proofs.YtnjbcjmkkejfpaaGreatDoor
set_option linter.unusedVariables false
set_option linter.unusedSimpArgs false
set_option maxHeartbeats 4000000
set_option maxRecDepth 100000
set_option synthInstance.maxSize 100000
set_option synthInstance.maxHeartbeats 400000
namespace Go.Proofs.YtnjbcjmkkejfpaaGreatDoor
open Go.RowKit (Below)
attribute [local irreducible] Go.Code.wp Go.wpList Go.bodyPost
private theorem gS_ {W0 : World} {G0 : Gh} {N : Nat} {L : List (Nat × MT)} {B : List BX} {a : Act} {w : World} {G : Gh} {q : Prop} (h : St W0 G0 N L B a w G → q) : St W0 G0 N L B a w G → q:=h
private theorem gL_ {p : Prop} {P : Program} {arr : Array Oper} {Q : Exit → Act → World → Prop} {l : List Oper} {a : Act} {w : World} (h : p → wpList P arr Q l a w) : p → wpList P arr Q l a w:=h
private theorem gC_ {p : Prop} {P : Program} {c : Code} {Q : Exit → Act → World → Prop} {a : Act} {w : World} (h : p → c.wp P Q a w) : p → c.wp P Q a w:=h
private theorem mixedOrders : Tryz.prog.follows .mixedOrders = true:=by kernel_rfl
instance {n : Int} : ConT Tryz.prog 151 [IT n] (0 ≤ n ∧ n < 9223372036854775808) (TXT (Lib.itoa n)):=.o1 fun {v1 w G} hok ht h1 hp=>by
  obtain rfl : v1 = .int .i64 n:=h1
  refine Calls.mono (Any.strconv_Itoa laysItoa n (by omega) (by omega) w (ht.is hok laysItoa.m17)) ?_
  rintro e w' ⟨rfl,k,os,rfl⟩
  have hb : Below w.heap.size w (Sort.grow (w.drewN k) os):=⟨rfl,rfl,rfl,by simp [Sort.grow,World.drewN],fun i hi=>by simp [Sort.grow,World.drewN,Array.getElem?_append,hi]⟩
  exact ⟨_,G,rfl,rfl,hb,fun _ _=>rfl,Gle.refl _,fun b o hbo=>(hb.block b (hok.lt hbo)).trans (hok b o hbo)⟩
instance {n x : Nat} : Con Tryz.prog 150 [SN n x,.ex (.int .u32 1000000000)] (True) (MT.tup2 (SN n (x / 1000000000)) (.ex (.int .u32 ((x % 1000000000 : Nat) : Int)))):=.o2 fun hok h1 h2 hp=>short_ok hok h1 (d:=1000000000) h2 (by decide) (by decide)
def tX (x : Int) (j : Nat) : List (List UInt8):=if j = 0 then [] else [Lib.itoa x]
def tV (x : Int) (j : Nat) : Nat:=if j = 0 then x.natAbs else 0
theorem txt_len {x : Int} (h : 0 < x) : ¬ ((words x.natAbs).length : Int) = 0:=by
  have:=@len_pos_iff x.natAbs
  omega
theorem txt_b {x : Int} {j : Nat} (h : 0 < x ∧ x < 1000000000) : ¬ ((words (tV x j / 1000000000)).length : Int) > 0:=by
  have : tV x j / 1000000000 = 0:=by unfold tV;split <;> omega
  rw [this,words_zero];simp
theorem txt_w (n : Nat) : IntKind.i64.wrap ((n % 1000000000 : Nat) : Int) = ((n % 1000000000 : Nat) : Int):=by
  rw [IntKind.wrap_i64];omega
theorem txt_w0 (n : Nat) : 0 ≤ IntKind.i64.wrap ((n % 1000000000 : Nat) : Int):=by rw [txt_w];omega
theorem txt_w1 (n : Nat) : IntKind.i64.wrap ((n % 1000000000 : Nat) : Int) < 9223372036854775808:=by rw [txt_w];omega
theorem tX_len (x : Int) (j : Nat) : (tX x j).length ≤ 1:=by unfold tX;split <;> simp
theorem txt_j {x : Int} {j : Nat} (hc : ((words (tV x j)).length : Int) > 0) : j = 0:=by
  rcases Nat.eq_zero_or_pos j with h | h
  · exact h
  · rw [show tV x j = 0 by unfold tV;rw [if_neg (by omega)],words_zero] at hc;simp at hc
theorem txt_j1 {x : Int} {j : Nat} (h : 0 < x) (hc : ¬ ((words (tV x j)).length : Int) > 0) (hj : j ≤ 1) : j = 1:=by
  rcases Nat.eq_zero_or_pos j with e | e
  · subst e;exact absurd (show ((words x.natAbs).length : Int) > 0 by have:=@len_pos_iff x.natAbs;omega) hc
  · omega
theorem txt_nx {x : Int} {j : Nat} (h : 0 < x ∧ x < 1000000000) (hc : ((words (tV x j)).length : Int) > 0) : tV x j / 1000000000 = tV x (j + 1) ∧ Lib.itoa (IntKind.i64.wrap ((tV x j % 1000000000 : Nat) : Int)) :: tX x j = tX x (j + 1):=by
  obtain rfl:=txt_j hc
  rw [txt_w]
  have e : ((tV x 0 % 1000000000 : Nat) : Int) = x:=by unfold tV;rw [if_pos rfl];omega
  rw [e]
  exact ⟨by unfold tV;rw [if_pos rfl,if_neg (by omega)];omega,rfl⟩
theorem itoa_len {z : Int} (h : 0 < z) (h2 : z < 1000000000) : (Lib.itoa z).length ≤ 20:=by
  obtain ⟨u,rfl⟩ : ∃ u : Nat,z = u:=⟨z.toNat,by omega⟩
  rw [Lib.itoa_nonneg,Lib.decDigits_length]
  have:=Lib.numDigits_eq u (by omega) (by omega)
  split at this <;> omega
theorem cmpZ_one {z : Nat} : cmpZ (z : Int) 1 = 0 ↔ z = 1:=by
  unfold cmpZ
  by_cases h : z = 1
  · subst h;simp
  · constructor
    · intro e;split at e <;> (try split at e) <;> omega
    · intro e;exact absurd e h
instance {ls : List (List UInt8)} : Con Tryz.prog 153 [LS none (ls.map TXT),TXT []] (ls.length = 1) (TXT (ls.getD 0 default)):=.o2 fun hok h1 h2 hp=>by
  refine St.enter (N:=75) Tryz.func153 rfl rfl rfl hok (enter2 h1 h2) fun a=>?_
  repeat' (first|((with_reducible refine gS_ ?_);first|((with_reducible refine gL_ ?_);first|refine W.run ?_ fun a w G=>?_|refine W.mv fun a w G=>?_|refine W.asg fun a w G=>?_|refine W.bx fun b a w G=>?_|(refine W.nn hK ?_;clear hK K)|refine W.nl ?_|refine W.al fun b a w G=>?_|refine W.st fun w=>?_|refine W.stp fun w=>?_|refine W.ste ?_ fun w=>?_)|((with_reducible refine gC_ ?_);first|with_reducible refine W.cbt (by first|assumption|(simp [hp];done)|fail) ?_|with_reducible refine W.cbf (by first|assumption|(simp [hp];done)|fail) ?_|refine W.reg fun K hK=>?_|refine W.reg1 ?_|refine W.sq fun K hK=>?_|refine W.ds ?_ (fun β a w G hu=>W.fin ?_ hu) mixedOrders (by kernel_rfl)|refine W.sk ?_|refine W.cd (fun hc=>?_) (fun hc=>?_)|refine W.cb (fun hc=>?_) (fun hc=>?_)|refine W.bl ?_|refine W.ex ?_|refine W.rt ?_)|((with_reducible refine W.kn hK ?_);clear hK K)|(with_reducible first|refine W.bn ?_|refine W.xt ?_|refine W.xb ?_|refine W.xo ?_|refine W.tr ?_|refine W.br ?_)|refine W.rt1 rfl ?_|refine W.rt2 rfl ?_ ?_|refine W.rt3 rfl ?_ ?_ ?_)|clear hK K|clear hu|exact True.intro|exact Nat.le_trans (by clear hp;omega) hp|exact Nat.le_trans (by clear hp;omega) hp.1|exact Nat.le_trans (by clear hp;omega) hp.2|(clear hp;omega)|apply And.intro|refine GI.i fun _=>?_|with_reducible rfl|decide|(simp only [List.length_cons,List.length_nil];omega))
theorem w105 {n : Nat} {x : Int} : ConT Tryz.prog 105 [W n x] (0 < x ∧ x < 1000000000) (TXT (Lib.itoa x)):=.o1 fun hok ht h1 hp=>by
  refine St.enter (N:=44) Tryz.func105 rfl rfl rfl hok (enter1 h1) fun a=>?_
  refine W.tab ht ?_
  repeat' (first|((with_reducible refine gS_ ?_);first|((with_reducible refine gL_ ?_);first|refine W.run ?_ fun a w G=>?_|refine W.mv fun a w G=>?_|refine W.asg fun a w G=>?_|refine W.bx fun b a w G=>?_|(refine W.nn hK ?_;clear hK K)|refine W.nl ?_|refine W.al fun b a w G=>?_|refine W.st fun w=>?_|refine W.stp fun w=>?_|refine W.ste ?_ fun w=>?_)|((with_reducible refine gC_ ?_);first|with_reducible refine W.cbf (decide_eq_false (txt_len hp.1)) ?_|with_reducible refine W.cbf (decide_eq_false (txt_b hp)) ?_|with_reducible refine W.cbt (by first|assumption|(simp [];done)|fail) ?_|with_reducible refine W.cbf (by first|assumption|(simp [];done)|fail) ?_|refine W.reg fun K hK=>?_|refine W.reg1 ?_|refine W.sq fun K hK=>?_|refine W.ds ?_ (fun β a w G hu=>W.fin ?_ hu) mixedOrders (by kernel_rfl)|refine W.sk ?_|refine W.cd (fun hc=>?_) (fun hc=>?_)|refine W.cb (fun hc=>?_) (fun hc=>?_)|refine W.bl ?_|refine W.ex ?_|refine W.rt ?_)|((with_reducible refine W.kn hK ?_);clear hK K)|(with_reducible first|refine W.bn ?_|refine W.xt ?_|refine W.xb ?_|refine W.xo ?_|refine W.tr ?_|refine W.br ?_)|refine W.rt1 rfl ?_|refine W.rt2 rfl ?_ ?_|refine W.rt3 rfl ?_ ?_ ?_)|refine W.lp 13 (α:=Nat) (fun j=>1 - j) (fun j=>j ≤ 1) [3,4,5,6,13,14,15,16,17,18,19,20,21,22,23,24,25,26,27,28,29,30,31,32,33,34,35,36] (fun j=>[(3,SN n (tV x j)),(4,LS none ((tX x j).map TXT))]) (fun j=>[]) (0) ?_ ?_ ?_ fun j hj a w G=>?_|refine W.ag (x:=j) (j+1) ?_ ?_ ?_ ?_|clear hK K|clear hu|exact True.intro|exact Nat.le_trans (by clear hp;omega) hp|exact Nat.le_trans (by clear hp;omega) hp.1|exact Nat.le_trans (by clear hp;omega) hp.2|(clear hp;omega)|apply And.intro|refine GI.i fun _=>?_|with_reducible rfl|decide|(simp only [List.length_cons,List.length_nil];omega))
  all_goals have htl:=tX_len x
  all_goals first
    | exact txt_w0 _
    | exact txt_w1 _
    | exact (txt_nx hp (by assumption)).1
    | exact (txt_nx hp (by assumption)).2
    | exact (txt_nx hp (by assumption)).1.symm
    | exact (txt_nx hp (by assumption)).2.symm
    | rfl
    | (have:=htl ‹Nat›;simp [LIM] <;> omega)
    | (have:=txt_j (by assumption);omega)
    | (have:=txt_j1 hp.1 (by assumption) (by assumption);subst this;rfl)
    | skip
instance {n : Nat} {x : Int} {τ1 : MT} [j1 : NW τ1 (W n x)] : ConT Tryz.prog 105 [τ1] (0 < x ∧ x < 1000000000) (TXT (Lib.itoa x)):=.o1 fun hok ht h1 hp=>w105.c1 hok ht (j1.h h1) hp
theorem w55 {n : Nat} {x : Rat} : ConT Tryz.prog 55 [QV n x] (0 < x ∧ x.num < 1000000000 ∧ x.den < 1000000000 ∧ n ≤ BIG) (TXT (if x.den = 1 then Lib.itoa x.num else Lib.itoa x.num ++ 47 :: Lib.itoa x.den)):=.o1 fun hok ht h1 hp=>by
  refine St.enter (N:=22) Tryz.func55 rfl rfl rfl hok (enter1 h1) fun a=>?_
  refine W.tab ht ?_
  have hnum : 0 < x.num:=by have:=hp.1;rw [Rat.lt_iff] at this;simpa using this
  have hden : 0 < x.den:=x.den_pos
  repeat' (first|((with_reducible refine gS_ ?_);first|((with_reducible refine gL_ ?_);first|refine W.run ?_ fun a w G=>?_|refine W.mv fun a w G=>?_|refine W.asg fun a w G=>?_|refine W.bx fun b a w G=>?_|(refine W.nn hK ?_;clear hK K)|refine W.nl ?_|refine W.al fun b a w G=>?_|refine W.st fun w=>?_|refine W.stp fun w=>?_|refine W.ste ?_ fun w=>?_)|((with_reducible refine gC_ ?_);first|refine W.reg fun K hK=>?_|refine W.reg1 ?_|refine W.sq fun K hK=>?_|refine W.ds ?_ (fun β a w G hu=>W.fin ?_ hu) mixedOrders (by kernel_rfl)|refine W.sk ?_|refine W.cd (fun hc=>?_) (fun hc=>?_)|refine W.cb (fun hc=>?_) (fun hc=>?_)|refine W.bl ?_|refine W.ex ?_|refine W.rt ?_)|((with_reducible refine W.kn hK ?_);clear hK K)|(with_reducible first|refine W.bn ?_|refine W.xt ?_|refine W.xb ?_|refine W.xo ?_|refine W.tr ?_|refine W.br ?_)|refine W.rt1 rfl ?_|refine W.rt2 rfl ?_ ?_|refine W.rt3 rfl ?_ ?_ ?_)|clear hK K|clear hu|exact True.intro|exact Nat.le_trans (by clear hp;omega) hp|exact Nat.le_trans (by clear hp;omega) hp.1|exact Nat.le_trans (by clear hp;omega) hp.2|(clear hp;omega)|apply And.intro|refine GI.i fun _=>?_|with_reducible rfl|decide|(simp only [List.length_cons,List.length_nil];omega))
  all_goals first
    | with_reducible exact hp.2.2.2
    | with_reducible exact hnum
    | with_reducible exact hp.2.1
    | omega
    | (rw [if_pos (cmpZ_one.1 hc)];done)
    | (rw [if_neg fun e=>hc (cmpZ_one.2 e)];simp;done)
    | (have h1_:=itoa_len hnum hp.2.1;have h2_:=itoa_len (z:=(x.den : Int)) (by omega) (by omega);simp only [List.length_append,List.length_cons,List.length_nil];omega)
    | skip
instance {n : Nat} {x : Rat} {τ1 : MT} [j1 : NQ τ1 (QV n x)] : ConT Tryz.prog 55 [τ1] (0 < x ∧ x.num < 1000000000 ∧ x.den < 1000000000 ∧ n ≤ BIG) (TXT (if x.den = 1 then Lib.itoa x.num else Lib.itoa x.num ++ 47 :: Lib.itoa x.den)):=.o1 fun hok ht h1 hp=>w55.c1 hok ht (j1.h h1) hp
end Go.Proofs.YtnjbcjmkkejfpaaGreatDoor
namespace Go.Proofs.YtnjbcjmkkejfpaaGreatDoor
theorem num_sg (x : Rat) : (x.num.sign = 1 ↔ 0 < x) ∧ (x.num.sign = 0 ↔ x = 0) ∧ (x.num.sign < 0 ↔ x < 0):=by
  have h1:=@rat_pos_iff x;have h2:=@Rat.num_eq_zero x;have h3:=sgn_cases x.num
  refine ⟨by rw [h1];omega,by rw [← h2];omega,?_⟩
  constructor
  · intro h;have : ¬ 0 < x:=fun k=>by have:=h1.1 k;omega
    have : x ≠ 0:=fun e=>by have:=h2.2 e;omega
    grind
  · intro h;have : ¬ 0 < x.num:=fun k=>by have:=h1.2 k;grind
    have : x.num ≠ 0:=fun e=>by have:=h2.1 e;grind
    omega
end Go.Proofs.YtnjbcjmkkejfpaaGreatDoor
set_option linter.unusedVariables false
set_option linter.unusedSimpArgs false
set_option maxHeartbeats 4000000
set_option maxRecDepth 100000
set_option synthInstance.maxSize 100000
set_option synthInstance.maxHeartbeats 400000
namespace Go.Proofs.YtnjbcjmkkejfpaaGreatDoor
open Go.RowKit (Below)
attribute [local irreducible] Go.Code.wp Go.wpList Go.bodyPost
attribute [local irreducible] barC trnC btC ciF enR enL cirs exC ofC ofI boC boI boK dirC dirS cirF
def w2F (g a : FR) (h : Bool) (t : Rat) : Rat:=d2F (wayX g.val a.val h t) (wayY a.val h t)
def ouE (g a b c : FR) (h : Bool) (t : Rat) : Int:=if w2F g a h t = 0 ∧ b.val = c.val then 15 else if dsc g a b c h t < 0 then 16 else 0
def ouK (g a b c : FR) (h : Bool) (t : Rat) : Rat:=(w2F g a h t + b.val - c.val) / (2 * w2F g a h t)
def ouX (g a b c : FR) (h : Bool) (t : Rat) : Rat:=a.val * dirC h t + ouK g a b c h t * wayX g.val a.val h t
def ouY (g a b c : FR) (h : Bool) (t : Rat) : Rat:=a.val * dirS h t + ouK g a b c h t * wayY a.val h t
def ouMX (g a : FR) (h : Bool) (t : Rat) : Rat:=-(1 / (2 * w2F g a h t) * wayY a.val h t)
def ouMY (g a : FR) (h : Bool) (t : Rat) : Rat:=1 / (2 * w2F g a h t) * wayX g.val a.val h t
def ouR (g a b c : FR) (h : Bool) (t : Rat) : List (List Rat):=if ouE g a b c h t = 0 ∧ dsc g a b c h t ≠ 0 then [[dsc g a b c h t]] else []
def ouL (g a b c : FR) (h : Bool) (t : Rat) : List (Int × List Rat × List Rat) :=
  if ouE g a b c h t = 0 then (if dsc g a b c h t = 0 then [(0,[ouX g a b c h t],[ouY g a b c h t])] else
    [(1,[ouX g a b c h t,ouMX g a h t],[ouY g a b c h t,ouMY g a h t]),(-1,[ouX g a b c h t,-ouMX g a h t],[ouY g a b c h t,-ouMY g a h t])]) else []
theorem sg0 {x : Rat} : x.num.sign = 0 ↔ x = 0:=(num_sg x).2.1
section
variable {g a b c : FR} {h : Bool} {t : Rat}
theorem ou_15 (hc : (decide ((d2F (wayX g.val a.val h t) (wayY a.val h t)).num.sign = 0) && decide (cmpQ b.val c.val = 0)) = true) : ouE g a b c h t = 15:=by
  simp only [Bool.and_eq_true,decide_eq_true_eq] at hc
  unfold ouE w2F
  rw [if_pos ⟨sg0.1 hc.1,cmpQ_eq0.1 hc.2⟩]
theorem ou_n (hc : (decide ((d2F (wayX g.val a.val h t) (wayY a.val h t)).num.sign = 0) && decide (cmpQ b.val c.val = 0)) = false) : ¬ (w2F g a h t = 0 ∧ b.val = c.val):=fun e=>by
  rw [show (decide ((d2F (wayX g.val a.val h t) (wayY a.val h t)).num.sign = 0) && decide (cmpQ b.val c.val = 0)) = true by simp only [Bool.and_eq_true,decide_eq_true_eq];exact ⟨sg0.2 e.1,cmpQ_eq0.2 e.2⟩] at hc
  cases hc
theorem ou_16 (h1 : ¬ (w2F g a h t = 0 ∧ b.val = c.val)) (h2 : (dsc g a b c h t).num.sign < 0) : ouE g a b c h t = 16:=by
  unfold ouE;rw [if_neg h1,if_pos ((num_sg _).2.2.1 h2)]
theorem ou_0 (h1 : ¬ (w2F g a h t = 0 ∧ b.val = c.val)) (h2 : ¬ (dsc g a b c h t).num.sign < 0) : ouE g a b c h t = 0:=by
  unfold ouE;rw [if_neg h1,if_neg fun e=>h2 ((num_sg _).2.2.2 e)]
theorem ou_ne (h1 : ¬ (w2F g a h t = 0 ∧ b.val = c.val)) (h2 : ¬ (dsc g a b c h t).num.sign < 0) : w2F g a h t ≠ 0:=fun e=>by
  refine h2 ((num_sg _).2.2.2 ?_)
  unfold dsc
  rw [show d2F (wayX g.val a.val h t) (wayY a.val h t) = 0 from e]
  unfold discF
  have hne : b.val - c.val ≠ 0:=fun e2=>h1 ⟨e,by grind⟩
  have hpos : 0 < (b.val - c.val) * (b.val - c.val):=by
    rcases (Rat.le_total : 0 ≤ b.val - c.val ∨ b.val - c.val ≤ 0) with h | h
    · have hp : 0 < b.val - c.val:=by grind
      exact Rat.mul_pos hp hp
    · have hp : 0 < -(b.val - c.val):=by grind
      have:=Rat.mul_pos hp hp
      grind
  grind
theorem ou_s (h1 : ¬ (w2F g a h t = 0 ∧ b.val = c.val)) (h2 : ¬ (dsc g a b c h t).num.sign < 0) (h3 : (dsc g a b c h t).num.sign = 0) : ouR g a b c h t = [] ∧ ouL g a b c h t = [(0,[ouX g a b c h t],[ouY g a b c h t])]:=by
  have e:=ou_0 h1 h2;have e2:=sg0.1 h3
  unfold ouR ouL;rw [if_neg fun k=>k.2 e2,if_pos e,if_pos e2];exact ⟨rfl,rfl⟩
theorem ou_t (h1 : ¬ (w2F g a h t = 0 ∧ b.val = c.val)) (h2 : ¬ (dsc g a b c h t).num.sign < 0) (h3 : ¬ (dsc g a b c h t).num.sign = 0) : ouR g a b c h t = [[dsc g a b c h t]] ∧ ouL g a b c h t =
    [(1,[ouX g a b c h t,ouMX g a h t],[ouY g a b c h t,ouMY g a h t]),(-1,[ouX g a b c h t,-ouMX g a h t],[ouY g a b c h t,-ouMY g a h t])]:=by
  have e:=ou_0 h1 h2;have e2:=fun k=>h3 (sg0.2 k)
  unfold ouR ouL;rw [if_pos ⟨e,e2⟩,if_pos e,if_neg e2];exact ⟨rfl,rfl⟩
theorem two_ne {x : Rat} (h : x ≠ 0) : 2 * x ≠ 0:=fun e=>h (by grind)
theorem ou_e {e : Int} (h0 : ouE g a b c h t = e) (he : e ≠ 0) : ouR g a b c h t = [] ∧ ouL g a b c h t = []:=by
  unfold ouR ouL;rw [if_neg (by rw [h0];exact fun e=>he e.1),if_neg (by rw [h0];exact he)];exact ⟨rfl,rfl⟩
end
def okV (c : Int) (x : Rat) : Rat:=if c = 0 then x else 0
theorem okV_0 {c : Int} {x : Rat} (h : c = 0) : okV c x = x:=if_pos h
theorem okV_n {c : Int} {x : Rat} (h : ¬ c = 0) : okV c x = 0:=if_neg h
theorem bt_00 {l : List FR} {h : Bool} {t : FR} (e : btC l h t = 0) : barC l = 0 ∧ trnF h t = true:=by
  unfold btC at e
  split at e
  · rename_i hb
    refine ⟨hb,?_⟩
    unfold trnC at e
    split at e
    · assumption
    · cases e
  · cases e
def oaE (g a b c : FR) (h : Bool) (t : FR) : Int:=if btC [g,a,b,c] h t = 0 then ouE g a b c h t.val else btC [g,a,b,c] h t
def oaR (g a b c : FR) (h : Bool) (t : FR) : List (List Rat):=if btC [g,a,b,c] h t = 0 then ouR g a b c h t.val else []
def oaL (g a b c : FR) (h : Bool) (t : FR) : List (Int × List Rat × List Rat):=if btC [g,a,b,c] h t = 0 then ouL g a b c h t.val else []
theorem atPM {n m : Nat} {rg ra rb rc t : FR} {h : Bool} : Con Tryz.prog 13 [QUD n rg ra rb rc,TRN m t h] (10000 * n + 10000 * m + 100000 ≤ BIG ∧ barC [rg,ra,rb,rc] = 0 ∧ trnF h t = true) (MT.tup3 (TWR (100 * n + 200 * m + 10000) (ouR rg ra rb rc h t.val)) (LS (some 3) ((ouL rg ra rb rc h t.val).map (BPT (100 * n + 200 * m + 10000)))) (.ex (errV 67 (ouE rg ra rb rc h t.val)))):=.o2 fun hok h1 h2 hp=>by
  refine St.enter (N:=146) Tryz.func13 rfl rfl rfl hok (enter2 h1 h2) fun a=>?_
  have hb:=hp.2.1
  have ht:=trn_0 hp.2.2
  have hbt:=bt_0 hp.2.1 hp.2.2
  repeat' (first|((with_reducible refine gS_ ?_);first|((with_reducible refine gL_ ?_);first|refine W.run ?_ fun a w G=>?_|refine W.mv fun a w G=>?_|refine W.asg fun a w G=>?_|refine W.bx fun b a w G=>?_|(refine W.nn hK ?_;clear hK K)|refine W.nl ?_|refine W.al fun b a w G=>?_|refine W.st fun w=>?_|refine W.stp fun w=>?_|refine W.ste ?_ fun w=>?_)|((with_reducible refine gC_ ?_);first|refine W.reg fun K hK=>?_|refine W.reg1 ?_|refine W.sq fun K hK=>?_|refine W.ds ?_ (fun β a w G hu=>W.fin ?_ hu) mixedOrders (by kernel_rfl)|refine W.sk ?_|refine W.cd (fun hc=>?_) (fun hc=>?_)|refine W.cb (fun hc=>?_) (fun hc=>?_)|refine W.bl ?_|refine W.ex ?_|refine W.rt ?_)|((with_reducible refine W.kn hK ?_);clear hK K)|(with_reducible first|refine W.bn ?_|refine W.xt ?_|refine W.xb ?_|refine W.xo ?_|refine W.tr ?_|refine W.br ?_)|refine W.rt1 rfl ?_|refine W.rt2 rfl ?_ ?_|refine W.rt3 rfl ?_ ?_ ?_)|clear hK K|clear hu|exact True.intro|exact Nat.le_trans (by clear hp;omega) hp|exact Nat.le_trans (by clear hp;omega) hp.1|exact Nat.le_trans (by clear hp;omega) hp.2|(clear hp;omega)|apply And.intro|refine GI.i fun _=>?_|with_reducible rfl|decide|(simp only [List.length_cons,List.length_nil];omega))
  all_goals first
    | (exfalso;omega)
    | assumption
    | exact hp.2.2
    | exact hp.2.1
    | exact (ou_15 hc).symm
    | exact (ou_e (ou_15 hc) (by decide)).1.symm
    | exact (ou_e (ou_15 hc) (by decide)).2
    | (have hn := ou_n (by assumption)
       first
       | exact (ou_16 hn hc).symm
       | exact (ou_e (ou_16 hn hc) (by decide)).1.symm
       | exact (ou_e (ou_16 hn hc) (by decide)).2
       | exact two_ne (ou_ne hn hc)
       | (have hd : ¬ (dsc rg ra rb rc h t.val).num.sign < 0 := by assumption
          first
          | exact ou_0 hn hd
          | exact (ou_0 hn hd).symm
          | exact (ou_s hn hd (by assumption)).1.symm
          | exact (ou_s hn hd (by assumption)).2.symm
          | exact (ou_t hn hd (by assumption)).1.symm
          | exact (ou_t hn hd (by assumption)).2.symm)
       | exact two_ne (ou_ne hn (by assumption))
       | skip)
    | skip
theorem bad21 {n m : Nat} {rg ra rb rc t : FR} {h : Bool} : Con Tryz.prog 21 [QUD n rg ra rb rc,TRN m t h] (10000 * n + 10000 * m + 100000 ≤ BIG ∧ ¬ btC [rg,ra,rb,rc] h t = 0) (MT.tup2 (PLQ (n + 4 * m + 130) (okV (btC [rg,ra,rb,rc] h t) (ra.val * dirC h t.val)) (okV (btC [rg,ra,rb,rc] h t) (ra.val * dirS h t.val))) (.ex (errV 67 (btC [rg,ra,rb,rc] h t)))):=.o2 fun hok h1 h2 hp=>by
  refine St.enter (N:=36) Tryz.func21 rfl rfl rfl hok (enter2 h1 h2) fun a=>?_
  have hz:=hp.2
  repeat' (first|((with_reducible refine gS_ ?_);first|((with_reducible refine gL_ ?_);first|refine W.run ?_ fun a w G=>?_|refine W.mv fun a w G=>?_|refine W.asg fun a w G=>?_|refine W.bx fun b a w G=>?_|(refine W.nn hK ?_;clear hK K)|refine W.nl ?_|refine W.al fun b a w G=>?_|refine W.st fun w=>?_|refine W.stp fun w=>?_|refine W.ste ?_ fun w=>?_)|((with_reducible refine gC_ ?_);first|with_reducible refine W.cbt (by first|assumption|(simp [hz];done)|fail) ?_|with_reducible refine W.cbf (by first|assumption|(simp [hz];done)|fail) ?_|refine W.reg fun K hK=>?_|refine W.reg1 ?_|refine W.sq fun K hK=>?_|refine W.ds ?_ (fun β a w G hu=>W.fin ?_ hu) mixedOrders (by kernel_rfl)|refine W.sk ?_|refine W.cd (fun hc=>?_) (fun hc=>?_)|refine W.cb (fun hc=>?_) (fun hc=>?_)|refine W.bl ?_|refine W.ex ?_|refine W.rt ?_)|((with_reducible refine W.kn hK ?_);clear hK K)|(with_reducible first|refine W.bn ?_|refine W.xt ?_|refine W.xb ?_|refine W.xo ?_|refine W.tr ?_|refine W.br ?_)|refine W.rt1 rfl ?_|refine W.rt2 rfl ?_ ?_|refine W.rt3 rfl ?_ ?_ ?_)|clear hK K|clear hu|exact True.intro|exact Nat.le_trans (by clear hp;omega) hp|exact Nat.le_trans (by clear hp;omega) hp.1|exact Nat.le_trans (by clear hp;omega) hp.2|(clear hp;omega)|apply And.intro|refine GI.i fun _=>?_|with_reducible rfl|decide|(simp only [List.length_cons,List.length_nil];omega))
  all_goals first
    | omega
    | exact hp.1
    | exact okV_n hp.2
    | exact (okV_n hp.2).symm
    | exact (if_neg hp.2).symm
    | exact if_neg hp.2
    | rfl
    | skip
instance (priority:=2000) {n m : Nat} {rg ra rb rc t : FR} {h : Bool} {τ1 τ2 : MT} [j1 : NF τ1 (QUD n rg ra rb rc)] [j2 : NF τ2 (TRN m t h)] : Con Tryz.prog 21 [τ1,τ2] (10000 * n + 10000 * m + 100000 ≤ BIG) (MT.tup2 (PLQ (n + 4 * m + 130) (okV (btC [rg,ra,rb,rc] h t) (ra.val * dirC h t.val)) (okV (btC [rg,ra,rb,rc] h t) (ra.val * dirS h t.val))) (.ex (errV 67 (btC [rg,ra,rb,rc] h t)))):=.o2 fun hok h1 h2 hp=>by
  by_cases e : btC [rg,ra,rb,rc] h t = 0
  · simp only [oaE,oaR,oaL,okV,e,if_true,ite_true]
    exact w21.c2 hok (j1.h h1) (j2.h h2) ⟨hp,bt_00 e⟩
  · exact bad21.c2 hok (j1.h h1) (j2.h h2) ⟨hp,e⟩
theorem bad56 {n m : Nat} {rg ra rb rc t : FR} {h : Bool} : Con Tryz.prog 56 [QUD n rg ra rb rc,TRN m t h] (10000 * n + 10000 * m + 100000 ≤ BIG ∧ ¬ btC [rg,ra,rb,rc] h t = 0) (MT.tup2 (PTS [(some 6,PLQ (n + 4 * m + 130) (okV (btC [rg,ra,rb,rc] h t) (ra.val * dirC h t.val)) (okV (btC [rg,ra,rb,rc] h t) (ra.val * dirS h t.val))),(some 6,PLQ (2 * n + 4 * m + 131) (okV (btC [rg,ra,rb,rc] h t) (wayX rg.val ra.val h t.val)) (okV (btC [rg,ra,rb,rc] h t) (wayY ra.val h t.val))),(some 3,QC (8 * n + 16 * m + 525) (okV (btC [rg,ra,rb,rc] h t) (d2F (wayX rg.val ra.val h t.val) (wayY ra.val h t.val))))]) (.ex (errV 67 (btC [rg,ra,rb,rc] h t)))):=.o2 fun hok h1 h2 hp=>by
  refine St.enter (N:=38) Tryz.func56 rfl rfl rfl hok (enter2 h1 h2) fun a=>?_
  have hz:=hp.2
  repeat' (first|((with_reducible refine gS_ ?_);first|((with_reducible refine gL_ ?_);first|refine W.run ?_ fun a w G=>?_|refine W.mv fun a w G=>?_|refine W.asg fun a w G=>?_|refine W.bx fun b a w G=>?_|(refine W.nn hK ?_;clear hK K)|refine W.nl ?_|refine W.al fun b a w G=>?_|refine W.st fun w=>?_|refine W.stp fun w=>?_|refine W.ste ?_ fun w=>?_)|((with_reducible refine gC_ ?_);first|with_reducible refine W.cbt (by first|assumption|(simp [hz];done)|fail) ?_|with_reducible refine W.cbf (by first|assumption|(simp [hz];done)|fail) ?_|refine W.reg fun K hK=>?_|refine W.reg1 ?_|refine W.sq fun K hK=>?_|refine W.ds ?_ (fun β a w G hu=>W.fin ?_ hu) mixedOrders (by kernel_rfl)|refine W.sk ?_|refine W.cd (fun hc=>?_) (fun hc=>?_)|refine W.cb (fun hc=>?_) (fun hc=>?_)|refine W.bl ?_|refine W.ex ?_|refine W.rt ?_)|((with_reducible refine W.kn hK ?_);clear hK K)|(with_reducible first|refine W.bn ?_|refine W.xt ?_|refine W.xb ?_|refine W.xo ?_|refine W.tr ?_|refine W.br ?_)|refine W.rt1 rfl ?_|refine W.rt2 rfl ?_ ?_|refine W.rt3 rfl ?_ ?_ ?_)|clear hK K|clear hu|exact True.intro|exact Nat.le_trans (by clear hp;omega) hp|exact Nat.le_trans (by clear hp;omega) hp.1|exact Nat.le_trans (by clear hp;omega) hp.2|(clear hp;omega)|apply And.intro|refine GI.i fun _=>?_|with_reducible rfl|decide|(simp only [List.length_cons,List.length_nil];omega))
  all_goals first
    | omega
    | exact hp.1
    | exact okV_n hp.2
    | exact (okV_n hp.2).symm
    | exact (if_neg hp.2).symm
    | exact if_neg hp.2
    | rfl
    | skip
instance (priority:=2000) {n m : Nat} {rg ra rb rc t : FR} {h : Bool} {τ1 τ2 : MT} [j1 : NF τ1 (QUD n rg ra rb rc)] [j2 : NF τ2 (TRN m t h)] : Con Tryz.prog 56 [τ1,τ2] (10000 * n + 10000 * m + 100000 ≤ BIG) (MT.tup2 (PTS [(some 6,PLQ (n + 4 * m + 130) (okV (btC [rg,ra,rb,rc] h t) (ra.val * dirC h t.val)) (okV (btC [rg,ra,rb,rc] h t) (ra.val * dirS h t.val))),(some 6,PLQ (2 * n + 4 * m + 131) (okV (btC [rg,ra,rb,rc] h t) (wayX rg.val ra.val h t.val)) (okV (btC [rg,ra,rb,rc] h t) (wayY ra.val h t.val))),(some 3,QC (8 * n + 16 * m + 525) (okV (btC [rg,ra,rb,rc] h t) (d2F (wayX rg.val ra.val h t.val) (wayY ra.val h t.val))))]) (.ex (errV 67 (btC [rg,ra,rb,rc] h t)))):=.o2 fun hok h1 h2 hp=>by
  by_cases e : btC [rg,ra,rb,rc] h t = 0
  · simp only [oaE,oaR,oaL,okV,e,if_true,ite_true]
    exact w56.c2 hok (j1.h h1) (j2.h h2) ⟨hp,bt_00 e⟩
  · exact bad56.c2 hok (j1.h h1) (j2.h h2) ⟨hp,e⟩
theorem bad22 {n m : Nat} {rg ra rb rc t : FR} {h : Bool} : Con Tryz.prog 22 [QUD n rg ra rb rc,TRN m t h] (10000 * n + 10000 * m + 100000 ≤ BIG ∧ ¬ btC [rg,ra,rb,rc] h t = 0) (MT.tup2 (QC (22 * n + 32 * m + 1119) (okV (btC [rg,ra,rb,rc] h t) (dsc rg ra rb rc h t.val))) (.ex (errV 67 (btC [rg,ra,rb,rc] h t)))):=.o2 fun hok h1 h2 hp=>by
  refine St.enter (N:=22) Tryz.func22 rfl rfl rfl hok (enter2 h1 h2) fun a=>?_
  have hz:=hp.2
  repeat' (first|((with_reducible refine gS_ ?_);first|((with_reducible refine gL_ ?_);first|refine W.run ?_ fun a w G=>?_|refine W.mv fun a w G=>?_|refine W.asg fun a w G=>?_|refine W.bx fun b a w G=>?_|(refine W.nn hK ?_;clear hK K)|refine W.nl ?_|refine W.al fun b a w G=>?_|refine W.st fun w=>?_|refine W.stp fun w=>?_|refine W.ste ?_ fun w=>?_)|((with_reducible refine gC_ ?_);first|with_reducible refine W.cbt (by first|assumption|(simp [hz];done)|fail) ?_|with_reducible refine W.cbf (by first|assumption|(simp [hz];done)|fail) ?_|refine W.reg fun K hK=>?_|refine W.reg1 ?_|refine W.sq fun K hK=>?_|refine W.ds ?_ (fun β a w G hu=>W.fin ?_ hu) mixedOrders (by kernel_rfl)|refine W.sk ?_|refine W.cd (fun hc=>?_) (fun hc=>?_)|refine W.cb (fun hc=>?_) (fun hc=>?_)|refine W.bl ?_|refine W.ex ?_|refine W.rt ?_)|((with_reducible refine W.kn hK ?_);clear hK K)|(with_reducible first|refine W.bn ?_|refine W.xt ?_|refine W.xb ?_|refine W.xo ?_|refine W.tr ?_|refine W.br ?_)|refine W.rt1 rfl ?_|refine W.rt2 rfl ?_ ?_|refine W.rt3 rfl ?_ ?_ ?_)|clear hK K|clear hu|exact True.intro|exact Nat.le_trans (by clear hp;omega) hp|exact Nat.le_trans (by clear hp;omega) hp.1|exact Nat.le_trans (by clear hp;omega) hp.2|(clear hp;omega)|apply And.intro|refine GI.i fun _=>?_|with_reducible rfl|decide|(simp only [List.length_cons,List.length_nil];omega))
  all_goals first
    | omega
    | exact hp.1
    | exact okV_n hp.2
    | exact (okV_n hp.2).symm
    | exact (if_neg hp.2).symm
    | exact if_neg hp.2
    | rfl
    | skip
instance (priority:=2000) {n m : Nat} {rg ra rb rc t : FR} {h : Bool} {τ1 τ2 : MT} [j1 : NF τ1 (QUD n rg ra rb rc)] [j2 : NF τ2 (TRN m t h)] : Con Tryz.prog 22 [τ1,τ2] (10000 * n + 10000 * m + 100000 ≤ BIG) (MT.tup2 (QC (22 * n + 32 * m + 1119) (okV (btC [rg,ra,rb,rc] h t) (dsc rg ra rb rc h t.val))) (.ex (errV 67 (btC [rg,ra,rb,rc] h t)))):=.o2 fun hok h1 h2 hp=>by
  by_cases e : btC [rg,ra,rb,rc] h t = 0
  · simp only [oaE,oaR,oaL,okV,e,if_true,ite_true]
    exact w22.c2 hok (j1.h h1) (j2.h h2) ⟨hp,bt_00 e⟩
  · exact bad22.c2 hok (j1.h h1) (j2.h h2) ⟨hp,e⟩
theorem bad13 {n m : Nat} {rg ra rb rc t : FR} {h : Bool} : Con Tryz.prog 13 [QUD n rg ra rb rc,TRN m t h] (10000 * n + 10000 * m + 100000 ≤ BIG ∧ ¬ btC [rg,ra,rb,rc] h t = 0) (MT.tup3 (TWR (100 * n + 200 * m + 10000) (oaR rg ra rb rc h t)) (LS (some 3) ((oaL rg ra rb rc h t).map (BPT (100 * n + 200 * m + 10000)))) (.ex (errV 67 (oaE rg ra rb rc h t)))):=.o2 fun hok h1 h2 hp=>by
  refine St.enter (N:=146) Tryz.func13 rfl rfl rfl hok (enter2 h1 h2) fun a=>?_
  have hz:=hp.2
  repeat' (first|((with_reducible refine gS_ ?_);first|((with_reducible refine gL_ ?_);first|refine W.run ?_ fun a w G=>?_|refine W.mv fun a w G=>?_|refine W.asg fun a w G=>?_|refine W.bx fun b a w G=>?_|(refine W.nn hK ?_;clear hK K)|refine W.nl ?_|refine W.al fun b a w G=>?_|refine W.st fun w=>?_|refine W.stp fun w=>?_|refine W.ste ?_ fun w=>?_)|((with_reducible refine gC_ ?_);first|with_reducible refine W.cbt (by first|assumption|(simp [hz];done)|fail) ?_|with_reducible refine W.cbf (by first|assumption|(simp [hz];done)|fail) ?_|refine W.reg fun K hK=>?_|refine W.reg1 ?_|refine W.sq fun K hK=>?_|refine W.ds ?_ (fun β a w G hu=>W.fin ?_ hu) mixedOrders (by kernel_rfl)|refine W.sk ?_|refine W.cd (fun hc=>?_) (fun hc=>?_)|refine W.cb (fun hc=>?_) (fun hc=>?_)|refine W.bl ?_|refine W.ex ?_|refine W.rt ?_)|((with_reducible refine W.kn hK ?_);clear hK K)|(with_reducible first|refine W.bn ?_|refine W.xt ?_|refine W.xb ?_|refine W.xo ?_|refine W.tr ?_|refine W.br ?_)|refine W.rt1 rfl ?_|refine W.rt2 rfl ?_ ?_|refine W.rt3 rfl ?_ ?_ ?_)|clear hK K|clear hu|exact True.intro|exact Nat.le_trans (by clear hp;omega) hp|exact Nat.le_trans (by clear hp;omega) hp.1|exact Nat.le_trans (by clear hp;omega) hp.2|(clear hp;omega)|apply And.intro|refine GI.i fun _=>?_|with_reducible rfl|decide|(simp only [List.length_cons,List.length_nil];omega))
  all_goals first
    | omega
    | exact hp.1
    | exact okV_n hp.2
    | exact (okV_n hp.2).symm
    | exact (if_neg hp.2).symm
    | exact if_neg hp.2
    | rfl
    | skip
instance (priority:=2000) {n m : Nat} {rg ra rb rc t : FR} {h : Bool} {τ1 τ2 : MT} [j1 : NF τ1 (QUD n rg ra rb rc)] [j2 : NF τ2 (TRN m t h)] : Con Tryz.prog 13 [τ1,τ2] (10000 * n + 10000 * m + 100000 ≤ BIG) (MT.tup3 (TWR (100 * n + 200 * m + 10000) (oaR rg ra rb rc h t)) (LS (some 3) ((oaL rg ra rb rc h t).map (BPT (100 * n + 200 * m + 10000)))) (.ex (errV 67 (oaE rg ra rb rc h t)))):=.o2 fun hok h1 h2 hp=>by
  by_cases e : btC [rg,ra,rb,rc] h t = 0
  · simp only [oaE,oaR,oaL,okV,e,if_true,ite_true]
    exact atPM.c2 hok (j1.h h1) (j2.h h2) ⟨hp,bt_00 e⟩
  · exact bad13.c2 hok (j1.h h1) (j2.h h2) ⟨hp,e⟩
end Go.Proofs.YtnjbcjmkkejfpaaGreatDoor
set_option linter.unusedVariables false
set_option linter.unusedSimpArgs false
namespace Go.Proofs.YtnjbcjmkkejfpaaGreatDoor
open Go.RowKit (Below)
def dnA (n : Nat) (js : List Nat) : Array Bool:=(Array.range n).map fun i=>js.contains i
theorem dnA_0 {n : Nat} : Array.replicate n false = dnA n []:=by
  apply Array.ext
  · simp [dnA]
  · intro i h1 h2;simp [dnA]
theorem dnA_s {n i : Nat} {js : List Nat} : (dnA n js).setIfInBounds i true = dnA n (i :: js):=by
  apply Array.ext
  · simp [dnA]
  · intro k h1 h2
    rw [Array.getElem_setIfInBounds (by simpa using h1)]
    simp only [dnA,Array.getElem_map,Array.getElem_range,List.contains_cons]
    by_cases e : i = k
    · subst e;simp
    · rw [if_neg e,show (k == i) = false from beq_eq_false_iff_ne.2 (Ne.symm e),Bool.false_or]
namespace W
section
variable {P : Program} {B : List BX} {L : List (Nat × MT)} {W0 : World} {G0 : Gh} {N : Nat} {a : Act} {w : World} {G : Gh} {Q : Exit → Act → World → Prop} {p : Prop} {id n i i1 i2 i3 fuel : Nat} {l : List Oper} {js : List Nat} {K : Act → World → Prop} {o : Oper}
theorem anyS (hm : P.follows .mixedOrders = true) (n : Nat) (hn : l.length = n) (h : ∀ w,St W0 G0 N L B a w G → wpAny P .any l.toArray Q n (dnA n []) a w) : St W0 G0 N L B a w G → (Code.region id l.toArray true).wp P Q a w:=fun S=>wp_region_any hm (by
  have e : l.toArray.size = n:=by simpa using hn
  rw [e,dnA_0]
  exact h _ { S with nxt:=S.nxt.trans (Nxt.drew S.ok),bx:=fun i x h=>(S.bx i x h).nxt (Nxt.drew S.ok) })
theorem anyE (js : List Nat) (hr : Region.ready .any l.toArray (dnA n js) = []) (h : p → Q .normal a w) : p → wpAny P .any l.toArray Q 0 (dnA n js) a w:=fun S=>⟨hr,h S⟩
theorem anyI {is : List Nat} (hr : Region.ready .any l.toArray (dnA n js) = i :: is) (h : ∀ j ∈ i :: is,p → wpOp P l.toArray Q j (wpAny P .any l.toArray Q fuel (dnA n (j :: js))) a w) : p → wpAny P .any l.toArray Q (fuel + 1) (dnA n js) a w:=fun S=>⟨fun e=>(by rw [hr] at e;exact absurd e (by simp)),fun j hj=>by
  rw [hr] at hj
  have:=h j hj S
  rw [← dnA_s] at this
  exact this⟩
theorem any1 (js : List Nat) (i : Nat) (hr : Region.ready .any l.toArray (dnA n js) = [i]) (h : p → wpOp P l.toArray Q i (wpAny P .any l.toArray Q fuel (dnA n (i :: js))) a w) : p → wpAny P .any l.toArray Q (fuel + 1) (dnA n js) a w:=anyI hr fun j hj=>by
  simp only [List.mem_cons,List.not_mem_nil,or_false] at hj;subst hj;exact h
theorem any2 (js : List Nat) (i1 i2 : Nat) (hr : Region.ready .any l.toArray (dnA n js) = [i1,i2]) (h : p → wpOp P l.toArray Q i1 (wpAny P .any l.toArray Q fuel (dnA n (i1 :: js))) a w) (h2 : p → wpOp P l.toArray Q i2 (wpAny P .any l.toArray Q fuel (dnA n (i2 :: js))) a w) : p → wpAny P .any l.toArray Q (fuel + 1) (dnA n js) a w:=anyI hr fun j hj=>by
  simp only [List.mem_cons,List.not_mem_nil,or_false] at hj
  rcases hj with hj | hj <;> subst hj
  · exact h
  · exact h2
theorem any3 (js : List Nat) (i1 i2 i3 : Nat) (hr : Region.ready .any l.toArray (dnA n js) = [i1,i2,i3]) (h : p → wpOp P l.toArray Q i1 (wpAny P .any l.toArray Q fuel (dnA n (i1 :: js))) a w) (h2 : p → wpOp P l.toArray Q i2 (wpAny P .any l.toArray Q fuel (dnA n (i2 :: js))) a w) (h3 : p → wpOp P l.toArray Q i3 (wpAny P .any l.toArray Q fuel (dnA n (i3 :: js))) a w) : p → wpAny P .any l.toArray Q (fuel + 1) (dnA n js) a w:=anyI hr fun j hj=>by
  simp only [List.mem_cons,List.not_mem_nil,or_false] at hj
  rcases hj with hj | hj | hj <;> subst hj
  · exact h
  · exact h2
  · exact h3
theorem anyL (hg : o.guard = none) (h : wpList P l.toArray (Exit.then K Q) [o] a w) : o.wp P a w K Q ∨ (o.asks P a w ∧ LetsOut Q):=by
  unfold wpList at h
  rw [if_pos (by simp [Region.wanted,hg])] at h
  rcases h with h | h
  · exact .inl h
  · exact .inr h
theorem anyO (ho : l[i]? = some o) (hg : o.guard = none) (h : p → wpList P l.toArray (Exit.then K Q) [o] a w) : p → wpOp P l.toArray Q i K a w:=fun S=>by
  have ho' : l.toArray[i]? = some o:=by simpa using ho
  unfold wpOp
  rw [ho']
  simp only
  rw [if_pos (by simp [Region.wanted,hg])]
  exact anyL hg (h S)
theorem anyN (h : p → K a w) : p → Exit.then K Q .normal a w:=h
theorem gO {X : Prop} {ops : Array Oper} (h : X → wpOp P ops Q i K a w) : X → wpOp P ops Q i K a w:=h
theorem gA {X : Prop} {o : Region.Mode} {ops : Array Oper} {d : Array Bool} (h : X → wpAny P o ops Q fuel d a w) : X → wpAny P o ops Q fuel d a w:=h
theorem gN {X : Prop} {o : Region.Mode} {ops : Array Oper} {d : Array Bool} {Q' : Exit → Act → World → Prop} (h : X → wpAny P o ops Q fuel d a w) : X → Exit.then (wpAny P o ops Q fuel d) Q' .normal a w:=h
theorem gR {X : Prop} {arr : Array Oper} (num : Nat) (h : X → (Code.region num arr true).wp P Q a w) : X → (Code.region num arr true).wp P Q a w:=h
theorem cvt {τ : MT} {pc : Prop} (t : Nat) (τ' : MT) [h : Lk L t τ] [c : Cv τ τ' pc] (hp : pc) (K : St W0 G0 N ((t,τ') :: L) B a w G → p) : St W0 G0 N L B a w G → p:=fun S =>
  K ⟨S.nxt,S.size,S.dfr,fun i q hi=>match i,hi with | 0,hi=>by cases hi;exact c.h hp (S.env [t] t τ (by simp) h.m) | i + 1,hi=>S.ty i q hi,S.bx,S.nd⟩
theorem cut {c : Code} {arr : Array Oper} (num d : Nat) (ty : TypeId) (k : Option Nat) (τ : MT) (h1 : ∀ b a w G, St W0 G0 N ((d, MT.ex (.pointer (some ⟨b, 0, none⟩))) :: L) (⟨b, ty, k, τ⟩ :: B) a w G → c.wp P Q a w)
    (h2 : ∀ K : Act → World → Prop,(∀ b a w G,St W0 G0 N ((d,MT.ex (.pointer (some ⟨b,0,none⟩))) :: L) (⟨b,ty,k,τ⟩ :: B) a w G → K a w) → St W0 G0 N L B a w G → (Code.region num arr true).wp P (Exit.then K Q) a w) :
    St W0 G0 N L B a w G → (Code.seq (.region num arr true) c).wp P Q a w:=fun S=>wp_seq_k fun K hK=>h2 K (fun b a w G S=>hK a w (h1 b a w G S)) S
theorem cutE {L' : List (Nat × MT)} {Bz Bh Bs0 : List BX} {jz : List Nat} {p1 p2 : Prop} {d : Nat} {ty : TypeId} {k : Option Nat} {τ : MT} (b : Nat) (hK : ∀ b a w G, St W0 G0 N ((d, MT.ex (.pointer (some ⟨b, 0, none⟩))) :: L') (⟨b, ty, k, τ⟩ :: Bz) a w G → K a w) (own : List BX) [tl : Tl B own Bh] [tl2 : Tl Bz own Bs0]
    [h : Wk L ((d,MT.ex (.pointer (some ⟨b,0,none⟩))) :: L') p1] [hb : WkB Bh (⟨b,ty,k,τ⟩ :: Bs0) jz p2] (hp : p1) (hp2 : p2) (hn : nodupB jz = true:=by rfl) : St W0 G0 N L B a w G → K a w:=fun S=>by
  have S':=S
  rw [tl.h] at S'
  have S2:=St.wkT (h:=h) (hb:=hb) S' hp hp2 hn
  refine hK b a w G ?_
  rw [tl2.h];exact S2
end
end W
end Go.Proofs.YtnjbcjmkkejfpaaGreatDoor
set_option linter.unusedVariables false
set_option linter.unusedSimpArgs false
set_option maxHeartbeats 4000000
set_option maxRecDepth 100000
set_option synthInstance.maxSize 100000
set_option synthInstance.maxHeartbeats 400000
namespace Go.Proofs.YtnjbcjmkkejfpaaGreatDoor
open Go.RowKit (Below)
attribute [local irreducible] Go.Code.wp Go.wpList Go.bodyPost
attribute [local irreducible] barC trnC btC dirC dirS dsc okV
theorem w114 {n m k l : Nat} {x y z u : Rat} : Con Tryz.prog 114 [PTS [(some 3,QV (n) (x)),(some 3,QV (m) (y))],PTS [(some 3,QV (k) (z)),(some 3,QV (l) (u))]] (n + m + k + l + 1 ≤ BIG) (PTS [(some 3,QC (n + k + 1) (x + z)),(some 3,QC (m + l + 1) (y + u))]):=.o2 fun hok h1 h2 hp=>by
  refine St.enter (N:=16) Tryz.func114 rfl rfl rfl hok (enter2 h1 h2) fun a=>?_
  repeat' (first|((with_reducible refine gS_ ?_);first|((with_reducible refine gL_ ?_);first|refine W.run ?_ fun a w G=>?_|refine W.mv fun a w G=>?_|refine W.asg fun a w G=>?_|refine W.bx fun b a w G=>?_|(refine W.nn hK ?_;clear hK K)|refine W.nl ?_|refine W.al fun b a w G=>?_|refine W.st fun w=>?_|refine W.stp fun w=>?_|refine W.ste ?_ fun w=>?_)|((with_reducible refine gC_ ?_);first|refine W.reg fun K hK=>?_|refine W.reg1 ?_|refine W.sq fun K hK=>?_|refine W.ds ?_ (fun β a w G hu=>W.fin ?_ hu) mixedOrders (by kernel_rfl)|refine W.sk ?_|refine W.cd (fun hc=>?_) (fun hc=>?_)|refine W.cb (fun hc=>?_) (fun hc=>?_)|refine W.bl ?_|refine W.ex ?_|refine W.rt ?_)|((with_reducible refine W.kn hK ?_);clear hK K)|(with_reducible first|refine W.bn ?_|refine W.xt ?_|refine W.xb ?_|refine W.xo ?_|refine W.tr ?_|refine W.br ?_)|refine W.rt1 rfl ?_|refine W.rt2 rfl ?_ ?_|refine W.rt3 rfl ?_ ?_ ?_)|clear hK K|clear hu|exact True.intro|exact Nat.le_trans (by clear hp;omega) hp|exact Nat.le_trans (by clear hp;omega) hp.1|exact Nat.le_trans (by clear hp;omega) hp.2|(clear hp;omega)|apply And.intro|refine GI.i fun _=>?_|with_reducible rfl|decide|(simp only [List.length_cons,List.length_nil];omega))
instance {n m k l : Nat} {x y z u : Rat} {τ1 : MT} [j1 : NQ τ1 (PTS [(some 3,QV (n) (x)),(some 3,QV (m) (y))])] {τ2 : MT} [j2 : NQ τ2 (PTS [(some 3,QV (k) (z)),(some 3,QV (l) (u))])] : Con Tryz.prog 114 [τ1,τ2] (n + m + k + l + 1 ≤ BIG) (PTS [(some 3,QC (n + k + 1) (x + z)),(some 3,QC (m + l + 1) (y + u))]):=.o2 fun hok h1 h2 hp=>w114.c2 hok (j1.h h1) (j2.h h2) hp
section
variable {g a b c : FR} {h : Bool} {t : Rat}
theorem w2_two (h0 : ¬ w2F g a h t = 0) : w2F g a h t + w2F g a h t ≠ 0:=fun e=>h0 (by grind)
theorem k_two : (w2F g a h t + b.val - c.val) / (w2F g a h t + w2F g a h t) = ouK g a b c h t:=by unfold ouK;rw [show w2F g a h t + w2F g a h t = 2 * w2F g a h t by grind]
theorem m_two : (1 : Rat) / (w2F g a h t + w2F g a h t) = 1 / (2 * w2F g a h t):=by rw [show w2F g a h t + w2F g a h t = 2 * w2F g a h t by grind]
def ouJ (g a b c : FR) (h : Bool) (t : Rat) (j : Nat) : List (Int × List Rat × List Rat):=[(1,[ouX g a b c h t,ouMX g a h t],[ouY g a b c h t,ouMY g a h t]),(-1,[ouX g a b c h t,-ouMX g a h t],[ouY g a b c h t,-ouMY g a h t])].take j
end
theorem w65 {n m : Nat} {rg ra rb rc t : FR} {h : Bool} : Con Tryz.prog 65 [QUD n rg ra rb rc,TRN m t h] (10000 * n + 10000 * m + 100000 ≤ BIG ∧ ¬ w2F rg ra h t.val = 0) (MT.tup2 (PLQ (60 * n + 120 * m + 6000) (ouX rg ra rb rc h t.val) (ouY rg ra rb rc h t.val)) (QC (60 * n + 120 * m + 6000) (1 / (2 * w2F rg ra h t.val)))):=.o2 fun hok h1 h2 hp=>by
  refine St.enter (N:=47) Tryz.func65 rfl rfl rfl hok (enter2 h1 h2) fun a=>?_
  repeat' (first|((with_reducible refine gS_ ?_);first|((with_reducible refine gL_ ?_);first|refine W.run ?_ fun a w G=>?_|refine W.mv fun a w G=>?_|refine W.asg fun a w G=>?_|refine W.bx fun b a w G=>?_|(refine W.nn hK ?_;clear hK K)|refine W.nl ?_|refine W.al fun b a w G=>?_|refine W.st fun w=>?_|refine W.stp fun w=>?_|refine W.ste ?_ fun w=>?_)|((with_reducible refine gC_ ?_);first|refine W.reg fun K hK=>?_|refine W.reg1 ?_|refine W.sq fun K hK=>?_|refine W.ds ?_ (fun β a w G hu=>W.fin ?_ hu) mixedOrders (by kernel_rfl)|refine W.sk ?_|refine W.cd (fun hc=>?_) (fun hc=>?_)|refine W.cb (fun hc=>?_) (fun hc=>?_)|refine W.bl ?_|refine W.ex ?_|refine W.rt ?_)|((with_reducible refine W.kn hK ?_);clear hK K)|(with_reducible first|refine W.bn ?_|refine W.xt ?_|refine W.xb ?_|refine W.xo ?_|refine W.tr ?_|refine W.br ?_)|refine W.rt1 rfl ?_|refine W.rt2 rfl ?_ ?_|refine W.rt3 rfl ?_ ?_ ?_)|clear hK K|clear hu|exact True.intro|exact Nat.le_trans (by clear hp;omega) hp|exact Nat.le_trans (by clear hp;omega) hp.1|exact Nat.le_trans (by clear hp;omega) hp.2|(clear hp;omega)|apply And.intro|refine GI.i fun _=>?_|with_reducible rfl|decide|(simp only [List.length_cons,List.length_nil];omega))
  all_goals first
    | omega
    | exact hp.1
    | exact w2_two hp.2
    | (rw [show d2F (wayX rg.val ra.val h t.val) (wayY ra.val h t.val) = w2F rg ra h t.val from rfl,k_two];rfl)
    | exact m_two
    | exact m_two.symm
    | skip
instance {n m : Nat} {rg ra rb rc t : FR} {h : Bool} {τ1 : MT} [j1 : NF τ1 (QUD n rg ra rb rc)] {τ2 : MT} [j2 : NF τ2 (TRN m t h)] : Con Tryz.prog 65 [τ1,τ2] (10000 * n + 10000 * m + 100000 ≤ BIG ∧ ¬ w2F rg ra h t.val = 0) (MT.tup2 (PLQ (60 * n + 120 * m + 6000) (ouX rg ra rb rc h t.val) (ouY rg ra rb rc h t.val)) (QC (60 * n + 120 * m + 6000) (1 / (2 * w2F rg ra h t.val)))):=.o2 fun hok h1 h2 hp=>w65.c2 hok (j1.h h1) (j2.h h2) hp
section
variable {g a b c : FR} {h : Bool} {t : Rat}
theorem dsc_w0 (h0 : w2F g a h t = 0) : dsc g a b c h t = -((b.val - c.val) * (b.val - c.val)):=by
  unfold dsc
  rw [show d2F (wayX g.val a.val h t) (wayY a.val h t) = 0 from h0]
  unfold discF
  grind
theorem ou_lt (h2 : (dsc g a b c h t).num.sign < 0) : ouE g a b c h t = 16:=by
  refine ou_16 (fun e=>?_) h2
  have h3:=(num_sg _).2.2.1 h2
  rw [dsc_w0 e.1,e.2] at h3
  exact absurd h3 (by grind)
theorem ou_zz (h2 : ¬ (dsc g a b c h t).num.sign < 0) (h0 : w2F g a h t = 0) : ouE g a b c h t = 15:=by
  by_cases hb : b.val = c.val
  · unfold ouE;rw [if_pos ⟨h0,hb⟩]
  · exact absurd h0 (ou_ne (fun e=>hb e.2) h2)
theorem ou_nz (h0 : ¬ w2F g a h t = 0) : ¬ (w2F g a h t = 0 ∧ b.val = c.val):=fun e=>h0 e.1
theorem m_one9 {x : Rat} : (-1 : Rat) * x = -x:=by grind
theorem pm_bd (j : Nat) : -9223372036854775808 ≤ ([1,-1] : List Int).getD j default ∧ ([1,-1] : List Int).getD j default ≤ 9223372036854775807:=by
  match j with
  | 0=>decide
  | 1=>decide
  | j + 2=>exact ⟨by show (-9223372036854775808 : Int) ≤ 0;decide,by show (0 : Int) ≤ 9223372036854775807;decide⟩
theorem mx_eq (s : Rat) : s * (1 / (2 * w2F g a h t) * -wayY a.val h t) = s * ouMX g a h t:=by unfold ouMX;rw [Rat.mul_neg]
theorem ouJ_0 : ouJ g a b c h t 0 = []:=rfl
theorem ouJ_len {j : Nat} (hj : j ≤ 2) : (ouJ g a b c h t j).length = j:=by unfold ouJ;rw [List.length_take];simp only [List.length_cons,List.length_nil];omega
theorem ouJ_go {j : Nat} (hj : ((j : Nat) : Int) < ((2 : Nat) : Int)) : ouJ g a b c h t j ++ [(([1,-1] : List Int).getD j default,[ouX g a b c h t,(([1,-1] : List Int).getD j default : Rat) * ouMX g a h t],[ouY g a b c h t,(([1,-1] : List Int).getD j default : Rat) * ouMY g a h t])] = ouJ g a b c h t (j + 1):=by
  match j,hj with
  | 0,_=>unfold ouJ;simp
  | 1,_=>unfold ouJ;simp;constructor <;> grind
  | j + 2,hj=>omega
theorem ouJ_end {j : Nat} (h1 : j ≤ 2) (h2 : ¬ ((j : Nat) : Int) < ((2 : Nat) : Int)) : ouJ g a b c h t j = [(1,[ouX g a b c h t,ouMX g a h t],[ouY g a b c h t,ouMY g a h t]),(-1,[ouX g a b c h t,-ouMX g a h t],[ouY g a b c h t,-ouMY g a h t])]:=by
  obtain rfl : j = 2:=by omega
  rfl
end
instance gTO3_17_2 : GcT 17 2 false 5 [6,16,17,18,19,20,21]:=⟨⟩
instance gTO3_17_3 : GcT 17 3 false 2 [3,7,8,22,23,24]:=⟨⟩
instance gTO3_17_5 : GcT 17 5 false 2 [3,7,8,22,23,24,26,27,28]:=⟨⟩
instance gTO3_17_6 : GcT 17 6 false 22 [23,24,26,27,28]:=⟨⟩
instance gTO3_17_7 : GcT 17 7 false 2 [3,30,31,32,33,34,35]:=⟨⟩
instance gTO3_17_10 : GcT 17 10 false 7 [10,36,37,48,49,50,51,52,53,54,55]:=⟨⟩
theorem w17 {n m : Nat} {rg ra rb rc t : FR} {h : Bool} : Con Tryz.prog 17 [QUD n rg ra rb rc,TRN m t h] (10000 * n + 10000 * m + 100000 ≤ BIG) (MT.tup3 (TWR (100 * n + 200 * m + 10000) (ouR rg ra rb rc h t.val)) (LS (some 3) ((ouL rg ra rb rc h t.val).map (BPT (100 * n + 200 * m + 10000)))) (IT (ouE rg ra rb rc h t.val))):=.o2 fun hok h1 h2 hp=>by
  refine St.enter (N:=88) Tryz.func17 rfl rfl rfl hok (enter2 h1 h2) fun a=>?_
  have own81 : OwnAt 81:=⟨⟩
  repeat' (first|refine W.drp 5 (.ex (.slice none 0 0)) ?_|with_reducible refine W.cut 14 15 58 (some 6) (PLQ (100 * n + 200 * m + 10000) (((([1,-1] : List Int).getD j default : Int) : Rat) * ouMX rg ra h t.val) (((([1,-1] : List Int).getD j default : Int) : Rat) * ouMY rg ra h t.val)) (fun b a w G=>?_) (fun K hcut=>?_)|((with_reducible refine W.gO ?_);refine W.anyO rfl rfl ?_)|((with_reducible refine W.gA ?_);first|with_reducible refine W.any3 [] 0 2 4 (by kernel_rfl) ?_ ?_ ?_|with_reducible refine W.any3 [0] 1 2 4 (by kernel_rfl) ?_ ?_ ?_|with_reducible refine W.any2 [1,0] 2 4 (by kernel_rfl) ?_ ?_|with_reducible refine W.any2 [2,1,0] 3 4 (by kernel_rfl) ?_ ?_|with_reducible refine W.any1 [3,2,1,0] 4 (by kernel_rfl) ?_|with_reducible refine W.any1 [4,3,2,1,0] 5 (by kernel_rfl) ?_|with_reducible refine W.anyE [5,4,3,2,1,0] (by kernel_rfl) ?_|with_reducible refine W.any1 [4,2,1,0] 3 (by kernel_rfl) ?_|with_reducible refine W.any1 [3,4,2,1,0] 5 (by kernel_rfl) ?_|with_reducible refine W.anyE [5,3,4,2,1,0] (by kernel_rfl) ?_|with_reducible refine W.any1 [4,1,0] 2 (by kernel_rfl) ?_|with_reducible refine W.any1 [2,4,1,0] 3 (by kernel_rfl) ?_|with_reducible refine W.any1 [3,2,4,1,0] 5 (by kernel_rfl) ?_|with_reducible refine W.anyE [5,3,2,4,1,0] (by kernel_rfl) ?_|with_reducible refine W.any2 [2,0] 1 4 (by kernel_rfl) ?_ ?_|with_reducible refine W.any2 [1,2,0] 3 4 (by kernel_rfl) ?_ ?_|with_reducible refine W.any1 [3,1,2,0] 4 (by kernel_rfl) ?_|with_reducible refine W.any1 [4,3,1,2,0] 5 (by kernel_rfl) ?_|with_reducible refine W.anyE [5,4,3,1,2,0] (by kernel_rfl) ?_|with_reducible refine W.any1 [4,1,2,0] 3 (by kernel_rfl) ?_|with_reducible refine W.any1 [3,4,1,2,0] 5 (by kernel_rfl) ?_|with_reducible refine W.anyE [5,3,4,1,2,0] (by kernel_rfl) ?_|with_reducible refine W.any1 [4,2,0] 1 (by kernel_rfl) ?_|with_reducible refine W.any1 [1,4,2,0] 3 (by kernel_rfl) ?_|with_reducible refine W.any1 [3,1,4,2,0] 5 (by kernel_rfl) ?_|with_reducible refine W.anyE [5,3,1,4,2,0] (by kernel_rfl) ?_|with_reducible refine W.any2 [4,0] 1 2 (by kernel_rfl) ?_ ?_|with_reducible refine W.any1 [1,4,0] 2 (by kernel_rfl) ?_|with_reducible refine W.any1 [2,1,4,0] 3 (by kernel_rfl) ?_|with_reducible refine W.any1 [3,2,1,4,0] 5 (by kernel_rfl) ?_|with_reducible refine W.anyE [5,3,2,1,4,0] (by kernel_rfl) ?_|with_reducible refine W.any1 [2,4,0] 1 (by kernel_rfl) ?_|with_reducible refine W.any1 [1,2,4,0] 3 (by kernel_rfl) ?_|with_reducible refine W.any1 [3,1,2,4,0] 5 (by kernel_rfl) ?_|with_reducible refine W.anyE [5,3,1,2,4,0] (by kernel_rfl) ?_|with_reducible refine W.any2 [2] 0 4 (by kernel_rfl) ?_ ?_|with_reducible refine W.any2 [0,2] 1 4 (by kernel_rfl) ?_ ?_|with_reducible refine W.any2 [1,0,2] 3 4 (by kernel_rfl) ?_ ?_|with_reducible refine W.any1 [3,1,0,2] 4 (by kernel_rfl) ?_|with_reducible refine W.any1 [4,3,1,0,2] 5 (by kernel_rfl) ?_|with_reducible refine W.anyE [5,4,3,1,0,2] (by kernel_rfl) ?_|with_reducible refine W.any1 [4,1,0,2] 3 (by kernel_rfl) ?_|with_reducible refine W.any1 [3,4,1,0,2] 5 (by kernel_rfl) ?_|with_reducible refine W.anyE [5,3,4,1,0,2] (by kernel_rfl) ?_|with_reducible refine W.any1 [4,0,2] 1 (by kernel_rfl) ?_|with_reducible refine W.any1 [1,4,0,2] 3 (by kernel_rfl) ?_|with_reducible refine W.any1 [3,1,4,0,2] 5 (by kernel_rfl) ?_|with_reducible refine W.anyE [5,3,1,4,0,2] (by kernel_rfl) ?_|with_reducible refine W.any1 [4,2] 0 (by kernel_rfl) ?_|with_reducible refine W.any1 [0,4,2] 1 (by kernel_rfl) ?_|with_reducible refine W.any1 [1,0,4,2] 3 (by kernel_rfl) ?_|with_reducible refine W.any1 [3,1,0,4,2] 5 (by kernel_rfl) ?_|with_reducible refine W.anyE [5,3,1,0,4,2] (by kernel_rfl) ?_|with_reducible refine W.any2 [4] 0 2 (by kernel_rfl) ?_ ?_|with_reducible refine W.any2 [0,4] 1 2 (by kernel_rfl) ?_ ?_|with_reducible refine W.any1 [1,0,4] 2 (by kernel_rfl) ?_|with_reducible refine W.any1 [2,1,0,4] 3 (by kernel_rfl) ?_|with_reducible refine W.any1 [3,2,1,0,4] 5 (by kernel_rfl) ?_|with_reducible refine W.anyE [5,3,2,1,0,4] (by kernel_rfl) ?_|with_reducible refine W.any1 [2,0,4] 1 (by kernel_rfl) ?_|with_reducible refine W.any1 [1,2,0,4] 3 (by kernel_rfl) ?_|with_reducible refine W.any1 [3,1,2,0,4] 5 (by kernel_rfl) ?_|with_reducible refine W.anyE [5,3,1,2,0,4] (by kernel_rfl) ?_|with_reducible refine W.any1 [2,4] 0 (by kernel_rfl) ?_|with_reducible refine W.any1 [0,2,4] 1 (by kernel_rfl) ?_|with_reducible refine W.any1 [1,0,2,4] 3 (by kernel_rfl) ?_|with_reducible refine W.any1 [3,1,0,2,4] 5 (by kernel_rfl) ?_|with_reducible refine W.anyE [5,3,1,0,2,4] (by kernel_rfl) ?_)|((with_reducible refine W.gR 14 ?_);refine W.anyS mixedOrders 6 rfl fun w=>?_)|with_reducible refine W.gN ?_|((with_reducible refine W.anyN ?_);refine W.cutE b hcut own ?_ ?_)|((with_reducible refine gS_ ?_);first|((with_reducible refine gL_ ?_);first|refine W.run ?_ fun a w G=>?_|refine W.mv fun a w G=>?_|refine W.asg fun a w G=>?_|refine W.bx fun b a w G=>?_|(refine W.nn hK ?_;clear hK K)|refine W.nl ?_|refine W.al fun b a w G=>?_|refine W.st fun w=>?_|refine W.stp fun w=>?_|refine W.ste ?_ fun w=>?_)|((with_reducible refine gC_ ?_);first|with_reducible refine W.gcc 17 ?_|with_reducible refine W.gcd 17 ?_|refine W.reg fun K hK=>?_|refine W.reg1 ?_|refine W.sq fun K hK=>?_|refine W.ds ?_ (fun β a w G hu=>W.fin ?_ hu) mixedOrders (by kernel_rfl)|refine W.sk ?_|refine W.cd (fun hc=>?_) (fun hc=>?_)|refine W.cb (fun hc=>?_) (fun hc=>?_)|refine W.bl ?_|refine W.ex ?_|refine W.rt ?_)|((with_reducible refine W.kn hK ?_);clear hK K)|(with_reducible first|refine W.bn ?_|refine W.xt ?_|refine W.xb ?_|refine W.xo ?_|refine W.tr ?_|refine W.br ?_)|refine W.rt1 rfl ?_|refine W.rt2 rfl ?_ ?_|refine W.rt3 rfl ?_ ?_ ?_)|refine W.lpo 59 (OWNS.nil (k:=some 3) (e:=50)) (T:=BPT (100 * n + 200 * m + 10000)) (xs0:=[]) (fun j=>2 - j) (fun j=>j ≤ 2) (fun j=>ouJ rg ra rb rc h t.val j) [12,14,15,58,59,60,61,62,63,64,65,66,67,68,69,70,71,72,73,74,75,76,77,78,79,80,81,82] (fun j V=>[(58,NT j),(12,.ex V),(56,LS none (([1,-1] : List Int).map (fun z=>IT z))),(57,NT 2)]) (fun j=>[]) 0 ?_ ?_ ?_ ?_ fun j hj V own a w G hO=>?_|refine W.ap (mt:=PTS [(none,.ex (.int .i64 0)),(some 2,PTS [(none,.ex (.slice none 0 0)),(none,.ex (.slice none 0 0))])]) (T:=BPT (100 * n + 200 * m + 10000)) hO ?_ fun V own a w G hO=>?_|refine W.ago (K:=fun _ _=>True) (T:=BPT (100 * n + 200 * m + 10000)) hO (x:=j) (j+1) ?_ ?_ ?_ ?_ ?_|refine W.fzo (T:=BPT (100 * n + 200 * m + 10000)) 5 hO ?_ fun G=>?_|refine W.cvt (τ:=LSC (some 3) [PTS _]) 80 (LS (some 3) ([(([1,-1] : List Int).getD j default,[ouX rg ra rb rc h t.val,((([1,-1] : List Int).getD j default : Int) : Rat) * ouMX rg ra h t.val],[ouY rg ra rb rc h t.val,((([1,-1] : List Int).getD j default : Int) : Rat) * ouMY rg ra h t.val])].map (BPT (100 * n + 200 * m + 10000)))) ?_ ?_|clear hK K|clear hu|exact True.intro|exact Nat.le_trans (by clear hp;omega) hp|exact Nat.le_trans (by clear hp;omega) hp.1|exact Nat.le_trans (by clear hp;omega) hp.2|(clear hp;omega)|apply And.intro|refine GI.i fun _=>?_|with_reducible rfl|decide|(simp only [List.length_cons,List.length_nil];omega))
  all_goals (try simp only [m_one9] at *)
  all_goals first
    | omega
    | (have hl : ouE rg ra rb rc h t.val = 16 := ou_lt (by assumption)
       first
       | exact hl
       | exact hl.symm
       | exact (ou_e hl (by decide)).1
       | exact (ou_e hl (by decide)).1.symm
       | exact (ou_e hl (by decide)).2
       | exact (ou_e hl (by decide)).2.symm)
    | (have hd : ¬ (dsc rg ra rb rc h t.val).num.sign < 0 := by assumption
       first
       | (have h15 : ouE rg ra rb rc h t.val = 15 := ou_zz hd (sg0.1 (show (w2F rg ra h t.val).num.sign = 0 by assumption))
          first
          | exact h15
          | exact h15.symm
          | exact (ou_e h15 (by decide)).1
          | exact (ou_e h15 (by decide)).1.symm
          | exact (ou_e h15 (by decide)).2
          | exact (ou_e h15 (by decide)).2.symm)
       | (have hw : ¬ w2F rg ra h t.val = 0 := fun e => absurd (sg0.2 e) (show ¬ (w2F rg ra h t.val).num.sign = 0 by assumption)
          have hn : ¬ (w2F rg ra h t.val = 0 ∧ rb.val = rc.val):=ou_nz hw
          first
          | exact hw
          | exact ouJ_0.symm
          | exact mx_eq _
          | rfl
          | exact (pm_bd _).1
          | exact (pm_bd _).2
          | exact pm_bd _
          | exact ou_0 hn hd
          | exact (ou_0 hn hd).symm
          | exact (ou_s hn hd (by assumption)).1
          | exact (ou_s hn hd (by assumption)).1.symm
          | exact (ou_s hn hd (by assumption)).2
          | exact (ou_s hn hd (by assumption)).2.symm
          | exact (ou_t hn hd (by assumption)).1
          | exact (ou_t hn hd (by assumption)).1.symm
          | exact (ou_t hn hd (by assumption)).2
          | exact (ou_t hn hd (by assumption)).2.symm
          | exact (ouJ_end (by assumption) (by assumption)).trans (ou_t hn hd (by assumption)).2.symm
          | exact ouJ_go (by assumption)
          | exact (ouJ_go (by assumption)).symm
          | (have hjl:=ouJ_len (g:=rg) (a:=ra) (b:=rb) (c:=rc) (h:=h) (t:=t.val) hj;simp only [LIM,List.length_cons,List.length_nil];omega)
          | skip))
    | skip
instance {n m : Nat} {rg ra rb rc t : FR} {h : Bool} {τ1 : MT} [j1 : NF τ1 (QUD n rg ra rb rc)] {τ2 : MT} [j2 : NF τ2 (TRN m t h)] : Con Tryz.prog 17 [τ1,τ2] (10000 * n + 10000 * m + 100000 ≤ BIG) (MT.tup3 (TWR (100 * n + 200 * m + 10000) (ouR rg ra rb rc h t.val)) (LS (some 3) ((ouL rg ra rb rc h t.val).map (BPT (100 * n + 200 * m + 10000)))) (IT (ouE rg ra rb rc h t.val))):=.o2 fun hok h1 h2 hp=>w17.c2 hok (j1.h h1) (j2.h h2) hp
end Go.Proofs.YtnjbcjmkkejfpaaGreatDoor
set_option linter.unusedVariables false
set_option linter.unusedSimpArgs false
set_option maxHeartbeats 4000000
set_option maxRecDepth 100000
set_option synthInstance.maxSize 100000
set_option synthInstance.maxHeartbeats 400000
namespace Go.Proofs.YtnjbcjmkkejfpaaGreatDoor
open Go.RowKit (Below)
attribute [local irreducible] Go.Code.wp Go.wpList Go.bodyPost
attribute [local irreducible] barC trnC btC ciF dsc enR enL cirs exC ofC ofI boC boI boK dirC dirS cirF
theorem ex_bar : barC [FR.of 4,FR.of 1,FR.of 9,FR.of 9] = 0:=by
  unfold barC;simp only [List.all_cons,List.all_nil,posR_of4];decide +kernel
theorem ex_dL : dsc (FR.of 4) (FR.of 1) (FR.of 9) (FR.of 9) true zFR.val = 275:=by unfold dsc;simp only [FR.of_val,zv0];decide +kernel
instance iK6_113  : Con Tryz.prog 54 [] (True) (QUD 64 (FR.of 4) (FR.of 1) (FR.of 9) (FR.of 9)):=.o0 fun hok  hp=>by
  refine St.enter (N:=6) Tryz.func54 rfl rfl rfl hok enter0 fun a=>?_
  repeat' (first|((with_reducible refine gS_ ?_);first|((with_reducible refine gL_ ?_);first|refine W.run ?_ fun a w G=>?_|refine W.mv fun a w G=>?_|refine W.asg fun a w G=>?_|refine W.bx fun b a w G=>?_|(refine W.nn hK ?_;clear hK K)|refine W.nl ?_|refine W.al fun b a w G=>?_|refine W.st fun w=>?_|refine W.stp fun w=>?_|refine W.ste ?_ fun w=>?_)|((with_reducible refine gC_ ?_);first|refine W.reg fun K hK=>?_|refine W.reg1 ?_|refine W.sq fun K hK=>?_|refine W.ds ?_ (fun β a w G hu=>W.fin ?_ hu) mixedOrders (by kernel_rfl)|refine W.sk ?_|refine W.cd (fun hc=>?_) (fun hc=>?_)|refine W.cb (fun hc=>?_) (fun hc=>?_)|refine W.bl ?_|refine W.ex ?_|refine W.rt ?_)|((with_reducible refine W.kn hK ?_);clear hK K)|(with_reducible first|refine W.bn ?_|refine W.xt ?_|refine W.xb ?_|refine W.xo ?_|refine W.tr ?_|refine W.br ?_)|refine W.rt1 rfl ?_|refine W.rt2 rfl ?_ ?_|refine W.rt3 rfl ?_ ?_ ?_)|clear hK K|clear hu|exact True.intro|exact Nat.le_trans (by clear hp;omega) hp|exact Nat.le_trans (by clear hp;omega) hp.1|exact Nat.le_trans (by clear hp;omega) hp.2|(clear hp;omega)|apply And.intro|refine GI.i fun _=>?_|with_reducible rfl|decide|(simp only [List.length_cons,List.length_nil];omega))
end Go.Proofs.YtnjbcjmkkejfpaaGreatDoor
set_option linter.unusedVariables false
set_option linter.unusedSimpArgs false
set_option maxHeartbeats 4000000
set_option maxRecDepth 100000
set_option synthInstance.maxSize 100000
set_option synthInstance.maxHeartbeats 400000
namespace Go.Proofs.YtnjbcjmkkejfpaaGreatDoor
open Go.RowKit (Below)
attribute [local irreducible] Go.Code.wp Go.wpList Go.bodyPost
attribute [local irreducible] barC trnC btC dirC dirS dsc ouE ouR ouL ouX ouY ouMX ouMY
theorem a36_b : btC [FR.of 4,FR.of 1,FR.of 9,FR.of 9] true zFR = 0:=bt_0 ex_bar trn_zero
theorem a36_d : dsc (FR.of 4) (FR.of 1) (FR.of 9) (FR.of 9) true zFR.val = 275:=ex_dL
theorem a36_ok {x : Rat} : okV (btC [FR.of 4,FR.of 1,FR.of 9,FR.of 9] true zFR) x = x:=okV_0 a36_b
theorem a36_x : ouX (FR.of 4) (FR.of 1) (FR.of 9) (FR.of 9) true zFR.val = 3 / 2:=by
  unfold ouX ouK w2F
  simp only [FR.of_val,zv0]
  decide +kernel
theorem a36_e : oaE (FR.of 4) (FR.of 1) (FR.of 9) (FR.of 9) true zFR = 0:=by
  unfold oaE
  rw [if_pos a36_b]
  unfold ouE
  rw [if_neg (fun e=>absurd e.1 (by unfold w2F;simp only [FR.of_val,zv0];decide +kernel)),if_neg (by rw [a36_d];decide)]
theorem a36_o : ouE (FR.of 4) (FR.of 1) (FR.of 9) (FR.of 9) true zFR.val = 0:=by have h:=a36_e;unfold oaE at h;rw [if_pos a36_b] at h;exact h
theorem a36_r : oaR (FR.of 4) (FR.of 1) (FR.of 9) (FR.of 9) true zFR = [[275]]:=by
  unfold oaR ouR
  rw [if_pos a36_b,if_pos ⟨a36_o,by rw [a36_d];decide⟩,a36_d]
theorem a36_l : oaL (FR.of 4) (FR.of 1) (FR.of 9) (FR.of 9) true zFR = [(1,[3 / 2,ouMX (FR.of 4) (FR.of 1) true zFR.val],[ouY (FR.of 4) (FR.of 1) (FR.of 9) (FR.of 9) true zFR.val,ouMY (FR.of 4) (FR.of 1) true zFR.val]),(-1,[3 / 2,-ouMX (FR.of 4) (FR.of 1) true zFR.val],[ouY (FR.of 4) (FR.of 1) (FR.of 9) (FR.of 9) true zFR.val,-ouMY (FR.of 4) (FR.of 1) true zFR.val])]:=by
  unfold oaL ouL
  rw [if_pos a36_b,if_pos a36_o,a36_d,if_neg (by decide),a36_x]
theorem w12 {t : FR} {h : Bool} : Con Tryz.prog 12 [PTS [(some 3,RX t),(none,BT h)]] (True) (BT (shortR t)):=.o1 fun hok h1 hp=>by
  refine St.enter (N:=15) Tryz.func12 rfl rfl rfl hok (enter1 h1) fun a=>?_
  repeat' (first|((with_reducible refine gS_ ?_);first|((with_reducible refine gL_ ?_);first|refine W.run ?_ fun a w G=>?_|refine W.mv fun a w G=>?_|refine W.asg fun a w G=>?_|refine W.bx fun b a w G=>?_|(refine W.nn hK ?_;clear hK K)|refine W.nl ?_|refine W.al fun b a w G=>?_|refine W.st fun w=>?_|refine W.stp fun w=>?_|refine W.ste ?_ fun w=>?_)|((with_reducible refine gC_ ?_);first|refine W.reg fun K hK=>?_|refine W.reg1 ?_|refine W.sq fun K hK=>?_|refine W.ds ?_ (fun β a w G hu=>W.fin ?_ hu) mixedOrders (by kernel_rfl)|refine W.sk ?_|refine W.cd (fun hc=>?_) (fun hc=>?_)|refine W.cb (fun hc=>?_) (fun hc=>?_)|refine W.bl ?_|refine W.ex ?_|refine W.rt ?_)|((with_reducible refine W.kn hK ?_);clear hK K)|(with_reducible first|refine W.bn ?_|refine W.xt ?_|refine W.xb ?_|refine W.xo ?_|refine W.tr ?_|refine W.br ?_)|refine W.rt1 rfl ?_|refine W.rt2 rfl ?_ ?_|refine W.rt3 rfl ?_ ?_ ?_)|clear hK K|clear hu|exact True.intro|exact Nat.le_trans (by clear hp;omega) hp|exact Nat.le_trans (by clear hp;omega) hp.1|exact Nat.le_trans (by clear hp;omega) hp.2|(clear hp;omega)|apply And.intro|refine GI.i fun _=>?_|with_reducible rfl|decide|(simp only [List.length_cons,List.length_nil];omega))
  all_goals first | omega | rfl | (unfold shortR;congr 1 <;> exact decide_eq_decide.2 (by omega)) | (unfold shortR;rw [Bool.eq_iff_iff];simp only [Bool.and_eq_true,decide_eq_true_eq];omega) | skip
instance {t : FR} {h : Bool} {τ1 : MT} [j1 : NR τ1 (PTS [(some 3,RX t),(none,BT h)])] : Con Tryz.prog 12 [τ1] (True) (BT (shortR t)):=.o1 fun hok h1 hp=>w12.c1 hok (j1.h h1) hp
instance  : ConT Tryz.prog 10 [] (True) (BT true):=.o0 fun hok ht  hp=>by
  refine St.enter (N:=75) Tryz.func10 rfl rfl rfl hok enter0 fun a=>?_
  refine W.tab ht ?_
  have x1:=a36_b
  have x3:=a36_e
  have x4:=a36_r
  have x5:=a36_l
  repeat' (first|((with_reducible refine gS_ ?_);first|((with_reducible refine gL_ ?_);first|refine W.run ?_ fun a w G=>?_|refine W.mv fun a w G=>?_|refine W.asg fun a w G=>?_|refine W.bx fun b a w G=>?_|(refine W.nn hK ?_;clear hK K)|refine W.nl ?_|refine W.al fun b a w G=>?_|refine W.st fun w=>?_|refine W.stp fun w=>?_|refine W.ste ?_ fun w=>?_)|((with_reducible refine gC_ ?_);first|refine W.reg fun K hK=>?_|refine W.reg1 ?_|refine W.sq fun K hK=>?_|refine W.ds ?_ (fun β a w G hu=>W.fin ?_ hu) mixedOrders (by kernel_rfl)|refine W.sk ?_|refine W.cd (fun hc=>?_) (fun hc=>?_)|refine W.cb (fun hc=>?_) (fun hc=>?_)|refine W.bl ?_|refine W.ex ?_|refine W.rt ?_)|((with_reducible refine W.kn hK ?_);clear hK K)|(with_reducible first|refine W.bn ?_|refine W.xt ?_|refine W.xb ?_|refine W.xo ?_|refine W.tr ?_|refine W.br ?_)|refine W.rt1 rfl ?_|refine W.rt2 rfl ?_ ?_|refine W.rt3 rfl ?_ ?_ ?_)|clear hK K|clear hu|exact True.intro|exact Nat.le_trans (by clear hp;omega) hp|exact Nat.le_trans (by clear hp;omega) hp.1|exact Nat.le_trans (by clear hp;omega) hp.2|(clear hp;omega)|apply And.intro|refine GI.i fun _=>?_|with_reducible rfl|decide|(simp only [List.length_cons,List.length_nil];omega))
  all_goals (try simp only [a36_ok,a36_d,a36_r,a36_l,a36_e,List.length_cons,List.length_nil] at *)
  all_goals first
    | omega
    | (show (0 : Rat) < 3 / 2;decide +kernel)
    | (show (3 / 2 : Rat).num < 1000000000;decide +kernel)
    | (show (3 / 2 : Rat).den < 1000000000;decide +kernel)
    | decide
    | rfl
    | (rw [a36_b];decide +kernel)
    | skip
end Go.Proofs.YtnjbcjmkkejfpaaGreatDoor
