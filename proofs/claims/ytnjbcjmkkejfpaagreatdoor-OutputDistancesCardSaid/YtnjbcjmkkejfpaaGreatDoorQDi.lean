import Derived.Test.YtnjbcjmkkejfpaaGreatDoorQDh
set_option linter.unusedVariables false
set_option linter.unusedSimpArgs false
set_option linter.unusedVariables false
set_option linter.unusedSimpArgs false
set_option maxHeartbeats 4000000
set_option maxRecDepth 100000
set_option synthInstance.maxSize 100000
set_option synthInstance.maxHeartbeats 400000
namespace Go.Proofs.YtnjbcjmkkejfpaaGreatDoor
open Go.RowKit (Below)
attribute [local irreducible] Go.Code.wp Go.wpList Go.bodyPost
private theorem gS_ {W0 : World} {G0 : Gh} {N : Nat} {L : List (Nat × MT)} {B : List BX} {a : Act} {w : World} {G : Gh} {q : Prop} (h : St W0 G0 N L B a w G → q) : St W0 G0 N L B a w G → q:=h
private theorem gL_ {p : Prop} {P : Program} {arr : Array Oper} {Q : Exit → Act → World → Prop} {l : List Oper} {a : Act} {w : World} (h : p → wpList P arr Q l a w) : p → wpList P arr Q l a w:=h
private theorem gC_ {p : Prop} {P : Program} {c : Code} {Q : Exit → Act → World → Prop} {a : Act} {w : World} (h : p → c.wp P Q a w) : p → c.wp P Q a w:=h
private theorem mixedOrders : Tryz.prog.follows .mixedOrders = true:=by kernel_rfl
attribute [local irreducible] barC trnC btC dirC dirS dsc ouE ouR ouL ouX ouY ouMX ouMY oaE oaR oaL okV quF
section
variable {g a b c t : FR} {h : Bool}
theorem of_self {n : Nat} {g a b c : FR} {v : Value} {G : Gh} (h : (QUD n g a b c).t v G) (hb : barC [g,a,b,c] = 0) : FR.of b.val = b ∧ FR.of c.val = c:=by
  have hk:=bar_pos hb
  simp only [List.all_cons,List.all_nil,Bool.and_true,Bool.and_eq_true,posR] at hk
  obtain ⟨us,_,hl,hE⟩:=h
  match us,hl with
  | [u1,u2,u3,u4],_=>exact ⟨fr_self (QR.wf (FX.qr (hE 2 _ u3 rfl rfl).2)) hk.2.2.1.1,fr_self (QR.wf (FX.qr (hE 3 _ u4 rfl rfl).2)) hk.2.2.2.1⟩
end
instance gTO6_4_2 : GcT 4 2 false 2 [3,4,14,15,16,17,18,19,20,21,22,23,24,25]:=⟨⟩
instance gTO6_4_3 : GcT 4 3 false 4 [14,15,16,17,18,19,20,21,22,23,24,25]:=⟨⟩
instance gTO6_4_5 : GcT 4 5 false 27 [28,29,30,31,32,33,34,35,36,37]:=⟨⟩
instance gTO6_4_6 : GcT 4 6 false 38 [39,40,41,42,43]:=⟨⟩
instance gTO6_4_8 : GcT 4 8 false 2 [3,5,6,7,8,9,10,11,44,45,46,47,48,49,50]:=⟨⟩
instance gTO6_4_9 : GcT 4 9 false 44 [45,46,47,48,49,50]:=⟨⟩
instance gTO6_4_13 : GcT 4 13 false 2 [3,5,6,7,8,9,10,11,12,51,52,86,87,88,89,90,91,92,93,94,95,96,97,98,99,100,101,102,103,104,105,106,107,108,109,110,111,112,113,114,115,116,117,118,119,120,121]:=⟨⟩
instance gTO6_4_14 : GcT 4 14 false 5 [6,11,12,51,52,86,87,88,89,90,91,92,93,94,95,96,97,98,99,100,101,102,103,104,105,106,107,108,109,110,111,112,113,114,115,116,117,118,119,120,121]:=⟨⟩
instance gTO6_4_17 : GcT 4 17 false 122 [123,124,142,143,144]:=⟨⟩
end Go.Proofs.YtnjbcjmkkejfpaaGreatDoor
set_option linter.unusedVariables false
set_option linter.unusedSimpArgs false
set_option maxHeartbeats 4000000
set_option maxRecDepth 100000
set_option synthInstance.maxSize 100000
set_option synthInstance.maxHeartbeats 400000
namespace Go.Proofs.YtnjbcjmkkejfpaaGreatDoor
open Go.RowKit (Below)
attribute [local irreducible] Go.Code.wp Go.wpList Go.bodyPost
attribute [local irreducible] barC trnC btC dirC dirS dsc ouE ouR ouL ouX ouY ouMX ouMY oaE oaR oaL okV quF
def hoB (g a b c : FR) (h : Bool) (t x y : Rat) : Bool:=decide (cmpQ (d2F (x - a.val * dirC h t) (y - a.val * dirS h t)) b.val = 0) && decide (cmpQ (d2F (x - g.val) y) c.val = 0)
def hoC (l : List FR) (h : Bool) (t x y : FR) : Int:=if btC l h t = 0 then (if (x.ok && y.ok) = true then 0 else 2) else btC l h t
section
variable {l : List FR} {h : Bool} {t x y : FR}
end
def plR (x : FR × FR) : MT:=PTS [(some 3,RX x.1),(some 3,RX x.2)]
instance {x : FR × FR} : Shp (plR x) (some 6):=⟨fun h=>PTS.shaped rfl h⟩
instance (priority:=800) Prt.plr {x : FR × FR} {i : Nat} {kt : Option Nat} {τ : MT} [h : PrtL [(some 3,RX x.1),(some 3,RX x.2)] i kt τ] : Prt (plR x) i kt τ:=(inferInstance : Prt (PTS [(some 3,RX x.1),(some 3,RX x.2)]) i kt τ)
instance {r s : FR} : AsT (PTS [(some 3,RX r),(some 3,RX s)]) plR (r,s):=⟨fun h=>h⟩
instance {n : Nat} {r s : FR} : AsT (PTS [(some 3,FX n r),(some 3,FX n s)]) plR (r,s):=⟨fun h=>NR.h h⟩
instance NR.plr {τs : List MT} {xs : List (FR × FR)} [h : AsTL τs plR xs] : NR (LSC (some 6) τs) (LS (some 6) (xs.map plR)):=⟨fun hv=>h.ls hv.1⟩
def poK (b c : FR) : Rat:=4 * (b.val * c.val)
def poU (g a b c : FR) : Rat:=b.val + c.val - (g.val - a.val) * (g.val - a.val)
def poV (g a b c : FR) : Rat:=b.val + c.val - (g.val + a.val) * (g.val + a.val)
def poL (g a b c : FR) : List Rat:=[poK b c - poU g a b c * poU g a b c,0,2 * poK b c - 2 * (poU g a b c * poV g a b c),0,poK b c - poV g a b c * poV g a b c]
def poP (g a b c : FR) : List Rat:=if barC [g,a,b,c] = 0 then poL g a b c else []
attribute [local irreducible] hoB hoC poL poP
instance gTO7_5_2 : GcT 5 2 false 3 [4,5,6,19,20,21,22,23,24,25,26,27,28,29,30,31,32,33,34,35,36]:=⟨⟩
instance gTO7_5_3 : GcT 5 3 false 6 [19,20,21,22,23,24,25,26,27,28,29,30,31,32,33,34,35,36]:=⟨⟩
instance gTO7_5_4 : GcT 5 4 false 38 [39,40,41,42,43,44,45]:=⟨⟩
instance gTO7_5_5 : GcT 5 5 false 46 [47,48,49,50,51,52]:=⟨⟩
instance gTO7_5_7 : GcT 5 7 false 53 [54,55,56,57,58,59]:=⟨⟩
instance gTO7_5_8 : GcT 5 8 false 3 [4,5,8,9,60,61]:=⟨⟩
instance gTO7_5_10 : GcT 5 10 false 3 [4,5,7,8,9,10,11,12,13,14,15,60,61,92,93,94,95,96,97,98,99,100]:=⟨⟩
instance gTO7_5_11 : GcT 5 11 false 13 [14,15,60,61,92,93,94,95,96,97,98,99,100]:=⟨⟩
instance gTO7_5_12 : GcT 5 12 false 3 [4,5,7,8,101,102,103]:=⟨⟩
instance gTO7_5_14 : GcT 5 14 false 101 [102,103,119,120,121,122,123,124,125]:=⟨⟩
instance gTO7_5_15 : GcT 5 15 false 3 [4,5,7,8,9,10,11,12,16,17,18,126,127,128,129,130,131,132,133,134,135,136,137,138,139,140,141,142,143,144,145]:=⟨⟩
instance gTO7_5_16 : GcT 5 16 false 7 [8,9,10,16,17,18,126,127,128,129,130,131,132,133,134,135,136,137,138,139,140,141,142,143,144,145]:=⟨⟩
instance gTO7_5_17 : GcT 5 17 false 3 [4,5,146,147,148]:=⟨⟩
end Go.Proofs.YtnjbcjmkkejfpaaGreatDoor
set_option linter.unusedVariables false
set_option linter.unusedSimpArgs false
set_option maxHeartbeats 4000000
set_option maxRecDepth 100000
set_option synthInstance.maxSize 100000
set_option synthInstance.maxHeartbeats 400000
namespace Go.Proofs.YtnjbcjmkkejfpaaGreatDoor
open Go.RowKit (Below)
attribute [local irreducible] Go.Code.wp Go.wpList Go.bodyPost
theorem tok0 : TOK []:=⟨Nat.zero_le _,fun j hj=>absurd hj (Nat.not_lt_zero _),fun j hj=>absurd hj (Nat.not_lt_zero _)⟩
theorem sB1u {k x r : Nat} (h : k ≤ 1) : sB k x r ≤ 4 * x + r + 1:=by rw [← sB1];exact sB_ups h
theorem tB1u {k x r : Nat} (h : k ≤ 1) : tB k x r ≤ 2 * x + r + 1:=by
  have:=tB_up (r:=r) (n:=x) h
  rw [show tB 1 x r = 2 * x + r + 1 by simp only [tB];omega] at this
  exact this
theorem vlc {R : List (List Rat)} {q : Rat} : vlL R [q] = RR.of q:=by
  rw [El.vl_at (k:=0) (l:=[q]) (by decide) (Nat.le_refl 1)];rfl
section
variable {g a b c : FR} {h : Bool} {t : Rat}
theorem ou_cases (g a b c : FR) (h : Bool) (t : Rat) : (ouE g a b c h t ≠ 0 ∧ ouR g a b c h t = [] ∧ ouL g a b c h t = []) ∨
    (ouE g a b c h t = 0 ∧ dsc g a b c h t = 0 ∧ w2F g a h t ≠ 0 ∧ ouR g a b c h t = [] ∧ ouL g a b c h t = [(0,[ouX g a b c h t],[ouY g a b c h t])]) ∨
    (ouE g a b c h t = 0 ∧ 0 < dsc g a b c h t ∧ w2F g a h t ≠ 0 ∧ ouR g a b c h t = [[dsc g a b c h t]] ∧ ouL g a b c h t = [(1,[ouX g a b c h t,ouMX g a h t],[ouY g a b c h t,ouMY g a h t]),(-1,[ouX g a b c h t,-ouMX g a h t],[ouY g a b c h t,-ouMY g a h t])]):=by
  by_cases e0 : ouE g a b c h t = 0
  · have hn : ¬ (w2F g a h t = 0 ∧ b.val = c.val):=fun e=>by unfold ouE at e0;rw [if_pos e] at e0;cases e0
    have hd : ¬ dsc g a b c h t < 0:=fun e=>by unfold ouE at e0;rw [if_neg hn,if_pos e] at e0;cases e0
    have hd2 : ¬ (dsc g a b c h t).num.sign < 0:=fun e=>hd ((num_sg _).2.2.1 e)
    by_cases e1 : dsc g a b c h t = 0
    · exact .inr (.inl ⟨e0,e1,ou_ne hn hd2,(ou_s hn hd2 (sg0.2 e1)).1,(ou_s hn hd2 (sg0.2 e1)).2⟩)
    · exact .inr (.inr ⟨e0,by grind,ou_ne hn hd2,(ou_t hn hd2 fun e=>e1 (sg0.1 e)).1,(ou_t hn hd2 fun e=>e1 (sg0.1 e)).2⟩)
  · exact .inl ⟨e0,(ou_e (e:=ouE g a b c h t) rfl e0).1,(ou_e (e:=ouE g a b c h t) rfl e0).2⟩
theorem ou_len (g a b c : FR) (h : Bool) (t : Rat) : (ouR g a b c h t).length ≤ 1:=by
  rcases ou_cases g a b c h t with ⟨_,e,_⟩ | ⟨_,_,_,e,_⟩ | ⟨_,_,_,e,_⟩ <;> rw [e] <;> simp
theorem ou_tok (g a b c : FR) (h : Bool) (t : Rat) : TOK (ouR g a b c h t):=by
  rcases ou_cases g a b c h t with ⟨_,e,_⟩ | ⟨_,_,_,e,_⟩ | ⟨_,k,_,e,_⟩ <;> rw [e]
  · exact tok0
  · exact tok0
  · exact tok1 (Rat.le_of_lt k)
theorem ou_pw {j : Nat} (hj : j < (ouL g a b c h t).length) : PW (ouR g a b c h t).length ((ouL g a b c h t).getD j default).2.1 ∧ PW (ouR g a b c h t).length ((ouL g a b c h t).getD j default).2.2:=by
  rcases ou_cases g a b c h t with ⟨_,e,e2⟩ | ⟨_,_,_,e,e2⟩ | ⟨_,k,_,e,e2⟩ <;> rw [e2] at hj <;> rw [e,e2]
  · exact absurd hj (Nat.not_lt_zero _)
  · match j,hj with
    | 0,_=>exact ⟨.inr ⟨0,Nat.le_refl 0,rfl⟩,.inr ⟨0,Nat.le_refl 0,rfl⟩⟩
  · match j,hj with
    | 0,_=>exact ⟨.inr ⟨1,Nat.le_refl 1,rfl⟩,.inr ⟨1,Nat.le_refl 1,rfl⟩⟩
    | 1,_=>exact ⟨.inr ⟨1,Nat.le_refl 1,rfl⟩,.inr ⟨1,Nat.le_refl 1,rfl⟩⟩
end
section
variable {g a b c : FR} {h : Bool} {t : Rat}
end
end Go.Proofs.YtnjbcjmkkejfpaaGreatDoor
set_option linter.unusedVariables false
set_option linter.unusedSimpArgs false
namespace Go.Proofs.YtnjbcjmkkejfpaaGreatDoor
open Go.RowKit (Below)
def FAD (i : Nat) (k : Option Nat) (τ : MT) : MT:=⟨fun v G=>∃ b ty u,v = .pointer (some ⟨b,i,none⟩) ∧ G b = some (.cells (Value.cells u) ty (0,0)) ∧ Shaped k u ∧ τ.t u G,fun hle ⟨b,ty,u,h1,h2,h3,h4⟩=>⟨b,ty,u,h1,hle _ _ h2,h3,τ.mono hle h4⟩⟩
instance (priority:=500) PrtL.sx1 {τ' : MT} {fs : List (Option Nat × MT)} {i : Nat} {kt : Option Nat} {τ : MT} [h : PrtL fs i kt τ] : PrtL ((some 1,τ') :: fs) (i + 1) kt τ:=h.skip rfl
instance ShN.sx1 {τ : MT} {fs : List (Option Nat × MT)} {n : Nat} [h : ShN fs n] : ShN ((some 1,τ) :: fs) (n + 1):=⟨by rw [offs_cons,h.h];simp;omega⟩
section
variable {P : Program} {L L' : List (Nat × MT)} {B B' : List BX} {x y : Operand} {u v : List Nat} {t ty : TypeId} {τ σ : MT} {k kt : Option Nat} {i b : Nat} {z : Value}
instance Op1.nck [h : Opd L x (FAD i k τ) u] : Op1 P L B (.nilCheck x) True (FAD i k τ) u:=⟨fun ho hok e _ _=>by
  have hx:=h.h e
  have hx':=hx
  obtain ⟨b,ty,z,hv,_⟩:=hx
  exact .run hok (v:=.pointer (some ⟨b,i,none⟩)) (by simp [execOp,ho,hv]) (hv ▸ hx')⟩
instance (priority:=600) Op1.fldF {s f off : Nat} [k' : FO P s f off] [h : Opd L x (FAD i k τ) u] : Op1 P L B (.fieldAddr s x f) True (FAD (i + off) k τ) u:=⟨fun ho hok e _ _=>by
  obtain ⟨b,ty,z,hv,h2⟩:=h.h e
  exact .fldA hok ho hv k'.h ⟨b,ty,z,rfl,h2⟩⟩
instance (priority:=700) Op1.fldZ {s f off : Nat} [k' : FO P s f off] [h : Opd L x (FAD 0 k τ) u] : Op1 P L B (.fieldAddr s x f) True (FAD off k τ) u:=⟨fun ho hok e _ _=>by
  obtain ⟨b,ty,z,hv,h2⟩:=h.h e
  exact .fldA hok ho hv k'.h ⟨b,ty,z,by rw [Nat.zero_add],h2⟩⟩
instance Op1.ldF [h : Opd L x (FAD i k σ) u] [hT : TyS P t kt] [hz : NZ kt] [hp : Prt σ i kt τ] : Op1 P L B (.load t x) True τ u:=⟨fun ho hok e _ _=>by
  obtain ⟨b,ty,z,hv,hg,hs,ht⟩:=h.h e
  have h0 : (decide (0 < kt.getD 1)) = true:=by
    cases kt with
    | none=>rfl
    | some n=>exact decide_eq_true (Nat.pos_of_ne_zero fun e=>hz.h (by simpa using e))
  cases kt with
  | none =>
    obtain ⟨q,h1,h2⟩:=part_load (k':=none) (hp.h ht hs) h0
    exact .ldG1 hok ho hv hg hT.h h1 h2
  | some n =>
    obtain ⟨h1,h2⟩:=part_load (k':=some n) (hp.h ht hs) h0
    exact .ldG hok ho hv hg hT.h h1 h2⟩
variable {W0 : World} {G0 : Gh} {N : Nat} {a : Act} {w : World} {G : Gh} {Q : Exit → Act → World → Prop} {rest : List Oper} {arr : Array Oper} {pos : String} {aft : Array Edge}
theorem W.fp {q : Prop} (t : Nat) [hl : Lk L t (PB b)] [hb : Bx B b i ty k τ] [be : BEr B i B'] [rm : Rm L t L'] (σ : MT) (f : ∀ {v : Value} {G : Gh},τ.t v G → σ.t v G) (K : ∀ G,St W0 G0 N ((t,FAD 0 k σ) :: L') B' a w G → q) : St W0 G0 N L B a w G → q:=fun S=>by
  obtain ⟨v,G',h1,h2,h3,h4,S'⟩:=S.freeze i hb.m
  have hv : (FAD 0 k σ).t (tm a t) G':=⟨b,ty,v,S.mem hl.m,h3,h2,f h1⟩
  rw [← be.h] at S'
  exact K G' (S'.weak fun j p hj=>by
    rcases List.mem_cons.1 (List.mem_of_getElem? hj) with e1 | e1
    · subst e1;exact hv
    · exact S'.mem (rm.h p e1))
theorem one_self {l : List Value} {i : Nat} {x : Value} (h : l[i]? = some x) : l.take i ++ [x] ++ l.drop (i + 1) = l:=by
  obtain ⟨hi,e⟩:=List.getElem?_eq_some_iff.1 h
  rw [← e,List.append_assoc,List.singleton_append,List.getElem_cons_drop,List.take_append_drop]
theorem W.stn [hx : Opd L x (FAD i k τ) u] [hy : Opd L y (.ex z) v] [hT : TyS P t none] [hp : Prt τ i none (.ex z)] (K : St W0 G0 N L B a w G → wpList P arr Q rest a w) {ty' : TypeId} : St W0 G0 N L B a w G → wpList P arr Q (⟨none,.store t x y,ty',pos,aft,none⟩ :: rest) a w:=fun S =>
  wpList_plain rfl fun K' hK=>by
    obtain ⟨b,ty,q,hv,hg,hs,ht⟩:=hx.h (S.env u)
    have hyv : a.eval y = z:=hy.h (S.env v)
    obtain ⟨q1,hs1,ht1,hc⟩:=hp.h ht hs
    have hq1 : q1 = z:=ht1
    subst hq1
    have hcell : q.cells[i]? = some q1:=by
      have:=hc 0 q1 (by rw [hs1.1];rfl)
      rwa [Nat.add_zero] at this
    have hb:=S.ok b _ hg
    have hyc : (a.eval y).cells.toList = [q1]:=by rw [hyv,hs1.1]
    have hlt : i < q.cells.size:=(Array.getElem?_eq_some_iff.1 hcell).1
    have hst:=run_storeCells_at b i ty (a.eval y).cells.toList 0 q.cells w (P:=P) hb (by rw [hyc];simp;omega) (by rw [hyv];exact shaped_cells hs1)
    rw [hyc] at hst
    simp only [Nat.add_zero,List.length_cons,List.length_nil,Nat.zero_add] at hst
    have hself : (q.cells.toList.take i ++ [q1] ++ q.cells.toList.drop (i + 1)).toArray = q.cells:=by
      rw [one_self (by simpa using hcell)]
    rw [hself,setRow_self w b q.cells ty (0,0) hb] at hst
    have hr : ∀ o : Oper,o.op = .store t x y → (execOp a.eval o).run P w = .ok .skip w:=fun o ho=>by
      simp only [execOp,ho,Instr.storeAt,hv,Instr.sureAddr,storeVar,Sem.run_bind,Sem.run_pure,Result.andThen_ok,tyS_size hT.h,hyv,hs1.1]
      simp [hst]
    unfold Oper.wp
    rw [hr _ rfl]
    exact hK _ _ (K S)
end
abbrev PX (n : Nat) (p : List Rat × List Rat) : MT:=PTS [(none,NM n p.1),(none,NM n p.2)]
section
variable {τ σ : MT} {b c : Nat} {l m : List Rat} {k : Option Nat} {τs : List MT}
theorem pts2 {τ' σ' : MT} {k1 k2 : Option Nat} (f : ∀ {v : Value} {G : Gh},τ.t v G → τ'.t v G) (g : ∀ {v : Value} {G : Gh},σ.t v G → σ'.t v G) {v : Value} {G : Gh} (h : (PTS [(k1,τ),(k2,σ)]).t v G) : (PTS [(k1,τ'),(k2,σ')]).t v G:=by
  obtain ⟨us,e,a1,a2⟩:=h
  refine ⟨us,e,a1,fun i p u hp hu=>?_⟩
  match i,hp with
  | 0,hp=>cases hp;obtain ⟨d1,d2⟩:=a2 0 _ u rfl hu;exact ⟨d1,f d2⟩
  | 1,hp=>cases hp;obtain ⟨d1,d2⟩:=a2 1 _ u rfl hu;exact ⟨d1,g d2⟩
instance : Grow PX:=⟨fun h e=>pts2 (fun h=>NM.up h e) (fun h=>NM.up h e) h⟩
instance Rdn.px [h : Rdn τ NM b l] [g : Rdn σ NM c m] : Rdn (PTS [(none,τ),(none,σ)]) PX (max b c) (l,m):=⟨fun hv=>pts2 (fun h'=>NM.up (h.h h') (Nat.le_max_left _ _)) (fun h'=>NM.up (g.h h') (Nat.le_max_right _ _)) hv⟩
instance NU.px {p : List Rat × List Rat} [h : Rdn (PTS [(none,τ),(none,σ)]) PX b p] : NU (PTS [(none,τ),(none,σ)]) (PX b p):=⟨fun hv=>h.h hv⟩
instance (priority:=1100) Rdn.pxe {n : Nat} : Rdn (PTS [(none,NM n l),(none,NM n m)]) PX n (l,m):=⟨fun hv=>hv⟩
instance (priority:=1100) NU.pxe {n : Nat} : NU (PTS [(none,NM n l),(none,NM n m)]) (PX n (l,m)):=⟨fun hv=>hv⟩
instance (priority:=900) AsT.nm0 {n : Nat} : AsT (NM n l) (NM n) l:=⟨fun h=>h⟩
abbrev PXS (n : Nat) (ps : List (List Rat × List Rat)) : MT:=LS (some 2) (ps.map (PX n))
instance NU.pxs {ps : List (List Rat × List Rat)} [h : RdnL τs PX b ps] : NU (LSC (some 2) τs) (PXS b ps):=⟨fun hv=>h.ls hv.1⟩
end
end Go.Proofs.YtnjbcjmkkejfpaaGreatDoor
set_option linter.unusedVariables false
set_option linter.unusedSimpArgs false
set_option maxHeartbeats 4000000
set_option maxRecDepth 100000
set_option synthInstance.maxSize 100000
set_option synthInstance.maxHeartbeats 400000
namespace Go.Proofs.YtnjbcjmkkejfpaaGreatDoor
open Go.RowKit (Below)
attribute [local irreducible] Go.Code.wp Go.wpList Go.bodyPost
attribute [local irreducible] plusF minusF joinF levI lev PW RLN tB sB timesF stepF tmF normF shoF TOK sgL
instance {τ : MT} {r : Nat} {rs : List (List Rat)} : Con Tryz.prog 169 [FAD 0 (some 2) (PTS [(some 1,TWR r rs),(none,.ex (errV 67 (0)))]),τ,.ex (errV 67 (0))] (True) (τ):=.o3 fun hok h1 h2 h3 hp=>by
  refine St.enter (N:=17) Tryz.func169 rfl rfl rfl hok (enter3 h1 h2 h3) fun a=>?_
  repeat' (first|((with_reducible refine gS_ ?_);first|((with_reducible refine gL_ ?_);first|refine W.run ?_ fun a w G=>?_|refine W.mv fun a w G=>?_|refine W.asg fun a w G=>?_|refine W.bx fun b a w G=>?_|(refine W.nn hK ?_;clear hK K)|refine W.nl ?_|refine W.al fun b a w G=>?_|refine W.st fun w=>?_|refine W.stp fun w=>?_|refine W.ste ?_ fun w=>?_)|((with_reducible refine gC_ ?_);first|refine W.reg fun K hK=>?_|refine W.reg1 ?_|refine W.sq fun K hK=>?_|refine W.ds ?_ (fun β a w G hu=>W.fin ?_ hu) mixedOrders (by kernel_rfl)|refine W.sk ?_|refine W.cd (fun hc=>?_) (fun hc=>?_)|refine W.cb (fun hc=>?_) (fun hc=>?_)|refine W.bl ?_|refine W.ex ?_|refine W.rt ?_)|((with_reducible refine W.kn hK ?_);clear hK K)|(with_reducible first|refine W.bn ?_|refine W.xt ?_|refine W.xb ?_|refine W.xo ?_|refine W.tr ?_|refine W.br ?_)|refine W.rt1 rfl ?_|refine W.rt2 rfl ?_ ?_|refine W.rt3 rfl ?_ ?_ ?_)|refine W.stn ?_|clear hK K|clear hu|exact True.intro|exact Nat.le_trans (by clear hp;omega) hp|exact Nat.le_trans (by clear hp;omega) hp.1|exact Nat.le_trans (by clear hp;omega) hp.2|(clear hp;omega)|apply And.intro|refine GI.i fun _=>?_|with_reducible rfl|decide|(simp only [List.length_cons,List.length_nil];omega))
theorem w139 {r n m : Nat} {rs : List (List Rat)} {l k : List Rat} : Con Tryz.prog 139 [FAD 0 (some 2) (PTS [(some 1,TWR r rs),(none,.ex (errV 67 (0)))]),NM n l,NM m k] (TOK rs ∧ PW rs.length l ∧ PW rs.length k ∧ 1 ≤ r ∧ 1 ≤ n ∧ 1 ≤ m ∧ sB rs.length (r + r) r ≤ BIG ∧ n + m + 1 ≤ BIG) (NM (n + m + 1) (shoF (plusF l (minusF k)))):=.o3 fun hok h1 h2 h3 hp=>by
  refine St.enter (N:=18) Tryz.func139 rfl rfl rfl hok (enter3 h1 h2 h3) fun a=>?_
  repeat' (first|((with_reducible refine gS_ ?_);first|((with_reducible refine gL_ ?_);first|refine W.run ?_ fun a w G=>?_|refine W.mv fun a w G=>?_|refine W.asg fun a w G=>?_|refine W.bx fun b a w G=>?_|(refine W.nn hK ?_;clear hK K)|refine W.nl ?_|refine W.al fun b a w G=>?_|refine W.st fun w=>?_|refine W.stp fun w=>?_|refine W.ste ?_ fun w=>?_)|((with_reducible refine gC_ ?_);first|refine W.reg fun K hK=>?_|refine W.reg1 ?_|refine W.sq fun K hK=>?_|refine W.ds ?_ (fun β a w G hu=>W.fin ?_ hu) mixedOrders (by kernel_rfl)|refine W.sk ?_|refine W.cd (fun hc=>?_) (fun hc=>?_)|refine W.cb (fun hc=>?_) (fun hc=>?_)|refine W.bl ?_|refine W.ex ?_|refine W.rt ?_)|((with_reducible refine W.kn hK ?_);clear hK K)|(with_reducible first|refine W.bn ?_|refine W.xt ?_|refine W.xb ?_|refine W.xo ?_|refine W.tr ?_|refine W.br ?_)|refine W.rt1 rfl ?_|refine W.rt2 rfl ?_ ?_|refine W.rt3 rfl ?_ ?_ ?_)|clear hK K|clear hu|exact True.intro|exact Nat.le_trans (by clear hp;omega) hp|exact Nat.le_trans (by clear hp;omega) hp.1|exact Nat.le_trans (by clear hp;omega) hp.2|(clear hp;omega)|apply And.intro|refine GI.i fun _=>?_|with_reducible rfl|decide|(simp only [List.length_cons,List.length_nil];omega))
  all_goals first | omega | exact hp.1 | exact hp.2.1 | exact hp.2.2.1 | skip
instance {r n m : Nat} {rs : List (List Rat)} {l k : List Rat} {τ2 : MT} [j2 : NU τ2 (NM n l)] {τ3 : MT} [j3 : NU τ3 (NM m k)] : Con Tryz.prog 139 [FAD 0 (some 2) (PTS [(some 1,TWR r rs),(none,.ex (errV 67 (0)))]),τ2,τ3] (TOK rs ∧ PW rs.length l ∧ PW rs.length k ∧ 1 ≤ r ∧ 1 ≤ n ∧ 1 ≤ m ∧ sB rs.length (r + r) r ≤ BIG ∧ n + m + 1 ≤ BIG) (NM (n + m + 1) (shoF (plusF l (minusF k)))):=.o3 fun hok h1 h2 h3 hp=>w139.c3 hok h1 (j2.h h2) (j3.h h3) hp
theorem w140 {r n m : Nat} {rs : List (List Rat)} {l k : List Rat} : Con Tryz.prog 140 [FAD 0 (some 2) (PTS [(some 1,TWR r rs),(none,.ex (errV 67 (0)))]),NM n l,NM m k] (TOK rs ∧ PW rs.length l ∧ PW rs.length k ∧ 1 ≤ r ∧ 1 ≤ n ∧ 1 ≤ m ∧ sB rs.length (r + r) r ≤ BIG ∧ n + m + 1 ≤ BIG) (NM (n + m + 1) (shoF (plusF l k))):=.o3 fun hok h1 h2 h3 hp=>by
  refine St.enter (N:=18) Tryz.func140 rfl rfl rfl hok (enter3 h1 h2 h3) fun a=>?_
  repeat' (first|((with_reducible refine gS_ ?_);first|((with_reducible refine gL_ ?_);first|refine W.run ?_ fun a w G=>?_|refine W.mv fun a w G=>?_|refine W.asg fun a w G=>?_|refine W.bx fun b a w G=>?_|(refine W.nn hK ?_;clear hK K)|refine W.nl ?_|refine W.al fun b a w G=>?_|refine W.st fun w=>?_|refine W.stp fun w=>?_|refine W.ste ?_ fun w=>?_)|((with_reducible refine gC_ ?_);first|refine W.reg fun K hK=>?_|refine W.reg1 ?_|refine W.sq fun K hK=>?_|refine W.ds ?_ (fun β a w G hu=>W.fin ?_ hu) mixedOrders (by kernel_rfl)|refine W.sk ?_|refine W.cd (fun hc=>?_) (fun hc=>?_)|refine W.cb (fun hc=>?_) (fun hc=>?_)|refine W.bl ?_|refine W.ex ?_|refine W.rt ?_)|((with_reducible refine W.kn hK ?_);clear hK K)|(with_reducible first|refine W.bn ?_|refine W.xt ?_|refine W.xb ?_|refine W.xo ?_|refine W.tr ?_|refine W.br ?_)|refine W.rt1 rfl ?_|refine W.rt2 rfl ?_ ?_|refine W.rt3 rfl ?_ ?_ ?_)|clear hK K|clear hu|exact True.intro|exact Nat.le_trans (by clear hp;omega) hp|exact Nat.le_trans (by clear hp;omega) hp.1|exact Nat.le_trans (by clear hp;omega) hp.2|(clear hp;omega)|apply And.intro|refine GI.i fun _=>?_|with_reducible rfl|decide|(simp only [List.length_cons,List.length_nil];omega))
  all_goals first | omega | exact hp.1 | exact hp.2.1 | exact hp.2.2.1 | skip
instance {r n m : Nat} {rs : List (List Rat)} {l k : List Rat} {τ2 : MT} [j2 : NU τ2 (NM n l)] {τ3 : MT} [j3 : NU τ3 (NM m k)] : Con Tryz.prog 140 [FAD 0 (some 2) (PTS [(some 1,TWR r rs),(none,.ex (errV 67 (0)))]),τ2,τ3] (TOK rs ∧ PW rs.length l ∧ PW rs.length k ∧ 1 ≤ r ∧ 1 ≤ n ∧ 1 ≤ m ∧ sB rs.length (r + r) r ≤ BIG ∧ n + m + 1 ≤ BIG) (NM (n + m + 1) (shoF (plusF l k))):=.o3 fun hok h1 h2 h3 hp=>w140.c3 hok h1 (j2.h h2) (j3.h h3) hp
theorem w141 {r n m : Nat} {rs : List (List Rat)} {l k : List Rat} : Con Tryz.prog 141 [FAD 0 (some 2) (PTS [(some 1,TWR r rs),(none,.ex (errV 67 (0)))]),NM n l,NM m k] (TOK rs ∧ PW rs.length l ∧ PW rs.length k ∧ 1 ≤ r ∧ 1 ≤ n ∧ 1 ≤ m ∧ sB rs.length (r + r) r ≤ BIG ∧ tB rs.length (n + m) r ≤ BIG) (NM (tB rs.length (n + m) r) (shoF (tmF rs l k))):=.o3 fun hok h1 h2 h3 hp=>by
  refine St.enter (N:=18) Tryz.func141 rfl rfl rfl hok (enter3 h1 h2 h3) fun a=>?_
  repeat' (first|((with_reducible refine gS_ ?_);first|((with_reducible refine gL_ ?_);first|refine W.run ?_ fun a w G=>?_|refine W.mv fun a w G=>?_|refine W.asg fun a w G=>?_|refine W.bx fun b a w G=>?_|(refine W.nn hK ?_;clear hK K)|refine W.nl ?_|refine W.al fun b a w G=>?_|refine W.st fun w=>?_|refine W.stp fun w=>?_|refine W.ste ?_ fun w=>?_)|((with_reducible refine gC_ ?_);first|refine W.reg fun K hK=>?_|refine W.reg1 ?_|refine W.sq fun K hK=>?_|refine W.ds ?_ (fun β a w G hu=>W.fin ?_ hu) mixedOrders (by kernel_rfl)|refine W.sk ?_|refine W.cd (fun hc=>?_) (fun hc=>?_)|refine W.cb (fun hc=>?_) (fun hc=>?_)|refine W.bl ?_|refine W.ex ?_|refine W.rt ?_)|((with_reducible refine W.kn hK ?_);clear hK K)|(with_reducible first|refine W.bn ?_|refine W.xt ?_|refine W.xb ?_|refine W.xo ?_|refine W.tr ?_|refine W.br ?_)|refine W.rt1 rfl ?_|refine W.rt2 rfl ?_ ?_|refine W.rt3 rfl ?_ ?_ ?_)|clear hK K|clear hu|exact True.intro|exact Nat.le_trans (by clear hp;omega) hp|exact Nat.le_trans (by clear hp;omega) hp.1|exact Nat.le_trans (by clear hp;omega) hp.2|(clear hp;omega)|apply And.intro|refine GI.i fun _=>?_|with_reducible rfl|decide|(simp only [List.length_cons,List.length_nil];omega))
  all_goals first | omega | exact hp.1 | exact hp.2.1 | exact hp.2.2.1 | skip
instance {r n m : Nat} {rs : List (List Rat)} {l k : List Rat} {τ2 : MT} [j2 : NU τ2 (NM n l)] {τ3 : MT} [j3 : NU τ3 (NM m k)] : Con Tryz.prog 141 [FAD 0 (some 2) (PTS [(some 1,TWR r rs),(none,.ex (errV 67 (0)))]),τ2,τ3] (TOK rs ∧ PW rs.length l ∧ PW rs.length k ∧ 1 ≤ r ∧ 1 ≤ n ∧ 1 ≤ m ∧ sB rs.length (r + r) r ≤ BIG ∧ tB rs.length (n + m) r ≤ BIG) (NM (tB rs.length (n + m) r) (shoF (tmF rs l k))):=.o3 fun hok h1 h2 h3 hp=>w141.c3 hok h1 (j2.h h2) (j3.h h3) hp
def PWp (K : Nat) (p : List Rat × List Rat) : Prop:=PW K p.1 ∧ PW K p.2
def lesF (p q : List Rat × List Rat) : List Rat × List Rat:=(shoF (plusF p.1 (minusF q.1)),shoF (plusF p.2 (minusF q.2)))
def dotF (rs : List (List Rat)) (p q : List Rat × List Rat) : List Rat:=shoF (plusF (shoF (tmF rs p.1 q.1)) (shoF (tmF rs p.2 q.2)))
def croF (rs : List (List Rat)) (p q : List Rat × List Rat) : List Rat:=shoF (plusF (shoF (tmF rs p.1 q.2)) (minusF (shoF (tmF rs p.2 q.1))))
theorem PWp.a {K : Nat} {p : List Rat × List Rat} (h : PWp K p) : PW K p.1:=h.1
theorem PWp.b {K : Nat} {p : List Rat × List Rat} (h : PWp K p) : PW K p.2:=h.2
theorem PWp.les {rs : List (List Rat)} {p q : List Rat × List Rat} (ht : TOK rs) (hp : PWp rs.length p) (hq : PWp rs.length q) : PWp rs.length (lesF p q):=by
  have h5:=ht.rl.2
  unfold PWp lesF at *
  exact ⟨sho_pw h5 (hp.1.plus hq.1.minus),sho_pw h5 (hp.2.plus hq.2.minus)⟩
theorem PWp.dot {rs : List (List Rat)} {p q : List Rat × List Rat} (ht : TOK rs) (hp : PWp rs.length p) (hq : PWp rs.length q) : PW rs.length (shoF (tmF rs p.1 q.1)) ∧ PW rs.length (shoF (tmF rs p.2 q.2)) ∧ PW rs.length (dotF rs p q):=by
  have h5:=ht.rl
  unfold PWp at *
  have a:=sho_pw h5.2 (PW.tm h5.1 (Nat.le_refl _) hp.1 hq.1)
  have b:=sho_pw h5.2 (PW.tm h5.1 (Nat.le_refl _) hp.2 hq.2)
  unfold dotF
  exact ⟨a,b,sho_pw h5.2 (a.plus b)⟩
theorem PWp.cro {rs : List (List Rat)} {p q : List Rat × List Rat} (ht : TOK rs) (hp : PWp rs.length p) (hq : PWp rs.length q) : PW rs.length (shoF (tmF rs p.1 q.2)) ∧ PW rs.length (shoF (tmF rs p.2 q.1)) ∧ PW rs.length (croF rs p q):=by
  have h5:=ht.rl
  unfold PWp at *
  have a:=sho_pw h5.2 (PW.tm h5.1 (Nat.le_refl _) hp.1 hq.2)
  have b:=sho_pw h5.2 (PW.tm h5.1 (Nat.le_refl _) hp.2 hq.1)
  unfold croF
  exact ⟨a,b,sho_pw h5.2 (a.plus b.minus)⟩
attribute [local irreducible] PWp
theorem w95 {r n m : Nat} {rs : List (List Rat)} {p q : List Rat × List Rat} : Con Tryz.prog 95 [FAD 0 (some 2) (PTS [(some 1,TWR r rs),(none,.ex (errV 67 (0)))]),PX n p,PX m q] (TOK rs ∧ PWp rs.length p ∧ PWp rs.length q ∧ 1 ≤ r ∧ 1 ≤ n ∧ 1 ≤ m ∧ sB rs.length (r + r) r ≤ BIG ∧ n + m + 1 ≤ BIG) (PX (n + m + 1) (lesF p q)):=.o3 fun hok h1 h2 h3 hp=>by
  refine St.enter (N:=20) Tryz.func95 rfl rfl rfl hok (enter3 h1 h2 h3) fun a=>?_
  repeat' (first|((with_reducible refine gS_ ?_);first|((with_reducible refine gL_ ?_);first|refine W.run ?_ fun a w G=>?_|refine W.mv fun a w G=>?_|refine W.asg fun a w G=>?_|refine W.bx fun b a w G=>?_|(refine W.nn hK ?_;clear hK K)|refine W.nl ?_|refine W.al fun b a w G=>?_|refine W.st fun w=>?_|refine W.stp fun w=>?_|refine W.ste ?_ fun w=>?_)|((with_reducible refine gC_ ?_);first|refine W.reg fun K hK=>?_|refine W.reg1 ?_|refine W.sq fun K hK=>?_|refine W.ds ?_ (fun β a w G hu=>W.fin ?_ hu) mixedOrders (by kernel_rfl)|refine W.sk ?_|refine W.cd (fun hc=>?_) (fun hc=>?_)|refine W.cb (fun hc=>?_) (fun hc=>?_)|refine W.bl ?_|refine W.ex ?_|refine W.rt ?_)|((with_reducible refine W.kn hK ?_);clear hK K)|(with_reducible first|refine W.bn ?_|refine W.xt ?_|refine W.xb ?_|refine W.xo ?_|refine W.tr ?_|refine W.br ?_)|refine W.rt1 rfl ?_|refine W.rt2 rfl ?_ ?_|refine W.rt3 rfl ?_ ?_ ?_)|clear hK K|clear hu|exact True.intro|exact Nat.le_trans (by clear hp;omega) hp|exact Nat.le_trans (by clear hp;omega) hp.1|exact Nat.le_trans (by clear hp;omega) hp.2|(clear hp;omega)|apply And.intro|refine GI.i fun _=>?_|with_reducible rfl|decide|(simp only [List.length_cons,List.length_nil];omega))
  all_goals first
    | omega
    | exact hp.1
    | exact hp.2.1
    | exact hp.2.2.1
    | exact hp.2.1.a
    | exact hp.2.1.b
    | exact hp.2.2.1.a
    | exact hp.2.2.1.b
    | exact hx.1
    | exact hx.2.1
    | rfl
    | skip
instance {r n m : Nat} {rs : List (List Rat)} {p q : List Rat × List Rat} {τ2 : MT} [j2 : NU τ2 (PX n p)] {τ3 : MT} [j3 : NU τ3 (PX m q)] : Con Tryz.prog 95 [FAD 0 (some 2) (PTS [(some 1,TWR r rs),(none,.ex (errV 67 (0)))]),τ2,τ3] (TOK rs ∧ PWp rs.length p ∧ PWp rs.length q ∧ 1 ≤ r ∧ 1 ≤ n ∧ 1 ≤ m ∧ sB rs.length (r + r) r ≤ BIG ∧ n + m + 1 ≤ BIG) (PX (n + m + 1) (lesF p q)):=.o3 fun hok h1 h2 h3 hp=>w95.c3 hok h1 (j2.h h2) (j3.h h3) hp
theorem w97 {r n m : Nat} {rs : List (List Rat)} {p q : List Rat × List Rat} : Con Tryz.prog 97 [FAD 0 (some 2) (PTS [(some 1,TWR r rs),(none,.ex (errV 67 (0)))]),PX n p,PX m q] (TOK rs ∧ PWp rs.length p ∧ PWp rs.length q ∧ 1 ≤ r ∧ 1 ≤ n ∧ 1 ≤ m ∧ sB rs.length (r + r) r ≤ BIG ∧ 2 * tB rs.length (n + m) r + 1 ≤ BIG) (NM (2 * tB rs.length (n + m) r + 1) (dotF rs p q)):=.o3 fun hok h1 h2 h3 hp=>by
  refine St.enter (N:=21) Tryz.func97 rfl rfl rfl hok (enter3 h1 h2 h3) fun a=>?_
  have hx:=PWp.dot hp.1 hp.2.1 hp.2.2.1
  have ht0:=tB_le (r:=r) (k:=rs.length) (n:=n + m)
  repeat' (first|((with_reducible refine gS_ ?_);first|((with_reducible refine gL_ ?_);first|refine W.run ?_ fun a w G=>?_|refine W.mv fun a w G=>?_|refine W.asg fun a w G=>?_|refine W.bx fun b a w G=>?_|(refine W.nn hK ?_;clear hK K)|refine W.nl ?_|refine W.al fun b a w G=>?_|refine W.st fun w=>?_|refine W.stp fun w=>?_|refine W.ste ?_ fun w=>?_)|((with_reducible refine gC_ ?_);first|refine W.reg fun K hK=>?_|refine W.reg1 ?_|refine W.sq fun K hK=>?_|refine W.ds ?_ (fun β a w G hu=>W.fin ?_ hu) mixedOrders (by kernel_rfl)|refine W.sk ?_|refine W.cd (fun hc=>?_) (fun hc=>?_)|refine W.cb (fun hc=>?_) (fun hc=>?_)|refine W.bl ?_|refine W.ex ?_|refine W.rt ?_)|((with_reducible refine W.kn hK ?_);clear hK K)|(with_reducible first|refine W.bn ?_|refine W.xt ?_|refine W.xb ?_|refine W.xo ?_|refine W.tr ?_|refine W.br ?_)|refine W.rt1 rfl ?_|refine W.rt2 rfl ?_ ?_|refine W.rt3 rfl ?_ ?_ ?_)|clear hK K|clear hu|exact True.intro|exact Nat.le_trans (by clear hp;omega) hp|exact Nat.le_trans (by clear hp;omega) hp.1|exact Nat.le_trans (by clear hp;omega) hp.2|(clear hp;omega)|apply And.intro|refine GI.i fun _=>?_|with_reducible rfl|decide|(simp only [List.length_cons,List.length_nil];omega))
  all_goals first
    | omega
    | exact hp.1
    | exact hp.2.1
    | exact hp.2.2.1
    | exact hp.2.1.a
    | exact hp.2.1.b
    | exact hp.2.2.1.a
    | exact hp.2.2.1.b
    | exact hx.1
    | exact hx.2.1
    | rfl
    | skip
instance {r n m : Nat} {rs : List (List Rat)} {p q : List Rat × List Rat} {τ2 : MT} [j2 : NU τ2 (PX n p)] {τ3 : MT} [j3 : NU τ3 (PX m q)] : Con Tryz.prog 97 [FAD 0 (some 2) (PTS [(some 1,TWR r rs),(none,.ex (errV 67 (0)))]),τ2,τ3] (TOK rs ∧ PWp rs.length p ∧ PWp rs.length q ∧ 1 ≤ r ∧ 1 ≤ n ∧ 1 ≤ m ∧ sB rs.length (r + r) r ≤ BIG ∧ 2 * tB rs.length (n + m) r + 1 ≤ BIG) (NM (2 * tB rs.length (n + m) r + 1) (dotF rs p q)):=.o3 fun hok h1 h2 h3 hp=>w97.c3 hok h1 (j2.h h2) (j3.h h3) hp
theorem w142 {r n m : Nat} {rs : List (List Rat)} {p q : List Rat × List Rat} : Con Tryz.prog 142 [FAD 0 (some 2) (PTS [(some 1,TWR r rs),(none,.ex (errV 67 (0)))]),PX n p,PX m q] (TOK rs ∧ PWp rs.length p ∧ PWp rs.length q ∧ 1 ≤ r ∧ 1 ≤ n ∧ 1 ≤ m ∧ sB rs.length (r + r) r ≤ BIG ∧ 2 * tB rs.length (n + m) r + 1 ≤ BIG) (NM (2 * tB rs.length (n + m) r + 1) (croF rs p q)):=.o3 fun hok h1 h2 h3 hp=>by
  refine St.enter (N:=21) Tryz.func142 rfl rfl rfl hok (enter3 h1 h2 h3) fun a=>?_
  have hx:=PWp.cro hp.1 hp.2.1 hp.2.2.1
  have ht0:=tB_le (r:=r) (k:=rs.length) (n:=n + m)
  repeat' (first|((with_reducible refine gS_ ?_);first|((with_reducible refine gL_ ?_);first|refine W.run ?_ fun a w G=>?_|refine W.mv fun a w G=>?_|refine W.asg fun a w G=>?_|refine W.bx fun b a w G=>?_|(refine W.nn hK ?_;clear hK K)|refine W.nl ?_|refine W.al fun b a w G=>?_|refine W.st fun w=>?_|refine W.stp fun w=>?_|refine W.ste ?_ fun w=>?_)|((with_reducible refine gC_ ?_);first|refine W.reg fun K hK=>?_|refine W.reg1 ?_|refine W.sq fun K hK=>?_|refine W.ds ?_ (fun β a w G hu=>W.fin ?_ hu) mixedOrders (by kernel_rfl)|refine W.sk ?_|refine W.cd (fun hc=>?_) (fun hc=>?_)|refine W.cb (fun hc=>?_) (fun hc=>?_)|refine W.bl ?_|refine W.ex ?_|refine W.rt ?_)|((with_reducible refine W.kn hK ?_);clear hK K)|(with_reducible first|refine W.bn ?_|refine W.xt ?_|refine W.xb ?_|refine W.xo ?_|refine W.tr ?_|refine W.br ?_)|refine W.rt1 rfl ?_|refine W.rt2 rfl ?_ ?_|refine W.rt3 rfl ?_ ?_ ?_)|clear hK K|clear hu|exact True.intro|exact Nat.le_trans (by clear hp;omega) hp|exact Nat.le_trans (by clear hp;omega) hp.1|exact Nat.le_trans (by clear hp;omega) hp.2|(clear hp;omega)|apply And.intro|refine GI.i fun _=>?_|with_reducible rfl|decide|(simp only [List.length_cons,List.length_nil];omega))
  all_goals first
    | omega
    | exact hp.1
    | exact hp.2.1
    | exact hp.2.2.1
    | exact hp.2.1.a
    | exact hp.2.1.b
    | exact hp.2.2.1.a
    | exact hp.2.2.1.b
    | exact hx.1
    | exact hx.2.1
    | rfl
    | skip
instance {r n m : Nat} {rs : List (List Rat)} {p q : List Rat × List Rat} {τ2 : MT} [j2 : NU τ2 (PX n p)] {τ3 : MT} [j3 : NU τ3 (PX m q)] : Con Tryz.prog 142 [FAD 0 (some 2) (PTS [(some 1,TWR r rs),(none,.ex (errV 67 (0)))]),τ2,τ3] (TOK rs ∧ PWp rs.length p ∧ PWp rs.length q ∧ 1 ≤ r ∧ 1 ≤ n ∧ 1 ≤ m ∧ sB rs.length (r + r) r ≤ BIG ∧ 2 * tB rs.length (n + m) r + 1 ≤ BIG) (NM (2 * tB rs.length (n + m) r + 1) (croF rs p q)):=.o3 fun hok h1 h2 h3 hp=>w142.c3 hok h1 (j2.h h2) (j3.h h3) hp
instance {τ : MT} {r : Nat} {rs : List (List Rat)} : Con Tryz.prog 96 [FAD 0 (some 2) (PTS [(some 1,TWR r rs),(none,.ex (errV 67 (0)))]),τ] (True) (MT.tup2 τ (.ex (errV 67 (0)))):=.o2 fun hok h1 h2 hp=>by
  refine St.enter (N:=16) Tryz.func96 rfl rfl rfl hok (enter2 h1 h2) fun a=>?_
  repeat' (first|((with_reducible refine gS_ ?_);first|((with_reducible refine gL_ ?_);first|refine W.run ?_ fun a w G=>?_|refine W.mv fun a w G=>?_|refine W.asg fun a w G=>?_|refine W.bx fun b a w G=>?_|(refine W.nn hK ?_;clear hK K)|refine W.nl ?_|refine W.al fun b a w G=>?_|refine W.st fun w=>?_|refine W.stp fun w=>?_|refine W.ste ?_ fun w=>?_)|((with_reducible refine gC_ ?_);first|with_reducible refine W.cbt (by first|assumption|(simp [];done)|fail) ?_|with_reducible refine W.cbf (by first|assumption|(simp [];done)|fail) ?_|refine W.reg fun K hK=>?_|refine W.reg1 ?_|refine W.sq fun K hK=>?_|refine W.ds ?_ (fun β a w G hu=>W.fin ?_ hu) mixedOrders (by kernel_rfl)|refine W.sk ?_|refine W.cd (fun hc=>?_) (fun hc=>?_)|refine W.cb (fun hc=>?_) (fun hc=>?_)|refine W.bl ?_|refine W.ex ?_|refine W.rt ?_)|((with_reducible refine W.kn hK ?_);clear hK K)|(with_reducible first|refine W.bn ?_|refine W.xt ?_|refine W.xb ?_|refine W.xo ?_|refine W.tr ?_|refine W.br ?_)|refine W.rt1 rfl ?_|refine W.rt2 rfl ?_ ?_|refine W.rt3 rfl ?_ ?_ ?_)|clear hK K|clear hu|exact True.intro|exact Nat.le_trans (by clear hp;omega) hp|exact Nat.le_trans (by clear hp;omega) hp.1|exact Nat.le_trans (by clear hp;omega) hp.2|(clear hp;omega)|apply And.intro|refine GI.i fun _=>?_|with_reducible rfl|decide|(simp only [List.length_cons,List.length_nil];omega))
theorem w98 {r n m o : Nat} {rs : List (List Rat)} {p q s : List Rat × List Rat} : Con Tryz.prog 98 [FAD 0 (some 2) (PTS [(some 1,TWR r rs),(none,.ex (errV 67 (0)))]),PX n p,PX m q,PX o s] (TOK rs ∧ PWp rs.length p ∧ PWp rs.length q ∧ PWp rs.length s ∧ 1 ≤ r ∧ 1 ≤ n ∧ 1 ≤ m ∧ 1 ≤ o ∧ sB rs.length (r + r) r ≤ BIG ∧ 2 * tB rs.length (m + n + 1 + (o + n + 1)) r + 1 ≤ BIG) (NM (2 * tB rs.length (m + n + 1 + (o + n + 1)) r + 1) (croF rs (lesF q p) (lesF s p))):=.o4 fun hok h1 h2 h3 h4 hp=>by
  refine St.enter (N:=19) Tryz.func98 rfl rfl rfl hok (enter4 h1 h2 h3 h4) fun a=>?_
  have hx:=PWp.les hp.1 hp.2.2.1 hp.2.1
  have hy:=PWp.les hp.1 hp.2.2.2.1 hp.2.1
  have ht0:=tB_le (r:=r) (k:=rs.length) (n:=m + n + 1 + (o + n + 1))
  repeat' (first|((with_reducible refine gS_ ?_);first|((with_reducible refine gL_ ?_);first|refine W.run ?_ fun a w G=>?_|refine W.mv fun a w G=>?_|refine W.asg fun a w G=>?_|refine W.bx fun b a w G=>?_|(refine W.nn hK ?_;clear hK K)|refine W.nl ?_|refine W.al fun b a w G=>?_|refine W.st fun w=>?_|refine W.stp fun w=>?_|refine W.ste ?_ fun w=>?_)|((with_reducible refine gC_ ?_);first|refine W.reg fun K hK=>?_|refine W.reg1 ?_|refine W.sq fun K hK=>?_|refine W.ds ?_ (fun β a w G hu=>W.fin ?_ hu) mixedOrders (by kernel_rfl)|refine W.sk ?_|refine W.cd (fun hc=>?_) (fun hc=>?_)|refine W.cb (fun hc=>?_) (fun hc=>?_)|refine W.bl ?_|refine W.ex ?_|refine W.rt ?_)|((with_reducible refine W.kn hK ?_);clear hK K)|(with_reducible first|refine W.bn ?_|refine W.xt ?_|refine W.xb ?_|refine W.xo ?_|refine W.tr ?_|refine W.br ?_)|refine W.rt1 rfl ?_|refine W.rt2 rfl ?_ ?_|refine W.rt3 rfl ?_ ?_ ?_)|clear hK K|clear hu|exact True.intro|exact Nat.le_trans (by clear hp;omega) hp|exact Nat.le_trans (by clear hp;omega) hp.1|exact Nat.le_trans (by clear hp;omega) hp.2|(clear hp;omega)|apply And.intro|refine GI.i fun _=>?_|with_reducible rfl|decide|(simp only [List.length_cons,List.length_nil];omega))
  all_goals first
    | omega
    | exact hp.1
    | exact hp.2.1
    | exact hp.2.2.1
    | exact hp.2.1.a
    | exact hp.2.1.b
    | exact hp.2.2.1.a
    | exact hp.2.2.1.b
    | exact hx
    | exact hy
    | exact hp.2.2.2.1
    | exact hx.2.1
    | rfl
    | skip
instance {r n m o : Nat} {rs : List (List Rat)} {p q s : List Rat × List Rat} {τ2 : MT} [j2 : NU τ2 (PX n p)] {τ3 : MT} [j3 : NU τ3 (PX m q)] {τ4 : MT} [j4 : NU τ4 (PX o s)] : Con Tryz.prog 98 [FAD 0 (some 2) (PTS [(some 1,TWR r rs),(none,.ex (errV 67 (0)))]),τ2,τ3,τ4] (TOK rs ∧ PWp rs.length p ∧ PWp rs.length q ∧ PWp rs.length s ∧ 1 ≤ r ∧ 1 ≤ n ∧ 1 ≤ m ∧ 1 ≤ o ∧ sB rs.length (r + r) r ≤ BIG ∧ 2 * tB rs.length (m + n + 1 + (o + n + 1)) r + 1 ≤ BIG) (NM (2 * tB rs.length (m + n + 1 + (o + n + 1)) r + 1) (croF rs (lesF q p) (lesF s p))):=.o4 fun hok h1 h2 h3 h4 hp=>w98.c4 hok h1 (j2.h h2) (j3.h h3) (j4.h h4) hp
theorem w138 {r n : Nat} {rs ls : List (List Rat)} : Con Tryz.prog 138 [TWR r rs,RTS n ls] (TOK rs ∧ 1 ≤ r ∧ 1 ≤ n ∧ n ≤ BIG ∧ sB rs.length (r + r) r ≤ BIG ∧ ls.length ≤ 16 ∧ ∀ x ∈ ls,PW rs.length x) (.ex (errV 67 (0))):=.o2 fun hok h1 h2 hp=>by
  refine St.enter (N:=31) Tryz.func138 rfl rfl rfl hok (enter2 h1 h2) fun a=>?_
  have h5:=hp.1.rl
  repeat' (first|((with_reducible refine gS_ ?_);first|((with_reducible refine gL_ ?_);first|refine W.run ?_ fun a w G=>?_|refine W.mv fun a w G=>?_|refine W.asg fun a w G=>?_|refine W.bx fun b a w G=>?_|(refine W.nn hK ?_;clear hK K)|refine W.nl ?_|refine W.al fun b a w G=>?_|refine W.st fun w=>?_|refine W.stp fun w=>?_|refine W.ste ?_ fun w=>?_)|((with_reducible refine gC_ ?_);first|refine W.reg fun K hK=>?_|refine W.reg1 ?_|refine W.sq fun K hK=>?_|refine W.ds ?_ (fun β a w G hu=>W.fin ?_ hu) mixedOrders (by kernel_rfl)|refine W.sk ?_|refine W.cd (fun hc=>?_) (fun hc=>?_)|refine W.cb (fun hc=>?_) (fun hc=>?_)|refine W.bl ?_|refine W.ex ?_|refine W.rt ?_)|((with_reducible refine W.kn hK ?_);clear hK K)|(with_reducible first|refine W.bn ?_|refine W.xt ?_|refine W.xb ?_|refine W.xo ?_|refine W.tr ?_|refine W.br ?_)|refine W.rt1 rfl ?_|refine W.rt2 rfl ?_ ?_|refine W.rt3 rfl ?_ ?_ ?_)|refine W.lp 18 (α:=Nat) (fun j=>ls.length - j) (fun j=>j ≤ ls.length) [4,7,8,9,17,18,19,20,21,22,23,24,25,26,27,28,29,30] (fun j=>[(17,NT j)]) (fun j=>[]) (0) ?_ ?_ ?_ fun j hj a w G=>?_|refine W.ag (x:=j) (j+1) ?_ ?_ ?_ ?_|clear hK K|clear hu|exact True.intro|exact Nat.le_trans (by clear hp;omega) hp|exact Nat.le_trans (by clear hp;omega) hp.1|exact Nat.le_trans (by clear hp;omega) hp.2|(clear hp;omega)|apply And.intro|refine GI.i fun _=>?_|with_reducible rfl|decide|(simp only [List.length_cons,List.length_nil];omega))
  all_goals first
    | omega
    | exact hp.1
    | exact hp.2.2.2.2.2.2 _ (getD_mem (by omega))
    | skip
instance {r n : Nat} {rs ls : List (List Rat)} {τ1 : MT} [j1 : NU τ1 (TWR r rs)] {τ2 : MT} [j2 : NU τ2 (RTS n ls)] : Con Tryz.prog 138 [τ1,τ2] (TOK rs ∧ 1 ≤ r ∧ 1 ≤ n ∧ n ≤ BIG ∧ sB rs.length (r + r) r ≤ BIG ∧ ls.length ≤ 16 ∧ ∀ x ∈ ls,PW rs.length x) (.ex (errV 67 (0))):=.o2 fun hok h1 h2 hp=>w138.c2 hok (j1.h h1) (j2.h h2) hp
def numsF (ps : List (List Rat × List Rat)) (j : Nat) : List (List Rat):=(ps.take j).flatMap fun p=>[p.1,p.2]
theorem numsF_0 {ps : List (List Rat × List Rat)} : numsF ps 0 = []:=rfl
theorem numsF_go {ps : List (List Rat × List Rat)} {j : Nat} (h : j < ps.length) : numsF ps j ++ [(ps.getD j default).1,(ps.getD j default).2] = numsF ps (j + 1):=by
  unfold numsF
  rw [List.take_add_one,List.getElem?_eq_getElem h,List.flatMap_append,List.getD_eq_getElem?_getD,List.getElem?_eq_getElem h];rfl
theorem numsF_len {ps : List (List Rat × List Rat)} {j : Nat} (h : j ≤ ps.length) : (numsF ps j).length = 2 * j:=by
  induction j with
  | zero=>rfl
  | succ j ih=>rw [← numsF_go (by omega),List.length_append,ih (by omega)];simp;omega
theorem numsF_pw {K j : Nat} {ps : List (List Rat × List Rat)} (h : ∀ p ∈ ps,PWp K p) : ∀ x ∈ numsF ps j,PW K x:=by
  intro x hx
  unfold numsF at hx
  obtain ⟨p,hp,hx⟩:=List.mem_flatMap.1 hx
  have:=h p (List.mem_of_mem_take hp)
  simp only [List.mem_cons,List.not_mem_nil,or_false] at hx
  rcases hx with rfl | rfl
  · exact this.a
  · exact this.b
theorem w92 {r n : Nat} {rs : List (List Rat)} {ps : List (List Rat × List Rat)} : Con Tryz.prog 92 [TWR r rs,PXS n ps] (TOK rs ∧ 1 ≤ r ∧ 1 ≤ n ∧ n ≤ BIG ∧ sB rs.length (r + r) r ≤ BIG ∧ ps.length ≤ 8 ∧ ∀ p ∈ ps,PWp rs.length p) (.ex (errV 67 (0))):=.o2 fun hok h1 h2 hp=>by
  refine St.enter (N:=25) Tryz.func92 rfl rfl rfl hok (enter2 h1 h2) fun a=>?_
  have own20 : OwnAt 20:=⟨⟩
  repeat' (first|((with_reducible refine gS_ ?_);first|((with_reducible refine gL_ ?_);first|refine W.run ?_ fun a w G=>?_|refine W.mv fun a w G=>?_|refine W.asg fun a w G=>?_|refine W.bx fun b a w G=>?_|(refine W.nn hK ?_;clear hK K)|refine W.nl ?_|refine W.al fun b a w G=>?_|refine W.st fun w=>?_|refine W.stp fun w=>?_|refine W.ste ?_ fun w=>?_)|((with_reducible refine gC_ ?_);first|refine W.reg fun K hK=>?_|refine W.reg1 ?_|refine W.sq fun K hK=>?_|refine W.ds ?_ (fun β a w G hu=>W.fin ?_ hu) mixedOrders (by kernel_rfl)|refine W.sk ?_|refine W.cd (fun hc=>?_) (fun hc=>?_)|refine W.cb (fun hc=>?_) (fun hc=>?_)|refine W.bl ?_|refine W.ex ?_|refine W.rt ?_)|((with_reducible refine W.kn hK ?_);clear hK K)|(with_reducible first|refine W.bn ?_|refine W.xt ?_|refine W.xb ?_|refine W.xo ?_|refine W.tr ?_|refine W.br ?_)|refine W.rt1 rfl ?_|refine W.rt2 rfl ?_ ?_|refine W.rt3 rfl ?_ ?_ ?_)|refine W.lpo 11 (OWNS.nil (k:=none) (e:=46)) (T:=NM n) (xs0:=[]) (fun j=>ps.length - j) (fun j=>j ≤ ps.length) (fun j=>numsF ps j) [5,7,10,11,12,13,14,15,16,17,18,19,20,21] (fun j V=>[(10,NT j),(5,.ex V)]) (fun j=>[]) 0 ?_ ?_ ?_ ?_ fun j hj V own a w G hO=>?_|refine W.ap (mt:=.ex (.slice none 0 0)) (T:=NM n) hO ?_ fun V own a w G hO=>?_|refine W.ago (K:=fun _ _=>True) (T:=NM n) hO (x:=j) (j+1) ?_ ?_ ?_ ?_ ?_|refine W.fzo (T:=NM n) 5 hO ?_ fun G=>?_|clear hK K|clear hu|exact True.intro|exact Nat.le_trans (by clear hp;omega) hp|exact Nat.le_trans (by clear hp;omega) hp.1|exact Nat.le_trans (by clear hp;omega) hp.2|(clear hp;omega)|apply And.intro|refine GI.i fun _=>?_|with_reducible rfl|decide|(simp only [List.length_cons,List.length_nil];omega))
  all_goals first
    | omega
    | exact hp.1
    | rfl
    | exact numsF_0
    | exact numsF_0.symm
    | exact numsF_go (by omega)
    | exact (numsF_go (by omega)).symm
    | exact numsF_pw hp.2.2.2.2.2.2
    | (have hjl:=numsF_len (ps:=ps) (j:=j) (by omega);have h8:=hp.2.2.2.2.2.1;omega)
    | (have hjl:=numsF_len (ps:=ps) (j:=j) (by omega);simp only [LIM,List.length_cons,List.length_nil,List.length_map] at *;omega)
    | skip
instance {r n : Nat} {rs : List (List Rat)} {ps : List (List Rat × List Rat)} {τ1 : MT} [j1 : NU τ1 (TWR r rs)] {τ2 : MT} [j2 : NU τ2 (PXS n ps)] : Con Tryz.prog 92 [τ1,τ2] (TOK rs ∧ 1 ≤ r ∧ 1 ≤ n ∧ n ≤ BIG ∧ sB rs.length (r + r) r ≤ BIG ∧ ps.length ≤ 8 ∧ ∀ p ∈ ps,PWp rs.length p) (.ex (errV 67 (0))):=.o2 fun hok h1 h2 hp=>w92.c2 hok (j1.h h1) (j2.h h2) hp
theorem w48 {n m : Nat} {x y : Rat} : Con Tryz.prog 48 [QV n x,QV m y] (n + m + 2 ≤ BIG) (PTS [(none,NM (n + 2) (shoF [x])),(none,NM (m + 2) (shoF [y]))]):=.o2 fun hok h1 h2 hp=>by
  refine St.enter (N:=10) Tryz.func48 rfl rfl rfl hok (enter2 h1 h2) fun a=>?_
  repeat' (first|((with_reducible refine gS_ ?_);first|((with_reducible refine gL_ ?_);first|refine W.run ?_ fun a w G=>?_|refine W.mv fun a w G=>?_|refine W.asg fun a w G=>?_|refine W.bx fun b a w G=>?_|(refine W.nn hK ?_;clear hK K)|refine W.nl ?_|refine W.al fun b a w G=>?_|refine W.st fun w=>?_|refine W.stp fun w=>?_|refine W.ste ?_ fun w=>?_)|((with_reducible refine gC_ ?_);first|refine W.reg fun K hK=>?_|refine W.reg1 ?_|refine W.sq fun K hK=>?_|refine W.ds ?_ (fun β a w G hu=>W.fin ?_ hu) mixedOrders (by kernel_rfl)|refine W.sk ?_|refine W.cd (fun hc=>?_) (fun hc=>?_)|refine W.cb (fun hc=>?_) (fun hc=>?_)|refine W.bl ?_|refine W.ex ?_|refine W.rt ?_)|((with_reducible refine W.kn hK ?_);clear hK K)|(with_reducible first|refine W.bn ?_|refine W.xt ?_|refine W.xb ?_|refine W.xo ?_|refine W.tr ?_|refine W.br ?_)|refine W.rt1 rfl ?_|refine W.rt2 rfl ?_ ?_|refine W.rt3 rfl ?_ ?_ ?_)|clear hK K|clear hu|exact True.intro|exact Nat.le_trans (by clear hp;omega) hp|exact Nat.le_trans (by clear hp;omega) hp.1|exact Nat.le_trans (by clear hp;omega) hp.2|(clear hp;omega)|apply And.intro|refine GI.i fun _=>?_|with_reducible rfl|decide|(simp only [List.length_cons,List.length_nil];omega))
instance {n m : Nat} {x y : Rat} {τ1 : MT} [j1 : NQ τ1 (QV n x)] {τ2 : MT} [j2 : NQ τ2 (QV m y)] : Con Tryz.prog 48 [τ1,τ2] (n + m + 2 ≤ BIG) (PTS [(none,NM (n + 2) (shoF [x])),(none,NM (m + 2) (shoF [y]))]):=.o2 fun hok h1 h2 hp=>w48.c2 hok (j1.h h1) (j2.h h2) hp
theorem w50 {r n m : Nat} {rs : List (List Rat)} {p q : List Rat × List Rat} : Con Tryz.prog 50 [TWR r rs,PX n p,PX m q] (TOK rs ∧ PWp rs.length p ∧ PWp rs.length q ∧ 1 ≤ r ∧ 1 ≤ n ∧ 1 ≤ m ∧ sB rs.length (r + r) r ≤ BIG ∧ 2 * tB rs.length (m + n + 1 + (m + n + 1)) r + 1 ≤ BIG) (MT.tup2 (NM (2 * tB rs.length (m + n + 1 + (m + n + 1)) r + 1) (dotF rs (lesF q p) (lesF q p))) (.ex (errV 67 (0)))):=.o3 fun hok h1 h2 h3 hp=>by
  refine St.enter (N:=34) Tryz.func50 rfl rfl rfl hok (enter3 h1 h2 h3) fun a=>?_
  have hx:=PWp.les hp.1 hp.2.2.1 hp.2.1
  have ht0:=tB_le (r:=r) (k:=rs.length) (n:=m + n + 1 + (m + n + 1))
  repeat' (first|refine W.fp 21 (PTS [(some 1,TWR r rs),(none,.ex (errV 67 (0)))]) (fun h=>pts2 (fun h=>h) (fun h=>h) h) (fun G=>?_)|((with_reducible refine gS_ ?_);first|((with_reducible refine gL_ ?_);first|refine W.run ?_ fun a w G=>?_|refine W.mv fun a w G=>?_|refine W.asg fun a w G=>?_|refine W.bx fun b a w G=>?_|(refine W.nn hK ?_;clear hK K)|refine W.nl ?_|refine W.al fun b a w G=>?_|refine W.st fun w=>?_|refine W.stp fun w=>?_|refine W.ste ?_ fun w=>?_)|((with_reducible refine gC_ ?_);first|refine W.reg fun K hK=>?_|refine W.reg1 ?_|refine W.sq fun K hK=>?_|refine W.ds ?_ (fun β a w G hu=>W.fin ?_ hu) mixedOrders (by kernel_rfl)|refine W.sk ?_|refine W.cd (fun hc=>?_) (fun hc=>?_)|refine W.cb (fun hc=>?_) (fun hc=>?_)|refine W.bl ?_|refine W.ex ?_|refine W.rt ?_)|((with_reducible refine W.kn hK ?_);clear hK K)|(with_reducible first|refine W.bn ?_|refine W.xt ?_|refine W.xb ?_|refine W.xo ?_|refine W.tr ?_|refine W.br ?_)|refine W.rt1 rfl ?_|refine W.rt2 rfl ?_ ?_|refine W.rt3 rfl ?_ ?_ ?_)|clear hK K|clear hu|exact True.intro|exact Nat.le_trans (by clear hp;omega) hp|exact Nat.le_trans (by clear hp;omega) hp.1|exact Nat.le_trans (by clear hp;omega) hp.2|(clear hp;omega)|apply And.intro|refine GI.i fun _=>?_|with_reducible rfl|decide|(simp only [List.length_cons,List.length_nil];omega))
  all_goals first
    | omega
    | exact hp.1
    | exact hp.2.1
    | exact hp.2.2.1
    | exact hx
    | exact hp.2.1
    | exact hp.2.2.1
    | exact hp.2.1.a
    | exact hp.2.1.b
    | exact hp.2.2.1.a
    | exact hp.2.2.1.b
    | (intro z hz;simp only [List.mem_cons,List.not_mem_nil,or_false] at hz;rcases hz with hz | hz | hz <;> subst hz <;> first | exact hp.2.1 | exact hp.2.2.1 | exact hp.2.2.2.1)
    | (intro z hz;simp only [List.mem_cons,List.not_mem_nil,or_false] at hz;rcases hz with hz | hz <;> subst hz <;> first | exact hp.2.1 | exact hp.2.2.1)
    | (simp;done)
    | rfl
    | skip
instance {r n m : Nat} {rs : List (List Rat)} {p q : List Rat × List Rat} {τ1 : MT} [j1 : NU τ1 (TWR r rs)] {τ2 : MT} [j2 : NU τ2 (PX n p)] {τ3 : MT} [j3 : NU τ3 (PX m q)] : Con Tryz.prog 50 [τ1,τ2,τ3] (TOK rs ∧ PWp rs.length p ∧ PWp rs.length q ∧ 1 ≤ r ∧ 1 ≤ n ∧ 1 ≤ m ∧ sB rs.length (r + r) r ≤ BIG ∧ 2 * tB rs.length (m + n + 1 + (m + n + 1)) r + 1 ≤ BIG) (MT.tup2 (NM (2 * tB rs.length (m + n + 1 + (m + n + 1)) r + 1) (dotF rs (lesF q p) (lesF q p))) (.ex (errV 67 (0)))):=.o3 fun hok h1 h2 h3 hp=>w50.c3 hok (j1.h h1) (j2.h h2) (j3.h h3) hp
theorem w51 {r n m o : Nat} {rs : List (List Rat)} {p q s : List Rat × List Rat} : Con Tryz.prog 51 [TWR r rs,PX n p,PX m q,PX o s] (TOK rs ∧ PWp rs.length p ∧ PWp rs.length q ∧ PWp rs.length s ∧ 1 ≤ r ∧ 1 ≤ n ∧ 1 ≤ m ∧ 1 ≤ o ∧ sB rs.length (r + r) r ≤ BIG ∧ sB rs.length (2 * tB rs.length (m + n + 1 + (o + n + 1)) r + 1 + r) r ≤ BIG) (MT.tup2 (IT (sgL rs (croF rs (lesF q p) (lesF s p)))) (.ex (errV 67 (0)))):=.o4 fun hok h1 h2 h3 h4 hp=>by
  refine St.enter (N:=44) Tryz.func51 rfl rfl rfl hok (enter4 h1 h2 h3 h4) fun a=>?_
  have hx:=PWp.les hp.1 hp.2.2.1 hp.2.1
  have hy:=PWp.les hp.1 hp.2.2.2.1 hp.2.1
  have hz0:=(PWp.cro hp.1 hx hy).2.2
  have hb0:=sB_le (r:=r) (k:=rs.length) (n:=2 * tB rs.length (m + n + 1 + (o + n + 1)) r + 1 + r)
  have ht0:=tB_le (r:=r) (k:=rs.length) (n:=m + n + 1 + (o + n + 1))
  repeat' (first|refine W.fp 25 (PTS [(some 1,TWR r rs),(none,.ex (errV 67 (0)))]) (fun h=>pts2 (fun h=>h) (fun h=>h) h) (fun G=>?_)|((with_reducible refine gS_ ?_);first|((with_reducible refine gL_ ?_);first|refine W.run ?_ fun a w G=>?_|refine W.mv fun a w G=>?_|refine W.asg fun a w G=>?_|refine W.bx fun b a w G=>?_|(refine W.nn hK ?_;clear hK K)|refine W.nl ?_|refine W.al fun b a w G=>?_|refine W.st fun w=>?_|refine W.stp fun w=>?_|refine W.ste ?_ fun w=>?_)|((with_reducible refine gC_ ?_);first|refine W.reg fun K hK=>?_|refine W.reg1 ?_|refine W.sq fun K hK=>?_|refine W.ds ?_ (fun β a w G hu=>W.fin ?_ hu) mixedOrders (by kernel_rfl)|refine W.sk ?_|refine W.cd (fun hc=>?_) (fun hc=>?_)|refine W.cb (fun hc=>?_) (fun hc=>?_)|refine W.bl ?_|refine W.ex ?_|refine W.rt ?_)|((with_reducible refine W.kn hK ?_);clear hK K)|(with_reducible first|refine W.bn ?_|refine W.xt ?_|refine W.xb ?_|refine W.xo ?_|refine W.tr ?_|refine W.br ?_)|refine W.rt1 rfl ?_|refine W.rt2 rfl ?_ ?_|refine W.rt3 rfl ?_ ?_ ?_)|clear hK K|clear hu|exact True.intro|exact Nat.le_trans (by clear hp;omega) hp|exact Nat.le_trans (by clear hp;omega) hp.1|exact Nat.le_trans (by clear hp;omega) hp.2|(clear hp;omega)|apply And.intro|refine GI.i fun _=>?_|with_reducible rfl|decide|(simp only [List.length_cons,List.length_nil];omega))
  all_goals first
    | omega
    | exact hp.1
    | exact hp.2.1
    | exact hp.2.2.1
    | exact hx
    | exact hy
    | exact hz0
    | exact hp.2.2.2.1
    | exact hp.2.1
    | exact hp.2.2.1
    | exact hp.2.1.a
    | exact hp.2.1.b
    | exact hp.2.2.1.a
    | exact hp.2.2.1.b
    | (intro z hz;simp only [List.mem_cons,List.not_mem_nil,or_false] at hz;rcases hz with hz | hz | hz <;> subst hz <;> first | exact hp.2.1 | exact hp.2.2.1 | exact hp.2.2.2.1)
    | (intro z hz;simp only [List.mem_cons,List.not_mem_nil,or_false] at hz;rcases hz with hz | hz <;> subst hz <;> first | exact hp.2.1 | exact hp.2.2.1)
    | (simp;done)
    | rfl
    | skip
instance {r n m o : Nat} {rs : List (List Rat)} {p q s : List Rat × List Rat} {τ1 : MT} [j1 : NU τ1 (TWR r rs)] {τ2 : MT} [j2 : NU τ2 (PX n p)] {τ3 : MT} [j3 : NU τ3 (PX m q)] {τ4 : MT} [j4 : NU τ4 (PX o s)] : Con Tryz.prog 51 [τ1,τ2,τ3,τ4] (TOK rs ∧ PWp rs.length p ∧ PWp rs.length q ∧ PWp rs.length s ∧ 1 ≤ r ∧ 1 ≤ n ∧ 1 ≤ m ∧ 1 ≤ o ∧ sB rs.length (r + r) r ≤ BIG ∧ sB rs.length (2 * tB rs.length (m + n + 1 + (o + n + 1)) r + 1 + r) r ≤ BIG) (MT.tup2 (IT (sgL rs (croF rs (lesF q p) (lesF s p)))) (.ex (errV 67 (0)))):=.o4 fun hok h1 h2 h3 h4 hp=>w51.c4 hok (j1.h h1) (j2.h h2) (j3.h h3) (j4.h h4) hp
end Go.Proofs.YtnjbcjmkkejfpaaGreatDoor
set_option linter.unusedVariables false
set_option linter.unusedSimpArgs false
set_option maxHeartbeats 4000000
set_option maxRecDepth 100000
set_option synthInstance.maxSize 100000
set_option synthInstance.maxHeartbeats 400000
namespace Go.Proofs.YtnjbcjmkkejfpaaGreatDoor
open Go.RowKit (Below)
attribute [local irreducible] Go.Code.wp Go.wpList Go.bodyPost
def limN (y u : Rat) : List Rat:=[0,y,0,u]
def limA (g a b c : FR) : Rat:=(g.val + a.val - (b.val + c.val)) / (2 * (a.val * g.val))
def limI (g a b c : FR) (u : Rat) : Bool:=decide (surdsF (-1) (limA g a b c) (a.val * g.val) u (a.val * g.val * (b.val * c.val)) ≤ 0) && decide (surdsF 1 (limA g a b c) (a.val * g.val) u (a.val * g.val * (b.val * c.val)) ≥ 0)
def limK (g a : FR) : List Rat:=[-(1 / (a.val * g.val)),1 / (a.val * g.val)]
def limJ (g a b c : FR) (j : Nat) : List (List Rat):=(((limK g a).take j).filter fun u=>limI g a b c u).map fun u=>limN (limA g a b c) u
def limL (g a b c : FR) : List (List Rat):=if chkF [g,a,b,c] = 0 then limJ g a b c 2 else []
theorem LSC.nm {b c : Nat} {l : List Rat} {v : Value} {G : Gh} (h : (LSC none [NM b l]).t v G) (e : b ≤ c) : (LSC none [NM c l]).t v G:=⟨LS.els h.1 rfl fun i τ σ h1 h2 _ hv=>by
  match i,h1,h2 with
  | 0,h1,h2=>cases h1;cases h2;exact NM.up hv e,h.2⟩
instance AsT.nm {b : Nat} {l : List Rat} : AsT (NM b l) (NM b) l:=⟨fun h=>h⟩
attribute [local irreducible] plusF minusF joinF levI lev PW RLN tB sB timesF stepF tmF normF TOK sgL surdsF chkF nearF farF gapC fullF
attribute [local irreducible] limJ limL limI
end Go.Proofs.YtnjbcjmkkejfpaaGreatDoor
namespace Go.Proofs.YtnjbcjmkkejfpaaGreatDoor
end Go.Proofs.YtnjbcjmkkejfpaaGreatDoor
namespace Go.Proofs.YtnjbcjmkkejfpaaGreatDoor
open Go.RowKit (Below)
attribute [local irreducible] rotQ compareF befR
end Go.Proofs.YtnjbcjmkkejfpaaGreatDoor
namespace Go.Proofs.YtnjbcjmkkejfpaaGreatDoor
open Go.RowKit (Below)
end Go.Proofs.YtnjbcjmkkejfpaaGreatDoor
namespace Go.Proofs.YtnjbcjmkkejfpaaGreatDoor
open Go.RowKit (Below)
def invQ (l : List FR) (k : Int) : List FR:=[invF l k 0,invF l k 1,invF l k 2,invF l k 3]
theorem inv_pos {l : List FR} {k : Int} (h : chkF l = 0) (hl : l.length = 4) : (invQ l k).all posR = true:=by
  have hp:=chk_pos h
  have : ∀ j,posR (invF l k j) = true:=fun j=>by
    unfold invF;rw [if_pos h,posR_of4]
    have hlt : (j + md4 k) % 4 < l.length:=by rw [hl];exact Nat.mod_lt _ (by decide)
    refine decide_eq_true (posR_val (List.all_eq_true.1 hp _ ?_))
    rw [List.getD_eq_getElem?_getD,List.getElem?_eq_getElem hlt];exact List.getElem_mem hlt
  unfold invQ;simp [this]
end Go.Proofs.YtnjbcjmkkejfpaaGreatDoor
namespace Go.Proofs.YtnjbcjmkkejfpaaGreatDoor
end Go.Proofs.YtnjbcjmkkejfpaaGreatDoor
set_option linter.unusedVariables false
set_option linter.unusedSimpArgs false
namespace Go.Proofs.YtnjbcjmkkejfpaaGreatDoor
section
variable {g a b c : Rat}
end
theorem rt_pos {x : Rat} (h : 0 < x) : 0 < rt x:=by
  refine RR.lt_of_ne (rt_nn x) fun e=>?_
  have h2:=rt_sq (Rat.le_of_lt h)
  rw [← e,RR.mul_zero] at h2
  have:=RR.of_inj (p:=0) |>.1 h2
  grind
end Go.Proofs.YtnjbcjmkkejfpaaGreatDoor
