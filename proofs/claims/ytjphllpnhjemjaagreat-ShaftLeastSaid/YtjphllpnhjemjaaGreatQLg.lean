import Derived.Laws.CopyRow
import Derived.Test.YtjphllpnhjemjaaGreatQLf
set_option linter.unusedVariables false
set_option linter.unusedSimpArgs false
set_option linter.unusedVariables false
set_option linter.unusedSimpArgs false
set_option maxHeartbeats 4000000
set_option maxRecDepth 100000
set_option synthInstance.maxSize 100000
set_option synthInstance.maxHeartbeats 400000
namespace Go.Proofs.YtjphllpnhjemjaaGreat
open Go.RowKit (Below)
attribute [local irreducible] Go.Code.wp Go.wpList Go.bodyPost
private theorem gS_ {W0 : World} {G0 : Gh} {N : Nat} {L : List (Nat × MT)} {B : List BX} {a : Act} {w : World} {G : Gh} {q : Prop} (h : St W0 G0 N L B a w G → q) : St W0 G0 N L B a w G → q:=h
private theorem gL_ {p : Prop} {P : Program} {arr : Array Oper} {Q : Exit → Act → World → Prop} {l : List Oper} {a : Act} {w : World} (h : p → wpList P arr Q l a w) : p → wpList P arr Q l a w:=h
private theorem gC_ {p : Prop} {P : Program} {c : Code} {Q : Exit → Act → World → Prop} {a : Act} {w : World} (h : p → c.wp P Q a w) : p → c.wp P Q a w:=h
private theorem mixedOrders : Tryz.prog.follows .mixedOrders = true:=by kernel_rfl
def cyT (l : List WT) (b : List Int) (n ev k : Nat) : List Int:=(List.range k).map fun q=>b.getD (bknF l b (e0F l b n ev) q) default
section
variable {l : List WT} {b : List Int} {n ev k : Nat}
theorem cyT_0 : cyT l b n ev 0 = []:=rfl
theorem cyT_go : cyT l b n ev k ++ [b.getD (bknF l b (e0F l b n ev) k) default] = cyT l b n ev (k + 1):=by unfold cyT;rw [List.range_succ,List.map_append];rfl
theorem cyT_len : (cyT l b n ev k).length = k:=by unfold cyT;rw [List.length_map,List.length_range]
theorem cyT_end (h : cokF l b n ev = true) : (cyT l b n ev (prF l b n ev)).reverse = cyF l b n ev:=(if_pos h).symm
theorem cy_k {K P L A E : Nat} (hk : K ≤ P) (hP : 1 ≤ P) (hL : L = K) (hat : K = P → A = E) (hc : (decide ((L : Int) = 0) || decide ((A : Int) ≠ (E : Int))) = true) : K < P:=by
  rcases Nat.lt_or_eq_of_le hk with e | e
  · exact e
  · have h1:=hat e
    simp only [Bool.or_eq_true,decide_eq_true_eq] at hc
    omega
theorem cy_e {f : Nat → Nat} {K P L E : Nat} (hk : K ≤ P) (hL : L = K) (hm : ∀ m,0 < m → m < P → f m ≠ E) (hc : (decide ((L : Int) = 0) || decide ((f K : Int) ≠ (E : Int))) = false) : K = P:=by
  simp only [Bool.or_eq_false_iff,decide_eq_false_iff_not] at hc
  rcases Nat.lt_or_eq_of_le hk with e | e
  · exact absurd (show f K = E by omega) (hm K (by omega) e)
  · exact e
theorem cy_ne (h : cokF l b n ev = true) (h1 : 1 ≤ prF l b n ev) : cyF l b n ev ≠ []:=fun e=>by
  rw [← cyT_end h,List.reverse_eq_nil_iff] at e
  have:=cyT_len (l:=l) (b:=b) (n:=n) (ev:=ev) (k:=prF l b n ev)
  rw [e] at this
  have h0 : 0 = prF l b n ev:=this
  omega
theorem cy_n (hk : k ≤ n) (h : b.getD (bknF l b ev k) default < 0) : cyF l b n ev = []:=by
  unfold cyF;rw [if_neg]
  intro hc
  have:=cok_iff.1 hc k hk
  omega
theorem cok_y (h : ∀ k,k < n → 0 ≤ b.getD (bknF l b ev k) default) (h2 : ¬ b.getD (bknF l b ev n) default < 0) : cokF l b n ev = true:=cok_iff.2 fun k hk=>by
  rcases Nat.lt_or_eq_of_le hk with e | e
  · exact h k e
  · subst e;omega
theorem ca_in {p : Rat} {s : List Rat} {tm : Nat → Nat} {T v : Nat} (h : Inv n l p s b tm T) (hv : v < n) (h0 : 0 ≤ b.getD v default) : b.getD v default < l.length:=by
  rcases h.ca v hv with hc | ⟨i,h1,h2,_⟩
  · rw [hc.1] at h0;exact absurd h0 (by decide)
  · rw [h1];omega
theorem bk_nx (hl : OKL n l) (h0 : 0 ≤ b.getD (bknF l b ev k) default) (h1 : b.getD (bknF l b ev k) default < l.length) : (l.getD (b.getD (bknF l b ev k) default).toNat default).1 = ((bknF l b ev (k + 1) : Nat) : Int):=by
  show _ = ((wFr (l.getD (b.getD (bknF l b ev k) default).toNat default) : Nat) : Int)
  have:=hl (b.getD (bknF l b ev k) default).toNat (by omega)
  unfold okW at this
  unfold wFr
  omega
end
instance {ev : Nat} {l : List WT} {b : List Int} [rv : RevC Tryz.prog 84] : Con Tryz.prog 59 [WTS l,ITS b,NT ev] (OKL b.length l ∧ ev < b.length ∧ b.length ≤ 16 ∧ (∃ p s tm T,Inv b.length l p s b tm T)) (LSN none ((cyF l b b.length ev).map fun z=>IT z)):=.o3 fun hok h1 h2 h3 hp=>by
  refine St.enter (N:=59) Tryz.func59 rfl rfl rfl hok (enter3 h1 h2 h3) fun a=>?_
  obtain ⟨p,s,tm,T,hI⟩:=hp.2.2.2
  have hlt:=bkn_lt hp.1 hI hp.2.1
  have hlim:=LS.lenM h1
  simp only [LIM] at hlim
  have own55 : OwnAt 55:=⟨⟩
  repeat' (first|((with_reducible refine gS_ ?_);first|((with_reducible refine gL_ ?_);first|refine W.run ?_ fun a w G=>?_|refine W.mv fun a w G=>?_|refine W.asg fun a w G=>?_|refine W.bx fun b a w G=>?_|(refine W.nn hK ?_;clear hK K)|refine W.nl ?_|refine W.al fun b a w G=>?_|refine W.st fun w=>?_|refine W.stp fun w=>?_|refine W.ste ?_ fun w=>?_)|((with_reducible refine gC_ ?_);first|refine W.reg fun K hK=>?_|refine W.reg1 ?_|refine W.sq fun K hK=>?_|refine W.ds ?_ (fun β a w G hu=>W.fin ?_ hu) mixedOrders (by kernel_rfl)|refine W.sk ?_|refine W.cd (fun hc=>?_) (fun hc=>?_)|refine W.cb (fun hc=>?_) (fun hc=>?_)|refine W.bl ?_|refine W.ex ?_|refine W.rt ?_)|((with_reducible refine W.kn hK ?_);clear hK K)|(with_reducible first|refine W.bn ?_|refine W.xt ?_|refine W.xb ?_|refine W.xo ?_|refine W.tr ?_|refine W.br ?_)|refine W.rt1 rfl ?_|refine W.rt2 rfl ?_ ?_|refine W.rt3 rfl ?_ ?_ ?_)|refine W.lpo 33 (OWNS.nil (k:=none) (e:=3)) (T:=fun z : Int=>IT z) (xs0:=[]) (fun k=>prF l b b.length ev - k) (fun k=>k ≤ prF l b b.length ev) (fun k=>cyT l b b.length ev k) [7,8,33,34,35,36,37,38,39,40,41,42,43,44,45,46,47,48,49,50,51,52,53,54,55] (fun k V=>[(8,NT (bknF l b (e0F l b b.length ev) k)),(7,.ex V)]) (fun k=>[]) 0 ?_ ?_ ?_ ?_ fun k hk V own a w G hO=>?_|refine W.oln hO fun a w G=>?_|refine W.ap (mt:=.ex (.int .i64 0)) (T:=fun z : Int=>IT z) hO ?_ fun V own a w G hO=>?_|refine W.ago (K:=fun _ _=>True) (T:=fun z : Int=>IT z) hO (x:=k) (k+1) ?_ ?_ ?_ ?_ ?_|refine W.rev hO ?_ fun own a w G hO=>?_|refine W.fzo (T:=fun z : Int=>IT z) 6 hO ?_ fun G=>?_|refine W.lp 12 (α:=Nat) (fun j=>b.length - j) (fun j=>j ≤ b.length ∧ ∀ k,k < j → 0 ≤ b.getD (bknF l b ev k) default) [2,6,11,12,13,14,15,16,17,18,19,20,21,22,23,24,25,26] (fun j=>[(11,NT j),(2,NT (bknF l b ev j))]) (fun j=>[]) (0) ?_ ?_ ?_ fun j hj a w G=>?_|refine W.ag (x:=j) (j+1) ?_ ?_ ?_ ?_|clear hK K|clear hu|exact True.intro|exact Nat.le_trans (by clear hp;omega) hp|exact Nat.le_trans (by clear hp;omega) hp.1|exact Nat.le_trans (by clear hp;omega) hp.2|(clear hp;omega)|apply And.intro|refine GI.i fun _=>?_|with_reducible rfl|decide|(simp only [List.length_cons,List.length_nil];omega))
  all_goals (try have hb1 : bknF l b ev j < b.length:=hlt j hj.2)
  all_goals (try have ej : j = b.length:=by omega)
  all_goals (try have h9 : ¬ b.getD (bknF l b ev j) default < 0:=by assumption)
  all_goals (try have hin:=ca_in hI hb1 (by omega))
  all_goals (try have hck : cokF l b b.length ev = true:=cok_y (fun k hk=>hj.2 k (by omega)) (by rw [ej] at h9;exact h9))
  all_goals (try have hcl:=cy_loop hp.1 hI hp.2.1 hck)
  all_goals (try have e0 : bknF l b ev j = e0F l b b.length ev:=by rw [ej];rfl)
  all_goals (try have hcL:=cyT_len (l:=l) (b:=b) (n:=b.length) (ev:=ev) (k:=k))
  all_goals (try have hng : b.getD (bknF l b ev j) default < 0 → j ≤ b.length → cyF l b b.length ev = []:=fun h h'=>cy_n (k:=j) h' h)
  all_goals (try simp only [e0,List.length_map] at *)
  all_goals (try have hkp : k < prF l b b.length ev:=cy_k (K:=k) (P:=prF l b b.length ev) (L:=(cyT l b b.length ev k).length) (A:=bknF l b (e0F l b b.length ev) k) (E:=e0F l b b.length ev) hk hcl.2.1 hcL (fun e=>by rw [e];exact hcl.2.2.2.1) (by assumption))
  all_goals (try have hkP:=cy_e (f:=fun m=>bknF l b (e0F l b b.length ev) m) hk hcL hcl.2.2.2.2.1 (by assumption))
  all_goals (try have hq:=hcl.2.2.2.2.2 k hk)
  all_goals (try have hq3:=ca_in hI hq.2 hq.1)
  all_goals first
    | omega
    | rfl
    | exact hq.2
    | exact hq3
    | exact bk_nx hp.1 hq.1 hq3
    | (rw [hkP];exact cyT_end hck)
    | exact cy_ne hck hcl.2.1
    | (simp only [LIM,List.length_cons,List.length_nil,List.length_reverse];omega)
    | exact hb1
    | exact hin
    | exact hng (by assumption) (by omega)
    | exact (hng (by assumption) (by omega)).symm
    | exact hng (by rw [e0];assumption) (by omega)
    | exact (hng (by rw [e0];assumption) (by omega)).symm
    | (intro k hk
       rcases Nat.lt_or_eq_of_le (Nat.le_of_lt_succ hk) with e | e
       · exact hj.2 k e
       · subst e;omega)
    | exact bk_nx hp.1 (by omega) hin
    | exact cyT_0.symm
    | exact cyT_go
    | exact cyT_go.symm
    | skip
end Go.Proofs.YtjphllpnhjemjaaGreat
set_option linter.unusedVariables false
set_option linter.unusedSimpArgs false
namespace Go.Proofs.YtjphllpnhjemjaaGreat
open Go.RowKit (Below)
inductive WK where
  | g (τ : MT)
  | o0
  | o1
  | o2 (τ : MT)
def WK.ty : WK → Option MT
  | .g τ=>some τ
  | .o2 τ=>some τ
  | _=>none
structure PcW where
  d : Nat
  k : WK
  dep : List Nat
def faW (PL : List PcW) (l : Array Bool) : List (Nat × MT):=(List.range PL.length).filterMap fun i=>(PL[i]?).bind fun p=>if l.getD i false then p.k.ty.map fun τ=>(p.d,τ) else none
def depW (PL : List PcW) (l : List Nat) : List (Nat × MT):=l.filterMap fun i=>(PL[i]?).bind fun p=>p.k.ty.map fun τ=>(p.d,τ)
theorem faW_mem {PL : List PcW} {l : Array Bool} {p : Nat × MT} : p ∈ faW PL l ↔ ∃ (i : Nat) (q : PcW) (τ : MT),PL[i]? = some q ∧ l.getD i false = true ∧ q.k.ty = some τ ∧ p = (q.d,τ):=by
  unfold faW
  rw [List.mem_filterMap]
  constructor
  · rintro ⟨i,hi,h⟩
    cases hq : PL[i]? with
    | none=>rw [hq] at h;cases h
    | some q =>
      rw [hq] at h
      simp only [Option.bind_some] at h
      split at h
      · rename_i hl
        cases ht : q.k.ty with
        | none=>rw [ht] at h;cases h
        | some τ=>rw [ht] at h;cases h;exact ⟨i,q,τ,hq,hl,ht,rfl⟩
      · cases h
  · rintro ⟨i,q,τ,hq,hl,ht,rfl⟩
    exact ⟨i,List.mem_range.2 (List.getElem?_eq_some_iff.1 hq).1,by rw [hq];simp only [Option.bind_some];rw [if_pos hl,ht];rfl⟩
theorem depW_mem {PL : List PcW} {l : List Nat} {p : Nat × MT} (h : p ∈ depW PL l) : ∃ (i : Nat) (q : PcW) (τ : MT),i ∈ l ∧ PL[i]? = some q ∧ q.k.ty = some τ ∧ p = (q.d,τ):=by
  unfold depW at h
  rw [List.mem_filterMap] at h
  obtain ⟨i,hi,h⟩:=h
  cases hq : PL[i]? with
  | none=>rw [hq] at h;cases h
  | some q =>
    rw [hq] at h
    simp only [Option.bind_some] at h
    cases ht : q.k.ty with
    | none=>rw [ht] at h;cases h
    | some τ=>rw [ht] at h;cases h;exact ⟨i,q,τ,hi,hq,ht,rfl⟩
section
variable {P : Program} {W0 : World} {G0 : Gh} {N : Nat} {L : List (Nat × MT)} {B : List BX}
def StgW (O0 O1 : Value → List BX → Prop) (d0 d1 i0 i1 i2 : Nat) (l : Array Bool) (own : List BX) (fs : List (Nat × MT)) : Prop :=
  (l.getD i0 false = false ∧ l.getD i1 false = false ∧ l.getD i2 false = false ∧ own = [] ∧ fs = []) ∨
  (l.getD i0 false = true ∧ l.getD i1 false = false ∧ l.getD i2 false = false ∧ ∃ V,O0 V own ∧ fs = [(d0,.ex V)]) ∨
  (l.getD i0 false = true ∧ l.getD i1 false = true ∧ l.getD i2 false = false ∧ ∃ V,O1 V own ∧ fs = [(d1,.ex V)]) ∨
  (l.getD i0 false = true ∧ l.getD i1 false = true ∧ l.getD i2 false = true ∧ own = [] ∧ fs = [])
structure DW (P : Program) (W0 : World) (G0 : Gh) (N : Nat) (L : List (Nat × MT)) (B : List BX) (ops : Array Oper) (PL : List PcW) (O0 O1 : Value → List BX → Prop) (d0 d1 i0 i1 i2 : Nat) (l : Array Bool) (a : Act) (w : World) : Prop where
  lsz : l.size = ops.size
  cl : ∀ (j : Nat) (o : Oper),ops[j]? = some o → l.getD j false = true → ∀ e ∈ o.after,Region.binds .any e = true → l.getD e.on false = true
  st : ∃ G own fs,StgW O0 O1 d0 d1 i0 i1 i2 l own fs ∧ St W0 G0 N (faW PL l ++ (fs ++ L)) (B ++ own) a w G
variable {ops : Array Oper} {PL : List PcW} {O0 O1 : Value → List BX → Prop} {d0 d1 i0 i1 i2 : Nat} {l : Array Bool} {a : Act} {w : World} {Q : Exit → Act → World → Prop}
theorem DW.waited (I : DW P W0 G0 N L B ops PL O0 O1 d0 d1 i0 i1 i2 l a w) : ∀ (m : Nat) {j i : Nat} {o : Oper}, waits ops m j i = true → ops[j]? = some o →
    (∀ e ∈ o.after,Region.binds .any e = true → l.getD e.on false = true) → l.getD i false = true
  | 0,_,_,_,h,_,_=>by cases h
  | m + 1,j,i,o,h,ho,he=>by
    unfold waits at h
    rw [ho] at h
    simp only [Option.any_some,Array.any_eq_true,Bool.and_eq_true,Bool.or_eq_true,beq_iff_eq] at h
    obtain ⟨k,hk,hb,h⟩:=h
    have hl:=he _ (Array.getElem_mem hk) hb
    rcases h with h | h
    · rw [← h];exact hl
    · have hon : (o.after[k]).on < ops.size := by
        have : (o.after[k]).on < l.size:=by
          rcases Nat.lt_or_ge (o.after[k]).on l.size with h1 | h1
          · exact h1
          · simp [Array.getElem?_eq_none h1] at hl
        rw [I.lsz] at this;exact this
      have ho':=Array.getElem?_eq_getElem hon
      exact DW.waited I m h ho' (I.cl _ _ ho' hl)
theorem DW.past (I : DW P W0 G0 N L B ops PL O0 O1 d0 d1 i0 i1 i2 l a w) {j i : Nat} (h : waits ops ops.size j i = true) (hj : l.getD j false = true) : l.getD i false = true:=by
  have hlt : j < ops.size:=by
    rcases Nat.lt_or_ge j l.size with h1 | h1
    · rw [I.lsz] at h1;exact h1
    · simp [Array.getElem?_eq_none h1] at hj
  have ho:=Array.getElem?_eq_getElem hlt
  exact I.waited _ h ho (I.cl _ _ ho hj)
theorem DW.cl_set {i : Nat} (I : DW P W0 G0 N L B ops PL O0 O1 d0 d1 i0 i1 i2 l a w) (hi : i < ops.size) (hcl : ∀ (o : Oper), ops[i]? = some o → ∀ e ∈ o.after, Region.binds .any e = true → l.getD e.on false = true) :
    ∀ (j : Nat) (o : Oper),ops[j]? = some o → (l.setIfInBounds i true).getD j false = true → ∀ e ∈ o.after,Region.binds .any e = true → (l.setIfInBounds i true).getD e.on false = true:=fun j o ho hl e he hb=>by
  have hl' : l.getD e.on false = true:=by
    by_cases e1 : j = i
    · subst e1;exact hcl o ho e he hb
    · rw [getD_set e1] at hl;exact I.cl j o ho hl e he hb
  by_cases e2 : e.on = i
  · rw [e2];have : i < l.size:=by rw [I.lsz];exact hi
    simp [this]
  · rw [getD_set e2];exact hl'
theorem faW_set {i : Nat} {q : PcW} {τ : MT} (hq : PL[i]? = some q) (ht : q.k.ty = some τ) (hi : i < l.size) {p : Nat × MT} (h : p ∈ faW PL (l.setIfInBounds i true)) : p = (q.d,τ) ∨ p ∈ faW PL l:=by
  obtain ⟨j,q',τ',h1,h2,h3,rfl⟩:=faW_mem.1 h
  by_cases e : j = i
  · subst e;rw [hq] at h1;cases h1;rw [ht] at h3;cases h3;exact .inl rfl
  · rw [getD_set e] at h2;exact .inr (faW_mem.2 ⟨j,q',τ',h1,h2,h3,rfl⟩)
theorem faW_none {i : Nat} {q : PcW} (hq : PL[i]? = some q) (ht : q.k.ty = none) {p : Nat × MT} (h : p ∈ faW PL (l.setIfInBounds i true)) : p ∈ faW PL l:=by
  obtain ⟨j,q',τ',h1,h2,h3,rfl⟩:=faW_mem.1 h
  by_cases e : j = i
  · subst e;rw [hq] at h1;cases h1;rw [ht] at h3;cases h3
  · rw [getD_set e] at h2;exact faW_mem.2 ⟨j,q',τ',h1,h2,h3,rfl⟩
theorem set_at {i : Nat} (hi : i < l.size) : (l.setIfInBounds i true).getD i false = true:=by simp [hi]
end
section
variable {P : Program} {W0 : World} {G0 : Gh} {N : Nat} {L : List (Nat × MT)} {B Bh own : List BX} {a : Act} {w : World} {G : Gh} {o : Oper} {Q : Exit → Act → World → Prop} {k : Option Nat} {e : TypeId} {v : Value} {τs σs : List MT}
end
class ShZ (k : Option Nat) (z : Value) : Prop where
  s : Shaped k z
instance ShZ.q : ShZ (some 3) (.agg #[.bool false,.slice none 0 0,.slice none 0 0]):=⟨ZV.q.s⟩
instance ShZ.sl : ShZ none (.slice none 0 0):=⟨ZV.sl.s⟩
instance ShZ.n : ShZ none .nilIface:=⟨ZV.n.s⟩
instance ShZ.i {k : IntKind} : ShZ none (.int k 0):=⟨(ZV.i (k:=k)).s⟩
inductive WE where
  | g (d : Nat) (τ : MT) (u : List Nat)
  | o0 (d : Nat)
  | o1 (d : Nat) (u : List Nat)
  | o2 (d : Nat) (τ : MT) (u : List Nat)
def WE.sl : WE → Option (Nat × MT)
  | .g d τ _=>some (d,τ)
  | .o2 d τ _=>some (d,τ)
  | _=>none
def depE : Nat → List WE → List Nat → List Nat
  | _,[],_=>[]
  | i,e :: es,u=>if e.sl.any (fun p=>u.contains p.1) then i :: depE (i + 1) es u else depE (i + 1) es u
def pwW (all : List WE) : WE → PcW
  | .g d τ u=>⟨d,.g τ,depE 0 all u⟩
  | .o0 d=>⟨d,.o0,[]⟩
  | .o1 d u=>⟨d,.o1,depE 0 all u⟩
  | .o2 d τ u=>⟨d,.o2 τ,depE 0 all u⟩
theorem pwW_ty {all : List WE} {e : WE} {p : Nat × MT} (h : e.sl = some p) : (pwW all e).k.ty = some p.2 ∧ (pwW all e).d = p.1:=by
  cases e <;> simp [WE.sl] at h <;> subst h <;> exact ⟨rfl,rfl⟩
theorem depE_mem : ∀ {es : List WE} {o i d : Nat} {τ : MT} {e : WE} {u : List Nat},es[i]? = some e → e.sl = some (d,τ) → d ∈ u → o + i ∈ depE o es u
  | x :: es,o,0,d,τ,e,u,h,hs,hu=>by
    obtain rfl : x = e:=by simpa using h
    unfold depE
    rw [if_pos (by rw [hs];simpa using hu)]
    simp
  | x :: es,o,i + 1,d,τ,e,u,h,hs,hu=>by
    have ih : o + 1 + i ∈ depE (o + 1) es u:=depE_mem (es:=es) (by simpa using h) hs hu
    rw [show o + (i + 1) = o + 1 + i by omega]
    unfold depE
    split
    · exact List.mem_cons_of_mem _ ih
    · exact ih
  | [],_,_,_,_,_,_,h,_,_=>by simp at h
inductive RunWI (P : Program) (B : List BX) {α : Type} (T : α → MT) (k : Option Nat) (e : TypeId) (ys1 ys2 : List α) (d0 d1 : Nat) : List (Nat × MT) → List Oper → Prop → List WE → Prop
  | stop {L : List (Nat × MT)} : RunWI P B T k e ys1 ys2 d0 d1 L [] True []
  | g {L : List (Nat × MT)} {ops : List Oper} {d : Nat} {op : Op} {ty : TypeId} {pos : String} {aft : Array Edge} {pre pre' : Prop} {τ : MT} {u : List Nat} {es : List WE} :
      Op1 P L B op pre τ u → RunWI P B T k e ys1 ys2 d0 d1 ((d,τ) :: L) ops pre' es → RunWI P B T k e ys1 ys2 d0 d1 L (⟨some d,op,ty,pos,aft,none⟩ :: ops) (pre ∧ pre') (.g d τ u :: es)
  | o0 {L : List (Nat × MT)} {ops : List Oper} {t ty : TypeId} {pos : String} {aft : Array Edge} {pre : Prop} {es : List WE} {by0 : Nat} {z0 : Value} :
      ElS P t e k by0 z0 → RunWI P B T k e ys1 ys2 d0 d1 L ops pre es → RunWI P B T k e ys1 ys2 d0 d1 L (⟨some d0,.buildSlice t 0 #[],ty,pos,aft,none⟩ :: ops) pre (.o0 d0 :: es)
  | o1 {L : List (Nat × MT)} {ops : List Oper} {t ty : TypeId} {pos : String} {aft : Array Edge} {pre : Prop} {es : List WE} {by0 : Nat} {z0 : Value} {σ : MT} {y : Operand} {u : List Nat} :
      ElS P t e k by0 z0 → ShZ k z0 → Opd L y σ u → AsLT σ k T ys1 → RunWI P B T k e ys1 ys2 d0 d1 L ops pre es →
      RunWI P B T k e ys1 ys2 d0 d1 L (⟨some d1,.call { callee:=.builtin .append,args:=#[.tmp d0,y],argTypes:=#[t,t] },ty,pos,aft,none⟩ :: ops) ((ys1.length ≤ LIM ∧ ys1.length * by0 ≤ 140737488355328) ∧ pre) (.o1 d1 u :: es)
  | o2 {L : List (Nat × MT)} {ops : List Oper} {d : Nat} {t ty : TypeId} {pos : String} {aft : Array Edge} {pre : Prop} {es : List WE} {by0 : Nat} {z0 : Value} {σ : MT} {y : Operand} {u : List Nat} :
      ElS P t e k by0 z0 → ShZ k z0 → Opd L y σ u → AsLT σ k T ys2 → RunWI P B T k e ys1 ys2 d0 d1 ((d,LS k ((ys1 ++ ys2).map T)) :: L) ops pre es →
      RunWI P B T k e ys1 ys2 d0 d1 L (⟨some d,.call { callee:=.builtin .append,args:=#[.tmp d1,y],argTypes:=#[t,t] },ty,pos,aft,none⟩ :: ops) ((ys1.length + ys2.length ≤ LIM ∧ (ys1.length + ys2.length) * by0 ≤ 140737488355328) ∧ pre) (.o2 d (LS k ((ys1 ++ ys2).map T)) u :: es)
section
variable {P : Program} {B : List BX} {α : Type} {T : α → MT} {k : Option Nat} {e : TypeId} {ys1 ys2 : List α} {d0 d1 : Nat} {L L0 : List (Nat × MT)} {ops : List Oper} {pre : Prop} {es : List WE}
variable {W0 : World} {G0 : Gh} {N : Nat} {a : Act} {w : World} {G : Gh} {Q : Exit → Act → World → Prop}
def SemW (P : Program) (B : List BX) {α : Type} (T : α → MT) (k : Option Nat) (e : TypeId) (ys1 ys2 : List α) (d0 d1 : Nat) (L0 : List (Nat × MT)) (all : List WE) (o : Oper) : WE → Prop
  | .g d τ u=>∃ L' pre,(∀ p ∈ L',p ∈ L0 ∨ ∃ (m : Nat) (x : WE),all[m]? = some x ∧ x.sl = some p) ∧ o.dst = some d ∧ o.guard = none ∧ pre ∧ Op1 P L' B o.op pre τ u
  | .o0 d=>d = d0 ∧ o.dst = some d ∧ o.guard = none ∧ ∃ t by0 z0,o.op = .buildSlice t 0 #[] ∧ ElS P t e k by0 z0
  | .o1 d u=>d = d1 ∧ o.dst = some d ∧ o.guard = none ∧ ∃ L' t by0 z0 σ y,(∀ p ∈ L',p ∈ L0 ∨ ∃ (m : Nat) (x : WE),all[m]? = some x ∧ x.sl = some p) ∧ o.op = .call { callee:=.builtin .append,args:=#[.tmp d0,y],argTypes:=#[t,t] } ∧ ElS P t e k by0 z0 ∧ ShZ k z0 ∧ Opd L' y σ u ∧ AsLT σ k T ys1 ∧ ys1.length ≤ LIM ∧ ys1.length * by0 ≤ 140737488355328
  | .o2 d τ u=>τ = LS k ((ys1 ++ ys2).map T) ∧ o.dst = some d ∧ o.guard = none ∧ ∃ L' t by0 z0 σ y,(∀ p ∈ L',p ∈ L0 ∨ ∃ (m : Nat) (x : WE),all[m]? = some x ∧ x.sl = some p) ∧ o.op = .call { callee:=.builtin .append,args:=#[.tmp d1,y],argTypes:=#[t,t] } ∧ ElS P t e k by0 z0 ∧ ShZ k z0 ∧ Opd L' y σ u ∧ AsLT σ k T ys2 ∧ ys1.length + ys2.length ≤ LIM ∧ (ys1.length + ys2.length) * by0 ≤ 140737488355328
theorem RunWI.sem (R : RunWI P B T k e ys1 ys2 d0 d1 L ops pre es) : ∀ {e0 : List WE} {all : List WE},all = e0 ++ es → (∀ p ∈ L,p ∈ L0 ∨ ∃ (m : Nat) (x : WE),all[m]? = some x ∧ x.sl = some p) → pre → es.length = ops.length ∧ ∀ (j : Nat) (x : WE) (o : Oper),es[j]? = some x → ops[j]? = some o → SemW P B T k e ys1 ys2 d0 d1 L0 all o x:=by
  induction R with
  | stop=>intro e0 all _ _ _;exact ⟨rfl,fun j x o h=>by simp at h⟩
  | @g L ops d op ty pos aft pre pre' τ u es h _ ih =>
    intro e0 all ha hL hp
    have hx : all[e0.length]? = some (.g d τ u):=by rw [ha];simp
    obtain ⟨i1,i2⟩:=ih (e0:=e0 ++ [.g d τ u]) (all:=all) (by rw [ha];simp) (fun p hp=>by
      rcases List.mem_cons.1 hp with rfl | hp
      · exact .inr ⟨_,_,hx,rfl⟩
      · exact hL p hp) hp.2
    refine ⟨by simp [i1],fun j x o h1 h2=>?_⟩
    cases j with
    | zero=>cases h1;cases h2;exact ⟨L,pre,hL,rfl,rfl,hp.1,h⟩
    | succ j=>exact i2 j x o (by simpa using h1) (by simpa using h2)
  | @o0 L ops t ty pos aft pre es by0 z0 h _ ih =>
    intro e0 all ha hL hp
    obtain ⟨i1,i2⟩:=ih (e0:=e0 ++ [.o0 d0]) (all:=all) (by rw [ha];simp) hL hp
    refine ⟨by simp [i1],fun j x o h1 h2=>?_⟩
    cases j with
    | zero=>cases h1;cases h2;exact ⟨rfl,rfl,rfl,t,by0,z0,rfl,h⟩
    | succ j=>exact i2 j x o (by simpa using h1) (by simpa using h2)
  | @o1 L ops t ty pos aft pre es by0 z0 σ y u h hz hy hl _ ih =>
    intro e0 all ha hL hp
    obtain ⟨i1,i2⟩:=ih (e0:=e0 ++ [.o1 d1 u]) (all:=all) (by rw [ha];simp) hL hp.2
    refine ⟨by simp [i1],fun j x o h1 h2=>?_⟩
    cases j with
    | zero=>cases h1;cases h2;exact ⟨rfl,rfl,rfl,L,t,by0,z0,σ,y,hL,rfl,h,hz,hy,hl,hp.1.1,hp.1.2⟩
    | succ j=>exact i2 j x o (by simpa using h1) (by simpa using h2)
  | @o2 L ops d t ty pos aft pre es by0 z0 σ y u h hz hy hl _ ih =>
    intro e0 all ha hL hp
    have hx : all[e0.length]? = some (.o2 d (LS k ((ys1 ++ ys2).map T)) u):=by rw [ha];simp
    obtain ⟨i1,i2⟩:=ih (e0:=e0 ++ [.o2 d (LS k ((ys1 ++ ys2).map T)) u]) (all:=all) (by rw [ha];simp) (fun p hp=>by
      rcases List.mem_cons.1 hp with rfl | hp
      · exact .inr ⟨_,_,hx,rfl⟩
      · exact hL p hp) hp.2
    refine ⟨by simp [i1],fun j x o h1 h2=>?_⟩
    cases j with
    | zero=>cases h1;cases h2;exact ⟨rfl,rfl,rfl,L,t,by0,z0,σ,y,hL,rfl,h,hz,hy,hl,hp.1.1,hp.1.2⟩
    | succ j=>exact i2 j x o (by simpa using h1) (by simpa using h2)
theorem envW {all : List WE} {L' L1 : List (Nat × MT)} {u : List Nat} (hL : ∀ p ∈ L',p ∈ L0 ∨ ∃ (m : Nat) (x : WE),all[m]? = some x ∧ x.sl = some p) (h1 : ∀ p ∈ depW (all.map (pwW all)) (depE 0 all u) ++ L0,p ∈ L1) (S : St W0 G0 N L1 B a w G) : Env L' u a G:=fun t τ ht hm=>by
  rcases hL _ hm with h | ⟨m,x,hx,hs⟩
  · exact S.mem (h1 _ (List.mem_append_right _ h))
  · refine S.mem (h1 _ (List.mem_append_left _ ?_))
    have hd:=depE_mem (o:=0) hx hs ht
    rw [Nat.zero_add] at hd
    obtain ⟨g1,g2⟩:=pwW_ty (all:=all) hs
    refine List.mem_filterMap.2 ⟨m,hd,?_⟩
    rw [List.getElem?_map,hx]
    simp only [Option.map_some,Option.bind_some]
    rw [g1,g2];rfl
def fW : List WE → List (Nat × MT) → List (Nat × MT)
  | [],L=>L
  | .g d τ _ :: es,L=>fW es ((d,τ) :: L)
  | .o2 d τ _ :: es,L=>fW es ((d,τ) :: L)
  | .o0 _ :: es,L=>fW es L
  | .o1 _ _ :: es,L=>fW es L
theorem fW_mem : ∀ {es : List WE} {L : List (Nat × MT)} {p : Nat × MT},p ∈ fW es L → p ∈ L ∨ ∃ (j : Nat) (x : WE),es[j]? = some x ∧ x.sl = some p
  | [],L,p,h=>.inl h
  | x :: es,L,p,h=>by
    have key : ∀ L',p ∈ fW es L' → (∀ q ∈ L',q ∈ L ∨ x.sl = some q) → p ∈ L ∨ ∃ (j : Nat) (y : WE),(x :: es)[j]? = some y ∧ y.sl = some p:=fun L' h1 h2=>by
      rcases fW_mem h1 with h | ⟨j,y,h3,h4⟩
      · rcases h2 p h with h | h
        · exact .inl h
        · exact .inr ⟨0,x,rfl,h⟩
      · exact .inr ⟨j + 1,y,by simpa using h3,h4⟩
    cases x with
    | g d τ u=>exact key _ h fun q hq=>(List.mem_cons.1 hq).elim (fun e=>.inr (by rw [e];rfl)) .inl
    | o2 d τ u=>exact key _ h fun q hq=>(List.mem_cons.1 hq).elim (fun e=>.inr (by rw [e];rfl)) .inl
    | o0 d=>exact key _ h fun q hq=>.inl hq
    | o1 d u=>exact key _ h fun q hq=>.inl hq
class RW3 (P : Program) (B : List BX) (L : List (Nat × MT)) (ops : List Oper) (pre : outParam Prop) (es : outParam (List WE)) : Prop where
  r : ∀ {α : Type} (T : α → MT) (k : Option Nat) (e : TypeId) (ys1 ys2 : List α) (d0 d1 : Nat),RunWI P B T k e ys1 ys2 d0 d1 L ops pre es
class RW2 (P : Program) (B : List BX) {α : Type} (T : α → MT) (k : Option Nat) (e : TypeId) (ys1 : List α) (d1 : Nat) (L : List (Nat × MT)) (ops : List Oper) (pre : outParam Prop) (es : outParam (List WE)) (ys2 : outParam (List α)) : Prop where
  r : ∀ (d0 : Nat),RunWI P B T k e ys1 ys2 d0 d1 L ops pre es
class RW1 (P : Program) (B : List BX) {α : Type} (T : α → MT) (k : Option Nat) (e : TypeId) (d0 : Nat) (L : List (Nat × MT)) (ops : List Oper) (pre : outParam Prop) (es : outParam (List WE)) (ys1 ys2 : outParam (List α)) (d1 : outParam Nat) : Prop where
  r : RunWI P B T k e ys1 ys2 d0 d1 L ops pre es
class RW0 (P : Program) (B : List BX) {α : Type} (T : α → MT) (L : List (Nat × MT)) (ops : List Oper) (pre : outParam Prop) (es : outParam (List WE)) (k : outParam (Option Nat)) (e : outParam TypeId) (ys1 ys2 : outParam (List α)) (d0 d1 : outParam Nat) : Prop where
  r : RunWI P B T k e ys1 ys2 d0 d1 L ops pre es
section
variable {d by0 : Nat} {op : Op} {t ty : TypeId} {pos : String} {aft : Array Edge} {pre' : Prop} {τ σ : MT} {u : List Nat} {y : Operand} {z0 : Value}
instance RW3.stop : RW3 P B L [] True []:=⟨fun _ _ _ _ _ _ _=>.stop⟩
instance RW3.g [h : Op1 P L B op pre τ u] [r : RW3 P B ((d,τ) :: L) ops pre' es] : RW3 P B L (⟨some d,op,ty,pos,aft,none⟩ :: ops) (pre ∧ pre') (.g d τ u :: es):=⟨fun T k e ys1 ys2 d0 d1=>.g h (r.r T k e ys1 ys2 d0 d1)⟩
instance (priority:=500) RW2.g [h : Op1 P L B op pre τ u] [r : RW2 P B T k e ys1 d1 ((d,τ) :: L) ops pre' es ys2] : RW2 P B T k e ys1 d1 L (⟨some d,op,ty,pos,aft,none⟩ :: ops) (pre ∧ pre') (.g d τ u :: es) ys2:=⟨fun d0=>.g h (r.r d0)⟩
instance RW2.o [h : ElS P t e k by0 z0] [z : ShZ k z0] [hy : Opd L y σ u] [l : AsLT σ k T ys2] [r : RW3 P B ((d,LS k ((ys1 ++ ys2).map T)) :: L) ops pre es] : RW2 P B T k e ys1 d1 L (⟨some d,.call { callee:=.builtin .append,args:=#[.tmp d1,y],argTypes:=#[t,t] },ty,pos,aft,none⟩ :: ops) ((ys1.length + ys2.length ≤ LIM ∧ (ys1.length + ys2.length) * by0 ≤ 140737488355328) ∧ pre) (.o2 d (LS k ((ys1 ++ ys2).map T)) u :: es) ys2:=⟨fun d0=>.o2 h z hy l (r.r T k e ys1 ys2 d0 d1)⟩
instance (priority:=500) RW1.g [h : Op1 P L B op pre τ u] [r : RW1 P B T k e d0 ((d,τ) :: L) ops pre' es ys1 ys2 d1] : RW1 P B T k e d0 L (⟨some d,op,ty,pos,aft,none⟩ :: ops) (pre ∧ pre') (.g d τ u :: es) ys1 ys2 d1:=⟨.g h r.r⟩
instance RW1.o [h : ElS P t e k by0 z0] [z : ShZ k z0] [hy : Opd L y σ u] [l : AsLT σ k T ys1] [r : RW2 P B T k e ys1 d L ops pre es ys2] : RW1 P B T k e d0 L (⟨some d,.call { callee:=.builtin .append,args:=#[.tmp d0,y],argTypes:=#[t,t] },ty,pos,aft,none⟩ :: ops) ((ys1.length ≤ LIM ∧ ys1.length * by0 ≤ 140737488355328) ∧ pre) (.o1 d u :: es) ys1 ys2 d:=⟨.o1 h z hy l (r.r d0)⟩
instance (priority:=500) RW0.g [h : Op1 P L B op pre τ u] [r : RW0 P B T ((d,τ) :: L) ops pre' es k e ys1 ys2 d0 d1] : RW0 P B T L (⟨some d,op,ty,pos,aft,none⟩ :: ops) (pre ∧ pre') (.g d τ u :: es) k e ys1 ys2 d0 d1:=⟨.g h r.r⟩
instance RW0.o [h : ElS P t e k by0 z0] [r : RW1 P B T k e d L ops pre es ys1 ys2 d1] : RW0 P B T L (⟨some d,.buildSlice t 0 #[],ty,pos,aft,none⟩ :: ops) pre (.o0 d :: es) k e ys1 ys2 d d1:=⟨.o0 h r.r⟩
end
class FinW (es : List WE) (L : List (Nat × MT)) (L' : outParam (List (Nat × MT))) : Prop where
  h : L' = fW es L
section
variable {d : Nat} {τ : MT} {u : List Nat} {L' : List (Nat × MT)}
instance FinW.nil : FinW [] L L:=⟨rfl⟩
instance FinW.g [h : FinW es ((d,τ) :: L) L'] : FinW (.g d τ u :: es) L L':=⟨h.h⟩
instance FinW.o2 [h : FinW es ((d,τ) :: L) L'] : FinW (.o2 d τ u :: es) L L':=⟨h.h⟩
instance FinW.o0 [h : FinW es L L'] : FinW (.o0 d :: es) L L':=⟨h.h⟩
instance FinW.o1 [h : FinW es L L'] : FinW (.o1 d u :: es) L L':=⟨h.h⟩
end
def posW (f : WE → Bool) : Nat → List WE → Nat
  | i,[]=>i
  | i,x :: es=>if f x then i else posW f (i + 1) es
def WE.is1 : WE → Bool
  | .o1 _ _=>true
  | _=>false
def WE.is2 : WE → Bool
  | .o2 _ _ _=>true
  | _=>false
end
end Go.Proofs.YtjphllpnhjemjaaGreat
set_option linter.unusedVariables false
set_option linter.unusedSimpArgs false
namespace Go.Proofs.YtjphllpnhjemjaaGreat
open Go.RowKit (Below)
def drawOk1 (ops : Array Oper) (PL : List PcW) (L : List Nat) (N ic : Nat) : Bool :=
  decide (PL.length ≤ ops.size) &&
  (List.range PL.length).all (fun i=>(List.range PL.length).all fun j=>i == j || (PL[i]?).map (·.d) != (PL[j]?).map (·.d)) &&
  PL.all (fun po=>!L.contains po.d && decide (po.d < N)) &&
  (List.range PL.length).all (fun i=>(ops[i]?).all fun o=>o.after.all fun e=>!Region.binds .any e || decide (e.on < i)) &&
  (List.range PL.length).all (fun i=>(PL[i]?).all fun po=>po.dep.all fun j=>decide (j < PL.length) && waits ops ops.size i j) &&
  (List.range PL.length).all (fun i=>(PL[i]?).all fun po=>(match po.k with | .g _=>i != ic | .o2 _=>i == ic | _=>false)) &&
  (List.range PL.length).all (fun i=>(ops[i]?).bind (·.dst) == (PL[i]?).map (·.d)) &&
  decide (ic < PL.length) &&
  (List.range (ops.size - PL.length)).all (fun j=>(List.range PL.length).all fun i=>waits ops ops.size (PL.length + j) i) &&
  (List.range (ops.size - PL.length)).all (fun j=>Region.ready .any ops (firstN ops.size (PL.length + j)) == [PL.length + j])
section
variable {P : Program} {W0 : World} {G0 : Gh} {N : Nat} {L : List (Nat × MT)} {B B' : List BX}
theorem St.noB {a : Act} {w : World} {G : Gh} (S : St W0 G0 N L B a w G) : St W0 G0 N L [] a w G:=⟨S.nxt,S.size,S.dfr,S.ty,fun i x h=>by simp at h,fun i j x y h=>by simp at h⟩
structure D1 (P : Program) (W0 : World) (G0 : Gh) (N : Nat) (L : List (Nat × MT)) (B B' : List BX) (ops : Array Oper) (PL : List PcW) (ic : Nat) (l : Array Bool) (a : Act) (w : World) : Prop where
  lsz : l.size = ops.size
  cl : ∀ (j : Nat) (o : Oper),ops[j]? = some o → l.getD j false = true → ∀ e ∈ o.after,Region.binds .any e = true → l.getD e.on false = true
  tl : ∀ k,PL.length ≤ k → l.getD k false = false
  st : ∃ G,St W0 G0 N (faW PL l ++ L) (if l.getD ic false = true then B' else B) a w G
def Ob1G (P : Program) (W0 : World) (G0 : Gh) (N : Nat) (L : List (Nat × MT)) (ops : Array Oper) (PL : List PcW) : Prop :=
  ∀ (i d : Nat) (τ : MT) (dep : List Nat),PL[i]? = some ⟨d,.g τ,dep⟩ → ∀ a w G,St W0 G0 N (depW PL dep ++ L) [] a w G → OpG P ops (ops.getD i default) a w G τ
def Ob1C (P : Program) (W0 : World) (G0 : Gh) (N : Nat) (L : List (Nat × MT)) (B B' : List BX) (ops : Array Oper) (PL : List PcW) (Q : Exit → Act → World → Prop) : Prop :=
  ∀ (i d : Nat) (τ : MT) (dep : List Nat),PL[i]? = some ⟨d,.o2 τ,dep⟩ → (ops.getD i default).guard = none ∧ ∀ (L' : List (Nat × MT)) a w G (K : Act → World → Prop),(∀ p ∈ depW PL dep ++ L,p ∈ L') → St W0 G0 N L' B a w G → fresh d L' = true →
    (∀ a' w' G',St W0 G0 N ((d,τ) :: L') B' a' w' G' → K a' w') → (ops.getD i default).wp P a w K Q
variable {ops : Array Oper} {PL : List PcW} {ic : Nat} {l : Array Bool} {a : Act} {w : World} {Q : Exit → Act → World → Prop}
theorem D1.waited (I : D1 P W0 G0 N L B B' ops PL ic l a w) : ∀ (m : Nat) {j i : Nat} {o : Oper}, waits ops m j i = true → ops[j]? = some o →
    (∀ e ∈ o.after,Region.binds .any e = true → l.getD e.on false = true) → l.getD i false = true
  | 0,_,_,_,h,_,_=>by cases h
  | m + 1,j,i,o,h,ho,he=>by
    unfold waits at h
    rw [ho] at h
    simp only [Option.any_some,Array.any_eq_true,Bool.and_eq_true,Bool.or_eq_true,beq_iff_eq] at h
    obtain ⟨k,hk,hb,h⟩:=h
    have hl:=he _ (Array.getElem_mem hk) hb
    rcases h with h | h
    · rw [← h];exact hl
    · have hon : (o.after[k]).on < ops.size := by
        have : (o.after[k]).on < l.size:=by
          rcases Nat.lt_or_ge (o.after[k]).on l.size with h1 | h1
          · exact h1
          · simp [Array.getElem?_eq_none h1] at hl
        rw [I.lsz] at this;exact this
      have ho':=Array.getElem?_eq_getElem hon
      exact D1.waited I m h ho' (I.cl _ _ ho' hl)
theorem D1.past (I : D1 P W0 G0 N L B B' ops PL ic l a w) {j i : Nat} (h : waits ops ops.size j i = true) (hj : l.getD j false = true) : l.getD i false = true:=by
  have hlt : j < ops.size:=by
    rcases Nat.lt_or_ge j l.size with h1 | h1
    · rw [I.lsz] at h1;exact h1
    · simp [Array.getElem?_eq_none h1] at hj
  have ho:=Array.getElem?_eq_getElem hlt
  exact I.waited _ h ho (I.cl _ _ ho hj)
theorem D1.cl_set {i : Nat} (I : D1 P W0 G0 N L B B' ops PL ic l a w) (hi : i < ops.size) (hcl : ∀ (o : Oper), ops[i]? = some o → ∀ e ∈ o.after, Region.binds .any e = true → l.getD e.on false = true) :
    ∀ (j : Nat) (o : Oper),ops[j]? = some o → (l.setIfInBounds i true).getD j false = true → ∀ e ∈ o.after,Region.binds .any e = true → (l.setIfInBounds i true).getD e.on false = true:=fun j o ho hl e he hb=>by
  have hl' : l.getD e.on false = true:=by
    by_cases e1 : j = i
    · subst e1;exact hcl o ho e he hb
    · rw [getD_set e1] at hl;exact I.cl j o ho hl e he hb
  by_cases e2 : e.on = i
  · rw [e2];have : i < l.size:=by rw [I.lsz];exact hi
    simp [this]
  · rw [getD_set e2];exact hl'
theorem St.drawn1 {id : Nat} {a0 : Act} {w0 : World} {Gs : Gh} (S : St W0 G0 N L B a0 w0 Gs) (PL : List PcW) (hm : P.follows .mixedOrders = true) (hd : drawOk1 ops PL (L.map (·.1)) N ic = true)
    (hG : Ob1G P W0 G0 N L ops PL) (HC : Ob1C P W0 G0 N L B B' ops PL Q)
    (K : ∀ a w G l,(∀ i,i < PL.length → l.getD i false = true) → St W0 G0 N (faW PL l ++ L) B' a w G → wpList P ops Q (ops.toList.drop PL.length) a w) : (Code.region id ops true).wp P Q a0 w0:=by
  simp only [drawOk1,Bool.and_eq_true,List.all_eq_true,List.mem_range,decide_eq_true_eq,Bool.or_eq_true,bne_iff_ne,Bool.not_eq_true',beq_iff_eq] at hd
  obtain ⟨⟨⟨⟨⟨⟨⟨⟨⟨g1,g3⟩,g4⟩,g5⟩,g6⟩,g8⟩,g9⟩,g10⟩,g11⟩,g12⟩:=hd
  have hpl : ∀ {i : Nat} {po : PcW},PL[i]? = some po → i < PL.length:=fun h=>(List.getElem?_eq_some_iff.1 h).1
  have hne : ∀ {i j : Nat} {po po' : PcW},PL[i]? = some po → PL[j]? = some po' → i ≠ j → po.d ≠ po'.d:=fun {i j po po'} hp hp' hij=>by
    rcases g3 i (hpl hp) j (hpl hp') with h | h
    · exact absurd h hij
    · rw [hp,hp'] at h;simpa using h
  have hfr : ∀ {i : Nat} {po : PcW},PL[i]? = some po → po.d < N ∧ ∀ p ∈ L,p.1 ≠ po.d:=fun {i po} hp=>by
    have:=g4 po (List.mem_of_getElem? hp)
    refine ⟨this.2,fun p hpm e=>?_⟩
    have hc:=this.1
    rw [← e] at hc
    have : (L.map (·.1)).contains p.1 = true:=by simpa using ⟨p.2,hpm⟩
    rw [this] at hc;cases hc
  have hdep : ∀ {i : Nat} {po : PcW},PL[i]? = some po → ∀ j ∈ po.dep,waits ops ops.size i j = true:=fun {i po} hp j hj=>by
    have h6':=g6 i (hpl hp)
    rw [hp] at h6'
    simp only [Option.all_some,List.all_eq_true,Bool.and_eq_true,decide_eq_true_eq] at h6'
    exact (h6' j hj).2
  have hfresh : ∀ {l : Array Bool} {i : Nat} {q : PcW},PL[i]? = some q → l.getD i false = false → fresh q.d (faW PL l ++ L) = true:=fun {l i q} hq hl=>by
    unfold fresh
    rw [List.all_eq_true]
    intro p hp
    simp only [bne_iff_ne,ne_eq]
    intro e
    rcases List.mem_append.1 hp with h | h
    · obtain ⟨j,q',τ',h1,h2,_,rfl⟩:=faW_mem.1 h
      by_cases ej : j = i
      · subst ej;rw [hl] at h2;cases h2
      · exact hne h1 hq ej e
    · exact (hfr hq).2 p h e
  have fin : ∀ (fuel : Nat) (l : Array Bool) (a : Act) (w : World),D1 P W0 G0 N L B B' ops PL ic l a w → fuel + cnt l = ops.size → (∀ i,i < PL.length → l.getD i false = true) → wpAny P .any ops Q fuel l a w:=by
    intro fuel l a w I hc hall
    obtain ⟨G,hSt⟩:=I.st
    rw [if_pos (hall ic g10)] at hSt
    have hK:=K a w G l hall hSt
    have hl : l = firstN ops.size PL.length:=by
      apply Array.ext
      · simp [firstN,I.lsz]
      · intro k k1 k2
        by_cases hk : k < PL.length
        · have:=hall k hk;simp [k1] at this;simp [firstN,this,hk]
        · have:=I.tl k (by omega);simp [k1] at this;simp [firstN,this,hk]
    subst hl
    rw [cnt_firstN g1] at hc
    have hf : fuel = ops.size - PL.length:=by omega
    subst hf
    have hsub : ops.size - (ops.size - PL.length) = PL.length:=by omega
    have:=tail_any (P:=P) (Q:=Q) (ops:=ops) (ops.size - PL.length) a w (by omega) (fun j hj1 hj2=>by
      have:=g12 (j - PL.length) (by omega)
      rw [show PL.length + (j - PL.length) = j from by omega] at this
      exact this) (by rw [hsub];exact hK)
    rw [hsub] at this
    exact this
  have key : ∀ (fuel : Nat) (l : Array Bool) (a : Act) (w : World),D1 P W0 G0 N L B B' ops PL ic l a w → fuel + cnt l = ops.size → wpAny P .any ops Q fuel l a w:=by
    intro fuel
    induction fuel with
    | zero =>
      intro l a w I hc
      refine fin 0 l a w I hc fun i hi=>?_
      by_cases hx : l.getD i false = true
      · exact hx
      · exfalso
        have hli : i < l.size:=by rw [I.lsz];omega
        have hz : l.getD i true = false:=by simp [hli] at hx ⊢;exact hx
        have h9:=cnt_set hli hz
        have h10:=cnt_le (l.setIfInBounds i true)
        rw [Array.size_setIfInBounds,I.lsz] at h10
        omega
    | succ fuel ih =>
      intro l a w I hc
      by_cases hall : ∀ i,i < PL.length → l.getD i false = true
      · exact fin (fuel + 1) l a w I hc hall
      have hex : ∃ i,i < PL.length ∧ l.getD i false = false:=by
        refine Classical.byContradiction fun hn=>hall fun i hi=>?_
        by_cases hx : l.getD i false = true
        · exact hx
        · exact absurd ⟨i,hi,by simpa using hx⟩ hn
      have hpre : ∀ i,i ∈ Region.ready .any ops l → i < PL.length:=fun i hi=>by
        rcases Nat.lt_or_ge i PL.length with h | h
        · exact h
        · exfalso
          obtain ⟨j,hj,hjl⟩:=hex
          obtain ⟨_,o,ho,hall'⟩:=mem_ready.1 hi
          have hio : i < ops.size:=(Array.getElem?_eq_some_iff.1 ho).1
          have hw:=g11 (i - PL.length) (by omega) j hj
          rw [show PL.length + (i - PL.length) = i from by omega] at hw
          have:=I.waited _ hw ho hall'
          rw [hjl] at this;cases this
      have hready : Region.ready .any ops l ≠ []:=by
        have hleast : ∃ i,(i < PL.length ∧ l.getD i false = false) ∧ ∀ j,j < i → ¬ (j < PL.length ∧ l.getD j false = false):=by
          obtain ⟨i,hi⟩:=hex
          induction i using Nat.strongRecOn with
          | _ i ih' =>
            by_cases hh : ∃ j,j < i ∧ (j < PL.length ∧ l.getD j false = false)
            · obtain ⟨j,hj,hj2⟩:=hh;exact ih' j hj hj2
            · exact ⟨i,hi,fun j hj hc=>hh ⟨j,hj,hc⟩⟩
        obtain ⟨i,⟨hi,hil⟩,hmin⟩:=hleast
        have hio : i < ops.size:=by omega
        have : i ∈ Region.ready .any ops l:=by
          refine mem_ready.2 ⟨?_,ops[i],Array.getElem?_eq_getElem hio,fun e he hb=>?_⟩
          · have hli : i < l.size:=by rw [I.lsz];exact hio
            simp [hli] at hil ⊢;exact hil
          · have h5':=g5 i hi
            rw [Array.getElem?_eq_getElem hio] at h5'
            simp only [Option.all_some,Array.all_eq_true,Bool.or_eq_true,Bool.not_eq_true',decide_eq_true_eq] at h5'
            obtain ⟨k,hk,hke⟩:=Array.mem_iff_getElem.1 he
            have hlt : e.on < i:=by
              rcases h5' k hk with h | h
              · rw [hke,hb] at h;cases h
              · rw [hke] at h;exact h
            have:=hmin e.on hlt
            by_cases hx : l.getD e.on false = true
            · exact hx
            · exact absurd ⟨by omega,by simpa using hx⟩ this
        intro h;rw [h] at this;cases this
      refine ⟨fun h=>absurd h hready,fun i hi=>?_⟩
      obtain ⟨hun,o,ho,hedge⟩:=mem_ready.1 hi
      have hio : i < ops.size:=(Array.getElem?_eq_some_iff.1 ho).1
      have hip : i < PL.length:=hpre i hi
      have hli : i < l.size:=by rw [I.lsz];exact hio
      have hunf : l.getD i false = false:=by simp [hli] at hun ⊢;exact hun
      have hpo : PL[i]? = some PL[i]:=List.getElem?_eq_getElem hip
      generalize hgen : PL[i] = po at hpo
      have hgd : ops.getD i default = o:=by simp [ho]
      have hcnt : fuel + cnt (l.setIfInBounds i true) = ops.size:=by rw [cnt_set hli hun];omega
      have hcl : ∀ o',ops[i]? = some o' → ∀ e ∈ o'.after,Region.binds .any e = true → l.getD e.on false = true:=fun o' ho'=>by rw [ho] at ho';cases ho';exact hedge
      have hdo : o.dst = some po.d:=by
        have h:=g9 i hip
        rw [ho,hpo] at h
        simpa using h
      have hcset:=I.cl_set hio hcl
      have htl : ∀ k,PL.length ≤ k → (l.setIfInBounds i true).getD k false = false:=fun k hk=>by
        have h9:=I.tl k hk
        rw [getD_set (by omega)]
        exact h9
      obtain ⟨G,hSt⟩:=I.st
      have hfrs:=hfresh hpo hunf
      have hdl : ∀ p ∈ depW PL po.dep ++ L,p ∈ faW PL l ++ L:=fun p hp=>by
        rcases List.mem_append.1 hp with h | h
        · obtain ⟨j,q,τ,hj,h1,h2,rfl⟩:=depW_mem h
          exact List.mem_append_left _ (faW_mem.2 ⟨j,q,τ,h1,I.waited _ (hdep hpo j hj) ho hedge,h2,rfl⟩)
        · exact List.mem_append_right _ h
      unfold wpOp
      rw [ho]
      simp only
      have hkind:=g8 i hip
      rw [hpo] at hkind
      simp only [Option.all_some] at hkind
      obtain ⟨pd,pk,pdep⟩:=po
      cases pk with
      | g τ =>
        have hob:=hG i pd τ pdep hpo a w G (hSt.only hdl).noB
        rw [hgd] at hob
        have hni : i ≠ ic:=by simpa using hkind
        have hnext : ∀ {v w' G'},τ.t v G' → Nxt w G w' G' → D1 P W0 G0 N L B B' ops PL ic (l.setIfInBounds i true) (a.put (some pd) v) w':=fun {v w' G'} hv hn =>
          ⟨by simpa using I.lsz,hcset,htl,G',by
            rw [getD_set (Ne.symm hni)]
            exact (hSt.put (hfr hpo).1 hfrs hv hn).only fun p hp=>by
              rcases List.mem_append.1 hp with h | h
              · rcases faW_set (l:=l) hpo rfl hli h with e | e
                · subst e;exact .head _
                · exact .tail _ (List.mem_append_left _ e)
              · exact .tail _ (List.mem_append_right _ h)⟩
        rcases hob with ⟨hw,hr⟩ | ⟨hw,hu⟩
        · rw [if_pos hw]
          refine .inl (hr Q _ fun v w' G' hv hn=>?_)
          rw [hdo]
          exact ih _ _ _ (hnext hv hn) hcnt
        · rw [if_neg (by simp [hw]),hdo]
          exact ih _ _ _ (hnext hu (Nxt.refl hSt.nxt.ok)) hcnt
      | o0=>cases hkind
      | o1=>cases hkind
      | o2 τ =>
        obtain ⟨hgu,hob⟩:=HC i pd τ pdep hpo
        rw [hgd] at hgu hob
        rw [if_pos (by simp [Region.wanted,hgu])]
        have hic : i = ic:=by simpa using hkind
        subst hic
        rw [hunf] at hSt
        refine .inl (hob _ a w G _ hdl hSt hfrs fun a' w' G' hS'=>ih _ _ _ ⟨by simpa using I.lsz,hcset,htl,G',?_⟩ hcnt)
        rw [if_pos (set_at hli)]
        exact hS'.only fun p hp=>by
          rcases List.mem_append.1 hp with h | h
          · rcases faW_set (l:=l) hpo rfl hli h with e | e
            · subst e;exact .head _
            · exact .tail _ (List.mem_append_left _ e)
          · exact .tail _ (List.mem_append_right _ h)
  refine wp_region_any hm (key _ _ _ _ ⟨by simp,fun j o ho hl=>?_,fun k hk=>?_,Gs,?_⟩ ?_)
  · have : j < ops.size:=(Array.getElem?_eq_some_iff.1 ho).1
    simp [this] at hl
  · rcases Nat.lt_or_ge k ops.size with h | h
    · simp [h]
    · simp [h]
  · have hicn : ic < ops.size:=by omega
    rw [if_neg (by simp [hicn])]
    refine St.only (L:=L) ?_ fun p hp=>?_
    · exact { S with nxt:=S.nxt.trans (Nxt.drew S.ok),bx:=fun i x h=>(S.bx i x h).nxt (Nxt.drew S.ok) }
    · rcases List.mem_append.1 hp with h | h
      · obtain ⟨j,q,τ,h1,h2,_⟩:=faW_mem.1 h
        have : j < ops.size:=by have:=hpl h1;omega
        simp [this] at h2
      · simpa using h
  · simp [cnt]
end
class Imp (P : Program) (L : List (Nat × MT)) (B : List BX) (op : Op) (pre : outParam Prop) (τ : outParam MT) (u : outParam (List Nat)) (B' : outParam (List BX)) : Prop where
  h : ∀ {W0 : World} {G0 : Gh} {N d : Nat} {L1 : List (Nat × MT)} {a : Act} {w : World} {G : Gh} {o : Oper} {K : Act → World → Prop} {Q : Exit → Act → World → Prop},o.op = op → o.dst = some d → St W0 G0 N L1 B a w G → Env L u a G → pre → d < N → fresh d L1 = true →
    (∀ a' w' G',St W0 G0 N ((d,τ) :: L1) B' a' w' G' → K a' w') → o.wp P a w K Q
def SemC (P : Program) (B B' : List BX) (L0 : List (Nat × MT)) (all : List WE) (o : Oper) : WE → Prop
  | .g d τ u=>o.dst = some d ∧ o.guard = none ∧ ∃ L' pre,(∀ p ∈ L',p ∈ L0 ∨ ∃ (m : Nat) (x : WE),all[m]? = some x ∧ x.sl = some p) ∧ pre ∧ Op1 P L' [] o.op pre τ u
  | .o2 d τ u=>o.dst = some d ∧ o.guard = none ∧ ∃ L' pre,(∀ p ∈ L',p ∈ L0 ∨ ∃ (m : Nat) (x : WE),all[m]? = some x ∧ x.sl = some p) ∧ pre ∧ Imp P L' B o.op pre τ u B'
  | _=>False
def SemL (P : Program) (B B' : List BX) (L : List (Nat × MT)) (ops : List Oper) (pre : Prop) (es : List WE) (rest : List Oper) : Prop :=
  ∀ (L0 : List (Nat × MT)) (e0 all : List WE),all = e0 ++ es → (∀ p ∈ L,p ∈ L0 ∨ ∃ (m : Nat) (x : WE),all[m]? = some x ∧ x.sl = some p) → pre → (es.length ≤ ops.length ∧ ops.drop es.length = rest) ∧ ∀ (j : Nat) (x : WE) (o : Oper),es[j]? = some x → ops[j]? = some o → SemC P B B' L0 all o x
class RC1 (P : Program) (L : List (Nat × MT)) (ops : List Oper) (pre : outParam Prop) (es : outParam (List WE)) (rest : outParam (List Oper)) : Prop where
  r : ∀ (B B' : List BX),SemL P B B' L ops pre es rest
class RC0 (P : Program) (B : List BX) (L : List (Nat × MT)) (ops : List Oper) (pre : outParam Prop) (es : outParam (List WE)) (B' : outParam (List BX)) (rest : outParam (List Oper)) : Prop where
  r : SemL P B B' L ops pre es rest
section
variable {P : Program} {B B' : List BX} {L : List (Nat × MT)} {ops : List Oper} {pre pre' : Prop} {es : List WE} {rest : List Oper} {d : Nat} {op : Op} {ty : TypeId} {pos : String} {aft : Array Edge} {τ : MT} {u : List Nat}
theorem SemL.cons {x : WE} {o : Oper} {p : Nat × MT} (hx : x.sl = some p) (h : ∀ (L0 : List (Nat × MT)) (all : List WE),(∀ p ∈ L,p ∈ L0 ∨ ∃ (m : Nat) (x : WE),all[m]? = some x ∧ x.sl = some p) → pre → SemC P B B' L0 all o x) (hr : SemL P B B' (p :: L) ops pre' es rest) : SemL P B B' L (o :: ops) (pre ∧ pre') (x :: es) rest:=fun L0 e0 all ha hL hp=>by
  have hm : all[e0.length]? = some x:=by rw [ha];simp
  obtain ⟨i1,i2⟩:=hr L0 (e0 ++ [x]) all (by rw [ha];simp) (fun q hq=>by
    rcases List.mem_cons.1 hq with rfl | hq
    · exact .inr ⟨_,_,hm,hx⟩
    · exact hL q hq) hp.2
  refine ⟨⟨by simpa using i1.1,by simpa using i1.2⟩,fun j y o' h1 h2=>?_⟩
  cases j with
  | zero=>cases h1;cases h2;exact h L0 all hL hp.1
  | succ j=>exact i2 j y o' (by simpa using h1) (by simpa using h2)
theorem SemL.nil : SemL P B B' L ops True [] ops:=fun L0 e0 all ha hL hp=>⟨⟨Nat.zero_le _,rfl⟩,fun j x o h=>by simp at h⟩
instance (priority:=100) RC1.stop : RC1 P L ops True [] ops:=⟨fun _ _=>.nil⟩
instance RC1.g [h : Op1 P L [] op pre τ u] [r : RC1 P ((d,τ) :: L) ops pre' es rest] : RC1 P L (⟨some d,op,ty,pos,aft,none⟩ :: ops) (pre ∧ pre') (.g d τ u :: es) rest:=⟨fun B B'=>.cons rfl (fun L0 all hL hp=>⟨rfl,rfl,L,pre,hL,hp,h⟩) (r.r B B')⟩
instance (priority:=500) RC0.g [h : Op1 P L [] op pre τ u] [r : RC0 P B ((d,τ) :: L) ops pre' es B' rest] : RC0 P B L (⟨some d,op,ty,pos,aft,none⟩ :: ops) (pre ∧ pre') (.g d τ u :: es) B' rest:=⟨.cons rfl (fun L0 all hL hp=>⟨rfl,rfl,L,pre,hL,hp,h⟩) r.r⟩
instance RC0.c [h : Imp P L B op pre τ u B'] [r : RC1 P ((d,τ) :: L) ops pre' es rest] : RC0 P B L (⟨some d,op,ty,pos,aft,none⟩ :: ops) (pre ∧ pre') (.o2 d τ u :: es) B' rest:=⟨.cons rfl (fun L0 all hL hp=>⟨rfl,rfl,L,pre,hL,hp,h⟩) (r.r B B')⟩
end
section
variable {P : Program} {B B' : List BX} {L L' : List (Nat × MT)} {pre : Prop} {es : List WE} {W0 : World} {G0 : Gh} {N : Nat} {a : Act} {w : World} {G : Gh} {Q : Exit → Act → World → Prop}
theorem W.d1 {id : Nat} {all rest : List Oper} [R : RC0 P B L all pre es B' rest] [fl : FinW es L L'] (hp : pre) (K : ∀ a w G, St W0 G0 N L' B' a w G → wpList P all.toArray Q rest a w) (hm : P.follows .mixedOrders = true)
    (hd : drawOk1 all.toArray (es.map (pwW es)) (L.map (·.1)) N (posW WE.is2 0 es) = true) :
    St W0 G0 N L B a w G → (Code.region id all.toArray true).wp P Q a w:=fun S=>by
  obtain ⟨hlen,hsem⟩:=R.r L [] es rfl (fun p hp=>.inl hp) hp
  have hat : ∀ {i : Nat} {q : PcW},(es.map (pwW es))[i]? = some q → ∃ x o,es[i]? = some x ∧ q = pwW es x ∧ all.toArray.getD i default = o ∧ SemC P B B' L es o x:=fun {i q} hq=>by
    rw [List.getElem?_map] at hq
    cases hx : es[i]? with
    | none=>rw [hx] at hq;cases hq
    | some x =>
      rw [hx] at hq
      have hlt : i < all.length:=Nat.lt_of_lt_of_le (List.getElem?_eq_some_iff.1 hx).1 hlen.1
      have ho : all[i]? = some all[i]:=List.getElem?_eq_getElem hlt
      exact ⟨x,all[i],rfl,by simpa using hq.symm,by simp [hlt],hsem i x _ hx ho⟩
  refine S.drawn1 (B':=B') (es.map (pwW es)) hm hd ?_ ?_ fun a w G l hall S=>(by
    rw [List.length_map]
    simp only [List.toList_toArray]
    rw [hlen.2]
    refine K a w G ?_
    rw [fl.h]
    refine S.only fun p hp=>?_
    rcases fW_mem hp with h | ⟨j,x,hx,hs⟩
    · exact List.mem_append_right _ h
    · refine List.mem_append_left _ (faW_mem.2 ⟨j,pwW es x,p.2,by rw [List.getElem?_map,hx];rfl,hall j ?_,(pwW_ty hs).1,?_⟩)
      · rw [List.length_map];exact (List.getElem?_eq_some_iff.1 hx).1
      · rw [(pwW_ty hs).2])
  · intro i d τ dep hq a w G S
    obtain ⟨x,o,hx,he,ho,hs⟩:=hat hq
    rw [ho]
    cases x with
    | g d' τ' u =>
      cases he
      obtain ⟨_,hg,L1,pr,hL,hpr,h⟩:=hs
      exact .of hg (h.ok rfl S.ok (envW hL (fun p hp=>hp) S) (S.bok _) hpr)
    | o0=>cases he
    | o1=>cases he
    | o2=>cases he
  · intro i d τ dep hq
    obtain ⟨x,o,hx,he,ho,hs⟩:=hat hq
    rw [ho]
    cases x with
    | g=>cases he
    | o0=>cases he
    | o1=>cases he
    | o2 d' τ' u =>
      cases he
      obtain ⟨hdst,hg,L1,pr,hL,hpr,h⟩:=hs
      refine ⟨hg,fun L2 a w G K h1 S hf hK=>?_⟩
      have hN : (decide (d < N)) = true:=by
        simp only [drawOk1,Bool.and_eq_true,List.all_eq_true] at hd
        exact (hd.1.1.1.1.1.1.1.2 _ (List.mem_of_getElem? hq)).2
      exact h.h rfl hdst S (envW hL h1 S) hpr (of_decide_eq_true hN) hf hK
end
abbrev OSO (b off n c : Nat) : MT:=.ex (.slice (some ⟨b,off,none⟩) n c)
def cpF (xs : List Int) (off m : Nat) : List Int:=xs.take off ++ xs.take m ++ xs.drop (off + m)
section
variable {P : Program} {L : List (Nat × MT)} {B B' : List BX} {x y : Operand} {u v : List Nat} {t t' e ty : TypeId} {b n c j off n2 c2 i nn by0 : Nat} {xs : List Int} {z0 : Value}
theorem own_slLo {o : Oper} {a : Act} {w : World} {G : Gh} {τ : MT} (hok : Gok w G) (ho : o.op = .slice t x (some y) none none) (ht : P.underlying t = some (.slice e)) (hs : tyS P e none = true) (hx : a.eval x = .slice (some ⟨b, 0, none⟩) n c) (hy : a.eval y = .int .i64 (j : Int)) (hj : j < n) (hc : n ≤ c)
    (h : τ.t (.slice (some ⟨b,j,none⟩) (n - j) (c - j)) G) : OpR P o a w G τ:=by
  refine .run hok (v:=.slice (some ⟨b,j,none⟩) (n - j) (c - j)) ?_ h
  simp only [execOp,ho,hx,hy,Sem.run_bind,Option.map_some,Option.map_none,run_slice_lo ht hs (Nat.le_of_lt hj) hc]
  have e1 : ¬ c - j = 0:=by omega
  rw [if_neg e1]
  simp [addr_add]
instance Op1.ownLo [s : SlE P t none] [h : Opd L x (OSL b n c) u] [h2 : Opd L y (NT j) v] : Op1 P L B (.slice t x (some y) none none) (j < n ∧ n ≤ c) (OSO b j (n - j) (c - j)) (u ++ v):=⟨fun ho hok e' _ hp=>by
  obtain ⟨e0,h1,h2'⟩:=s.h
  exact own_slLo hok ho h1 h2' (h.h e'.l) (h2.h e'.r) hp.1 hp.2 rfl⟩
instance Op1.ownHi [s : SlE P t none] [h : Opd L x (OSL b n c) u] [h2 : Opd L y (NT j) v] : Op1 P L B (.slice t x none (some y) none) (j ≤ n ∧ n ≤ c) (OSL b j c) (u ++ v):=⟨fun {W0 w a G o} ho hok e' _ hp=>by
  obtain ⟨e0,h1,h2'⟩:=s.h
  have hx:=h.h e'.l
  have hy:=h2.h e'.r
  refine .run hok (v:=.slice (some ⟨b,0,none⟩) j c) ?_ rfl
  have hx' : a.eval x = .slice (some ⟨b,0,none⟩) n c:=hx
  have hy' : a.eval y = .int .i64 (j : Int):=hy
  simp [execOp,ho,hx',hy',run_slice_hi h1 h2' (show j ≤ c by omega)]⟩
theorem cpF_len {m : Nat} (h1 : off + m ≤ xs.length) : (cpF xs off m).length = xs.length:=by simp [cpF];omega
instance Imp.cp [el : ElS P t e none by0 z0] [hx : Opd L x (OSO b off n c) u] [hy : Opd L y (OSL b n2 c2) v] [hb : Bx B b i e (some nn) (ROWS none (xs.map fun z => IT z))] [hB : BAt B i (ROWS none ((cpF xs off (Nat.min n2 n)).map fun z => IT z)) B'] :
    Imp P L B (.call { callee:=.builtin .copy,args:=#[x,y],argTypes:=#[t,t'] }) (off + n ≤ xs.length ∧ n2 ≤ xs.length) (NT (Nat.min n2 n)) (u ++ v) B':=⟨fun {W0 G0 N d L1 a w G o K Q} ho hd S e' hp hdN hf hK=>by
  obtain ⟨x0,h3,h4⟩:=hB.h
  rw [hb.m] at h3;cases h3
  obtain ⟨ii,hii,h1,h2,_⟩:=elS_of el.h2
  have hxv : a.eval x = .slice (some ⟨b,off,none⟩) n c:=hx.h e'.l
  have hyv : a.eval y = .slice (some ⟨b,0,none⟩) n2 c2:=hy.h e'.r
  obtain ⟨g1,g2,V,hv,hs,us,r,hvr,hE⟩:=S.bx i _ hb.m
  have hus:=els_int hE
  subst hus
  rw [flat_int] at hvr
  subst hvr
  have hv' : w.heap[b]? = some (.cells (xs.map (Value.int .i64) ++ r).toArray e (0,0)):=hv
  have hm1 : Nat.min n2 n ≤ n2:=Nat.min_le_left _ _
  have hm2 : Nat.min n2 n ≤ n:=Nat.min_le_right _ _
  have hcl : ((xs.take (Nat.min n2 n)).map (Value.int .i64)).length = Nat.min n2 n:=by rw [List.length_map,List.length_take];omega
  have hrun:=run_copy_row (P:=P) w t t' o.type e b off n c ⟨b,0,none⟩ n2 c2 _ e ((xs.take (Nat.min n2 n)).map (Value.int .i64)) el.h1 (by rw [hii,Option.map_some,h1];rfl) hv' hcl (fun j v hj=>by
    rw [addr_add,Nat.zero_add]
    unfold World.cell?
    rw [hv']
    rw [List.getElem?_map] at hj
    cases hq : (xs.take (Nat.min n2 n))[j]? with
    | none=>rw [hq] at hj;cases hj
    | some q =>
      rw [hq] at hj;cases hj
      have hjl:=(List.getElem?_eq_some_iff.1 hq).1
      rw [List.length_take] at hjl
      rw [List.getElem?_take,if_pos (by omega)] at hq
      have hlt:=(List.getElem?_eq_some_iff.1 hq).1
      simp only [List.getElem?_toArray]
      rw [List.getElem?_append_left (by simpa using hlt),List.getElem?_map,hq]
      rfl) (by rw [hcl];simp;omega) (fun q hq=>by obtain ⟨z,_,rfl⟩:=List.mem_map.1 hq;rfl)
  rw [hcl] at hrun
  have hnew : (List.take off (xs.map (Value.int .i64) ++ r).toArray.toList ++ (xs.take (Nat.min n2 n)).map (Value.int .i64) ++ List.drop (off + Nat.min n2 n) (xs.map (Value.int .i64) ++ r).toArray.toList).toArray = ((cpF xs off (Nat.min n2 n)).map (Value.int .i64) ++ r).toArray:=by
    congr 1
    show List.take off (xs.map _ ++ r) ++ _ ++ List.drop _ (xs.map _ ++ r) = _
    unfold cpF
    rw [List.take_append_of_le_length (by simp;omega),List.drop_append_of_le_length (by simp;omega)]
    simp [List.append_assoc]
  rw [hnew] at hrun
  obtain ⟨cs',e1,hszc,hone⟩:=cells_one hs
  injection e1 with e1
  have hset:=S.setVar i hb.m (v:=.agg ((cpF xs off (Nat.min n2 n)).map (Value.int .i64) ++ r).toArray) (τ:=ROWS none ((cpF xs off (Nat.min n2 n)).map fun z=>IT z)) ⟨_,rfl,by
    have hn : (xs.map (Value.int .i64) ++ r).length = nn:=by rw [← hszc,← e1];simp
    have:=cpF_len (xs:=xs) (off:=off) (m:=Nat.min n2 n) (by omega)
    simp at hn ⊢;omega,fun q hq=>by
    have hq : q ∈ (cpF xs off (Nat.min n2 n)).map (Value.int .i64) ++ r:=by simpa using hq
    rcases List.mem_append.1 hq with hq | hq
    · obtain ⟨z,_,rfl⟩:=List.mem_map.1 hq;rfl
    · exact hone q (by rw [← e1];simp [hq])⟩ ⟨(cpF xs off (Nat.min n2 n)).map (Value.int .i64),r,by rw [flat_int],int_els⟩
  have hr : (execOp a.eval o).run P w = .ok (.value (goInt (Nat.min n2 n))) (w.setRow b ((cpF xs off (Nat.min n2 n)).map (Value.int .i64) ++ r).toArray):=by
    simp only [execOp,ho,resolve,invoke,builtin,Sem.run_bind,Sem.run_pure,Result.andThen_ok,List.map_toArray,List.map_cons,List.map_nil,hxv,hyv,hrun]
  unfold Oper.wp
  rw [hr]
  simp only [Oper.upon,hd]
  exact hK _ _ _ (h4 ▸ hset.put hdN hf rfl (Nxt.refl hset.ok))⟩
section
variable {z z' : Int} {k2 : IntKind}
abbrev UT (z : Int) : MT:=.ex (.int .u64 z)
def U64 (z : Int) : Prop:=0 ≤ z ∧ z < 18446744073709551616
theorem u64_w (h : U64 z) : IntKind.u64.wrap z = z:=by
  unfold U64 at h
  simp [IntKind.wrap,IntKind.bits,IntKind.signed];omega
instance Op1.mulU [h : Opd L x (UT z) u] [k : Opd L y (UT z') v] : Op1 P L B (.binOp .mul t x y t') (U64 (z * z')) (UT (z * z')) (u ++ v):=⟨fun ho hok e _ hp=>.imul hok ho (h.h e.l) (k.h e.r) (by rw [u64_w hp];rfl)⟩
instance Op1.addU [h : Opd L x (UT z) u] [k : Opd L y (UT z') v] : Op1 P L B (.binOp .add t x y t') (U64 (z + z')) (UT (z + z')) (u ++ v):=⟨fun ho hok e _ hp=>.iadd hok ho (h.h e.l) (k.h e.r) (by rw [u64_w hp];rfl)⟩
instance Op1.gtrU [h : Opd L x (UT z) u] [k : Opd L y (UT z') v] : Op1 P L B (.binOp .gtr t x y t') True (BT (decide (z > z'))) (u ++ v):=⟨fun ho hok e _ _=>.igtr hok ho (h.h e.l) (k.h e.r) rfl⟩
instance (priority:=1100) Op1.shrU [h : Opd L x (UT z) u] : Op1 P L B (.binOp .shr t x (.const (.int k2 32)) t') (0 ≤ z ∧ z < 4294967296) (UT 0) u:=⟨fun ho hok e _ hp=>.shr hok ho (h.h e) rfl (by decide) (by
  show Value.int .u64 _ = Value.int .u64 _
  have e1 : (2 : Int) ^ (min (32 : Int).toNat IntKind.u64.bits) = 4294967296:=by decide
  rw [e1,Int.fdiv_eq_ediv_of_nonneg _ (by decide),Int.ediv_eq_zero_of_lt hp.1 hp.2])⟩
theorem and_low {n : Nat} (h : n < 4294967296) : n &&& 4294967295 = n:=by
  have:=Nat.and_two_pow_sub_one_eq_mod n 32
  rw [show (2 : Nat) ^ 32 - 1 = 4294967295 from rfl,show (2 : Nat) ^ 32 = 4294967296 from rfl,Nat.mod_eq_of_lt h] at this
  exact this
instance (priority:=1100) Op1.andU [h : Opd L x (UT z) u] : Op1 P L B (.binOp .and t x (.const (.int .u64 4294967295)) t') (0 ≤ z ∧ z < 4294967296) (UT z) u:=⟨fun ho hok e _ hp=>.bits hok ho (h.h e) rfl (.inl ⟨rfl,by
  obtain ⟨n,rfl⟩ : ∃ n : Nat,z = n:=⟨z.toNat,by omega⟩
  have h1 : (BitVec.ofInt 64 (n : Int)).toNat = n:=by simp;omega
  show Value.int .u64 (IntKind.u64.wrap ((BitVec.ofInt 64 (n : Int) &&& BitVec.ofInt 64 4294967295).toNat : Int)) = Value.int .u64 (n : Int)
  rw [BitVec.toNat_and,h1,show (BitVec.ofInt 64 4294967295).toNat = 4294967295 from rfl,and_low (by omega),u64_w ⟨by omega,by omega⟩]⟩)⟩
end
theorem W.cdF {P : Program} {Q : Exit → Act → World → Prop} {a : Act} {w : World} {p : Prop} {c c' : Code} (h : p → c'.wp P Q a w) : p → (Code.cond (.const (.bool false)) c c').wp P Q a w:=fun S=>wp_cond_split (t:=false) rfl (fun e=>by cases e) fun _=>h S
theorem wr_nn {n : Nat} (h : n ≤ 64) : IntKind.i64.wrap (IntKind.u64.wrap (n : Int)) = (n : Int):=by
  rw [u64_w ⟨by omega,by omega⟩];exact i64_w ⟨by omega,by omega⟩
theorem wr_nt {n : Nat} (h : n ≤ 64) {v : Value} {G : Gh} (hv : (MT.ex (.int .i64 (IntKind.i64.wrap (IntKind.u64.wrap (n : Int))))).t v G) : (NT n).t v G:=by rw [wr_nn h] at hv;exact hv
def rpF (n j : Nat) : List Int:=List.replicate j (-1) ++ List.replicate (n - j) 0
theorem rpF_cp {n j : Nat} (hj : 1 ≤ j) (hn : j < n) : cpF (rpF n j) j (Nat.min j (n - j)) = rpF n (j + Nat.min j (n - j)):=by
  have hm1 : Nat.min j (n - j) ≤ j:=Nat.min_le_left _ _
  have hm2 : Nat.min j (n - j) ≤ n - j:=Nat.min_le_right _ _
  generalize Nat.min j (n - j) = m at *
  unfold cpF rpF
  rw [List.take_left' (by simp),List.take_append_of_le_length (by simpa using hm1),List.take_replicate,Nat.min_eq_left hm1,List.drop_append,List.length_replicate,List.drop_of_length_le (by simp),List.drop_replicate,List.nil_append,List.replicate_append_replicate]
  congr 2;omega
theorem rpF_len {n j : Nat} (h : j ≤ n) : (rpF n j).length = n:=by unfold rpF;simp;omega
theorem rpF_n {n : Nat} : rpF n n = List.replicate n (-1):=by unfold rpF;simp
theorem rpF_1 {n : Nat} (h : 1 ≤ n) : ([-1] : List Int).take n ++ (List.replicate n (0 : Int)).drop 1 = rpF n 1:=by
  unfold rpF
  rw [List.take_of_length_le (by simpa using h),List.drop_replicate];rfl
end
end Go.Proofs.YtjphllpnhjemjaaGreat
set_option linter.unusedVariables false
set_option linter.unusedSimpArgs false
set_option maxHeartbeats 4000000
set_option maxRecDepth 100000
set_option synthInstance.maxSize 100000
set_option synthInstance.maxHeartbeats 400000
namespace Go.Proofs.YtjphllpnhjemjaaGreat
open Go.RowKit (Below)
attribute [local irreducible] Go.Code.wp Go.wpList Go.bodyPost
instance {n m : Int} : Con Tryz.prog 104 [UT m,UT n] (m = 1 ∧ 0 ≤ n ∧ n ≤ 1000) (MT.tup2 (UT 0) (UT n)):=.o2 fun hok h1 h2 hp=>by
  refine St.enter (N:=51) Tryz.func104 rfl rfl rfl hok (enter2 h1 h2) fun a=>?_
  obtain ⟨rfl,hp⟩:=hp
  repeat' (first|((with_reducible refine gS_ ?_);first|((with_reducible refine gL_ ?_);first|refine W.run ?_ fun a w G=>?_|refine W.mv fun a w G=>?_|refine W.asg fun a w G=>?_|refine W.bx fun b a w G=>?_|(refine W.nn hK ?_;clear hK K)|refine W.nl ?_|refine W.al fun b a w G=>?_|refine W.st fun w=>?_|refine W.stp fun w=>?_|refine W.ste ?_ fun w=>?_)|((with_reducible refine gC_ ?_);first|with_reducible refine W.cdF ?_|refine W.reg fun K hK=>?_|refine W.reg1 ?_|refine W.sq fun K hK=>?_|refine W.ds ?_ (fun β a w G hu=>W.fin ?_ hu) mixedOrders (by kernel_rfl)|refine W.sk ?_|refine W.cd (fun hc=>?_) (fun hc=>?_)|refine W.cb (fun hc=>?_) (fun hc=>?_)|refine W.bl ?_|refine W.ex ?_|refine W.rt ?_)|((with_reducible refine W.kn hK ?_);clear hK K)|(with_reducible first|refine W.bn ?_|refine W.xt ?_|refine W.xb ?_|refine W.xo ?_|refine W.tr ?_|refine W.br ?_)|refine W.rt1 rfl ?_|refine W.rt2 rfl ?_ ?_|refine W.rt3 rfl ?_ ?_ ?_)|clear hK K|clear hu|exact True.intro|exact Nat.le_trans (by clear hp;omega) hp|exact Nat.le_trans (by clear hp;omega) hp.1|exact Nat.le_trans (by clear hp;omega) hp.2|(clear hp;omega)|apply And.intro|refine GI.i fun _=>?_|with_reducible rfl|decide|(simp only [List.length_cons,List.length_nil];omega))
  all_goals first | omega | (simp only [U64] at *;omega) | rfl | skip
instance {n m : Int} : Con Tryz.prog 82 [UT m,UT n] (m = 1 ∧ 0 ≤ n ∧ n ≤ 1000) (MT.tup2 (UT 0) (UT n)):=.o2 fun hok h1 h2 hp=>by
  refine St.enter (N:=30) Tryz.func82 rfl rfl rfl hok (enter2 h1 h2) fun a=>?_
  obtain ⟨rfl,hp⟩:=hp
  repeat' (first|((with_reducible refine gS_ ?_);first|((with_reducible refine gL_ ?_);first|refine W.run ?_ fun a w G=>?_|refine W.mv fun a w G=>?_|refine W.asg fun a w G=>?_|refine W.bx fun b a w G=>?_|(refine W.nn hK ?_;clear hK K)|refine W.nl ?_|refine W.al fun b a w G=>?_|refine W.st fun w=>?_|refine W.stp fun w=>?_|refine W.ste ?_ fun w=>?_)|((with_reducible refine gC_ ?_);first|with_reducible refine W.cdF ?_|refine W.reg fun K hK=>?_|refine W.reg1 ?_|refine W.sq fun K hK=>?_|refine W.ds ?_ (fun β a w G hu=>W.fin ?_ hu) mixedOrders (by kernel_rfl)|refine W.sk ?_|refine W.cd (fun hc=>?_) (fun hc=>?_)|refine W.cb (fun hc=>?_) (fun hc=>?_)|refine W.bl ?_|refine W.ex ?_|refine W.rt ?_)|((with_reducible refine W.kn hK ?_);clear hK K)|(with_reducible first|refine W.bn ?_|refine W.xt ?_|refine W.xb ?_|refine W.xo ?_|refine W.tr ?_|refine W.br ?_)|refine W.rt1 rfl ?_|refine W.rt2 rfl ?_ ?_|refine W.rt3 rfl ?_ ?_ ?_)|clear hK K|clear hu|exact True.intro|exact Nat.le_trans (by clear hp;omega) hp|exact Nat.le_trans (by clear hp;omega) hp.1|exact Nat.le_trans (by clear hp;omega) hp.2|(clear hp;omega)|apply And.intro|refine GI.i fun _=>?_|with_reducible rfl|decide|(simp only [List.length_cons,List.length_nil];omega))
  all_goals first | omega | (simp only [U64] at *;omega) | rfl | skip
instance {n : Nat} : ConO Tryz.prog 57 [LSC none [IT (-1)],NT n] (1 ≤ n ∧ n ≤ 64) none 3 (fun z : Int=>IT z) (List.replicate n (-1)):=.o2 fun hok h1 h2 hp=>by
  refine St.enter (N:=48) Tryz.func57 rfl rfl rfl hok (enter2 h1 h2) fun a=>?_
  have own30 : OwnAt 30:=⟨⟩
  have own33 : OwnAt 33:=⟨⟩
  repeat' (first|((with_reducible refine gS_ ?_);first|((with_reducible refine gL_ ?_);first|refine W.run ?_ fun a w G=>?_|refine W.mv fun a w G=>?_|refine W.asg fun a w G=>?_|refine W.bx fun b a w G=>?_|(refine W.nn hK ?_;clear hK K)|refine W.nl ?_|refine W.al fun b a w G=>?_|refine W.st fun w=>?_|refine W.stp fun w=>?_|refine W.ste ?_ fun w=>?_)|((with_reducible refine gC_ ?_);first|refine W.d1 ?_ (fun a w G=>?_) mixedOrders (by kernel_rfl)|refine W.reg fun K hK=>?_|refine W.reg1 ?_|refine W.sq fun K hK=>?_|refine W.ds ?_ (fun β a w G hu=>W.fin ?_ hu) mixedOrders (by kernel_rfl)|refine W.sk ?_|refine W.cd (fun hc=>?_) (fun hc=>?_)|refine W.cb (fun hc=>?_) (fun hc=>?_)|refine W.bl ?_|refine W.ex ?_|refine W.rt ?_)|((with_reducible refine W.kn hK ?_);clear hK K)|(with_reducible first|refine W.bn ?_|refine W.xt ?_|refine W.xb ?_|refine W.xo ?_|refine W.tr ?_|refine W.br ?_)|refine W.rt1 rfl ?_|refine W.rt2 rfl ?_ ?_|refine W.rt3 rfl ?_ ?_ ?_)|refine W.cast (t:=29) (τ:=.ex (.int .i64 (IntKind.i64.wrap (IntKind.u64.wrap (n : Int))))) (τ':=NT n) (wr_nt hp.2) ?_|refine W.mk (mt:=.ex (.int .i64 0)) (fun z : Int=>IT z) 0 ?_ fun b a w G=>?_|refine W.cp ?_ fun a w G=>?_|refine W.rto 4 rfl ?_|refine W.lp 34 (α:=Nat) (fun j=>n - j) (fun j=>1 ≤ j ∧ j ≤ n) [8,34,35,36,37,38,39,40,41,42,43,44,45,46] (fun j=>[(8,NT j)]) (fun j=>[(7,ROWS none ((rpF n j).map fun z=>IT z))]) (1) ?_ ?_ ?_ fun j hj a w G=>?_|refine W.ag (x:=j) (j + Nat.min j (n - j)) ?_ ?_ ?_ ?_|clear hK K|clear hu|exact True.intro|exact Nat.le_trans (by clear hp;omega) hp|exact Nat.le_trans (by clear hp;omega) hp.1|exact Nat.le_trans (by clear hp;omega) hp.2|(clear hp;omega)|apply And.intro|refine GI.i fun _=>?_|with_reducible rfl|decide|(simp only [List.length_cons,List.length_nil];omega))
  all_goals (try have hw : IntKind.u64.wrap (n : Int) = n:=u64_w ⟨by omega,by omega⟩)
  all_goals (try have hm0 : Nat.min 1 n = 1:=Nat.min_eq_left hp.1)
  all_goals (try have hm1 : Nat.min j (n - j) ≤ j:=Nat.min_le_left _ _)
  all_goals (try have hm2 : Nat.min j (n - j) ≤ n - j:=Nat.min_le_right _ _)
  all_goals (try have hm3 : 1 ≤ Nat.min j (n - j):=Nat.le_min.2 ⟨by omega,by omega⟩)
  all_goals (try have hl0:=rpF_len (n:=n) (j:=j) hj.2)
  all_goals first
    | omega
    | rfl
    | exact (List.length_replicate ..).symm
    | exact rpF_1 hp.1
    | exact congrArg Int.ofNat hm0
    | exact rpF_cp (by omega) (by omega)
    | (have e9 : j = n := by omega
       subst e9;first | exact rpF_n | exact rpF_n.symm)
    | skip
end Go.Proofs.YtjphllpnhjemjaaGreat
