import Derived.Test.YtjphllpnhjemjaaGreatQh
set_option linter.unusedVariables false
set_option linter.unusedSimpArgs false
set_option linter.unusedVariables false
set_option linter.unusedSimpArgs false
namespace Go.Proofs.YtjphllpnhjemjaaGreat
open Go.RowKit (Below)
section
variable {P : Program} {B : List BX} {L L' : List (Nat × MT)} {W0 W1 : World} {G0 G1 : Gh} {N : Nat} {a : Act} {w : World} {G : Gh} {Q : Exit → Act → World → Prop} {p : Prop} {K : Act → World → Prop} {d : Nat} {ty : TypeId} {k : Option Nat} {τ : MT}
theorem St.apart (S : St W0 G0 N L B a w G) : St w G N L [] a w G:=⟨Nxt.refl S.ok,S.size,S.dfr,S.ty,fun i x h=>by simp at h,fun i j x y h=>by simp at h⟩
theorem St.joined {x : BX} {a' : Act} {w' : World} {G' : Gh} (S : St W0 G0 N L B a w G) (S' : St w G N L' [x] a' w' G') : St W0 G0 N L' (x :: B) a' w' G':=by
  have hx:=S'.bx 0 x rfl
  have hlt : ∀ (i : Nat) (y : BX),B[i]? = some y → y.b < w.heap.size:=fun i y h=>(S.bx i y h).lt
  refine ⟨S.nxt.trans S'.nxt,S'.size,S'.dfr,S'.ty,fun i y h=>?_,fun i j y z hy hz hij=>?_⟩
  · cases i with
    | zero=>cases h;exact ⟨Nat.le_trans S.nxt.below.size hx.1,hx.2⟩
    | succ i=>exact (S.bx i y (by simpa using h)).nxt S'.nxt
  · cases i with
    | zero =>
      cases hy
      cases j with
      | zero=>exact absurd rfl hij
      | succ j=>have:=hlt j z (by simpa using hz);have:=hx.1;omega
    | succ i =>
      cases j with
      | zero=>cases hz;have:=hlt i y (by simpa using hy);have:=hx.1;omega
      | succ j=>exact S.nd i j y z (by simpa using hy) (by simpa using hz) (by omega)
theorem W.sep {c : Code} {arr : Array Oper} {id : Nat} (num d : Nat) (ty : TypeId) (k : Option Nat) (τ : MT) (he : id = num) (h1 : ∀ b a w G, St W0 G0 N ((d, PB b) :: L) (⟨b, ty, k, τ⟩ :: B) a w G → c.wp P Q a w)
    (h2 : ∀ (W1 : World) (G1 : Gh) (K : Act → World → Prop),(∀ b a w G,St W1 G1 N ((d,PB b) :: L) [⟨b,ty,k,τ⟩] a w G → K a w) → St W1 G1 N L [] a w G → (Code.region id arr true).wp P (Exit.then K Q) a w) :
    St W0 G0 N L B a w G → (Code.seq (.region id arr true) c).wp P Q a w:=fun S=>wp_seq_k fun K hK=>h2 w G K (fun b a' w' G' S'=>hK a' w' (h1 b a' w' G' (S.joined S'))) S.apart
theorem W.sepN (h : p → K a w) : p → Exit.then K Q .normal a w:=h
theorem W.sepE {Lf : List (Nat × MT)} {b : Nat} (hK : ∀ b a w G,St W1 G1 N ((d,PB b) :: L) [⟨b,ty,k,τ⟩] a w G → K a w) [hl : Lk Lf d (PB b)] (hs : ∀ p ∈ L,p ∈ Lf) : St W1 G1 N Lf [⟨b,ty,k,τ⟩] a w G → K a w:=fun S =>
  hK b a w G (S.only fun p hp=>by
    rcases List.mem_cons.1 hp with rfl | hp
    · exact hl.m
    · exact hs p hp)
end
end Go.Proofs.YtjphllpnhjemjaaGreat
set_option linter.unusedVariables false
set_option linter.unusedSimpArgs false
set_option maxHeartbeats 4000000
set_option maxRecDepth 100000
set_option synthInstance.maxSize 100000
set_option synthInstance.maxHeartbeats 400000
namespace Go.Proofs.YtjphllpnhjemjaaGreat
open Go.RowKit (Below)
attribute [local irreducible] Go.Code.wp Go.wpList Go.bodyPost
private theorem gS_ {W0 : World} {G0 : Gh} {N : Nat} {L : List (Nat × MT)} {B : List BX} {a : Act} {w : World} {G : Gh} {q : Prop} (h : St W0 G0 N L B a w G → q) : St W0 G0 N L B a w G → q:=h
private theorem gL_ {p : Prop} {P : Program} {arr : Array Oper} {Q : Exit → Act → World → Prop} {l : List Oper} {a : Act} {w : World} (h : p → wpList P arr Q l a w) : p → wpList P arr Q l a w:=h
private theorem gC_ {p : Prop} {P : Program} {c : Code} {Q : Exit → Act → World → Prop} {a : Act} {w : World} (h : p → c.wp P Q a w) : p → c.wp P Q a w:=h
private theorem mixedOrders : Tryz.prog.follows .mixedOrders = true:=by kernel_rfl
theorem nn_cons {per : FR} {st : List FR} (h : nnR per = true) (hs : ∀ k,k < st.length → nnR (st.getD k default) = true) : ∀ k,k < (per :: st).length → nnR ((per :: st).getD k default) = true:=fun k hk=>by
  cases k with
  | zero=>exact h
  | succ k=>exact hs k (by simpa using hk)
theorem sg_lt {x : Rat} (h : x.num.sign < 0) : x < 0:=(num_sg x).2.2.1 h
theorem sg_ge {x : Rat} (h : ¬ x.num.sign < 0) : 0 ≤ x:=by have:=(num_sg x).2.2.2;grind
theorem skT_get {l : List WT} {p : Rat} {s : List Rat} {j m : Nat} (h : j < m) : (skT l p s m).getD j default = slF l p s j:=by
  unfold skT
  rw [List.getD_eq_getElem?_getD,List.getElem?_map,List.getElem?_range h];rfl
theorem slkQ {m : Nat} {l : List WT} {s : List Rat} {r : FR} : Con Tryz.prog 17 [WTS l,QNS NB s,FX m r] (OKL s.length l ∧ (∀ j,j < l.length → 0 ≤ (l.getD j default).2.2.2 ∧ (l.getD j default).2.2.2 ≤ 8) ∧ m ≤ NB ∧ l.length ≤ 64) (QNS (NB + NB + 1 + (m + 193) + 1) (skT l r.val s l.length)):=.o3 fun hok h1 h2 h3 hp=>by
  refine St.enter (N:=45) Tryz.func17 rfl rfl rfl hok (enter3 h1 h2 h3) fun a=>?_
  have hlim:=LS.lenM h1
  simp only [LIM] at hlim
  have own43 : OwnAt 43:=⟨⟩
  repeat' (first|with_reducible refine W.sep 5 9 25 (some 3) (QC (NB + NB + 1) (s.getD (l.getD j default).2.1.toNat default - s.getD (l.getD j default).1.toNat default)) rfl (fun b a w G=>?_) (fun W1 G1 K hK=>?_)|((with_reducible refine gS_ ?_);first|((with_reducible refine gL_ ?_);first|refine W.run ?_ fun a w G=>?_|refine W.mv fun a w G=>?_|refine W.asg fun a w G=>?_|refine W.bx fun b a w G=>?_|(refine W.nn hK ?_;clear hK K)|refine W.nl ?_|refine W.al fun b a w G=>?_|refine W.st fun w=>?_|refine W.stp fun w=>?_|refine W.ste ?_ fun w=>?_)|((with_reducible refine gC_ ?_);first|refine W.reg fun K hK=>?_|refine W.reg1 ?_|refine W.sq fun K hK=>?_|refine W.ds ?_ (fun β a w G hu=>W.fin ?_ hu) mixedOrders (by kernel_rfl)|refine W.sk ?_|refine W.cd (fun hc=>?_) (fun hc=>?_)|refine W.cb (fun hc=>?_) (fun hc=>?_)|refine W.bl ?_|refine W.ex ?_|refine W.rt ?_)|((with_reducible refine W.kn hK ?_);clear hK K)|(with_reducible first|refine W.bn ?_|refine W.xt ?_|refine W.xb ?_|refine W.xo ?_|refine W.tr ?_|refine W.br ?_)|refine W.rt1 rfl ?_|refine W.rt2 rfl ?_ ?_|refine W.rt3 rfl ?_ ?_ ?_)|((with_reducible refine W.sepN ?_);refine W.sepE hK (by intro p hp;repeat (first|exact hp|apply List.mem_cons_of_mem)))|refine W.lpo 10 (OWNS.nil (k:=some 3) (e:=25)) (T:=QC (NB + NB + 1 + (m + 193) + 1)) (xs0:=[]) (fun j=>l.length - j) (fun j=>j ≤ l.length) (fun j=>skT l r.val s j) [7,8,9,10,11,12,13,14,15,16,17,18,19,20,21,22,23,24,25,26,27,28,29,30,31,32,33,34,35,36,37,38,39,40,41,42,43] (fun j V=>[(8,NT j),(7,.ex V)]) (fun j=>[]) 0 ?_ ?_ ?_ ?_ fun j hj V own a w G hO=>?_|refine W.ds ?_ (fun β a w G hu=>W.fing ?_) mixedOrders (by kernel_rfl)|refine W.ap (mt:=FX 1 default) (T:=QC (NB + NB + 1 + (m + 193) + 1)) hO ?_ fun V own a w G hO=>?_|refine W.ago (K:=fun _ _=>True) (T:=QC (NB + NB + 1 + (m + 193) + 1)) hO (x:=j) (j+1) ?_ ?_ ?_ ?_ ?_|refine W.fzo (T:=QC (NB + NB + 1 + (m + 193) + 1)) 6 hO ?_ fun G=>?_|clear hK K|clear hu|exact True.intro|exact Nat.le_trans (by clear hp;omega) hp|exact Nat.le_trans (by clear hp;omega) hp.1|exact Nat.le_trans (by clear hp;omega) hp.2|(clear hp;omega)|apply And.intro|refine GI.i fun _=>?_|with_reducible rfl|decide|(simp only [List.length_cons,List.length_nil];omega))
  all_goals (try have hoi:=hp.1 j (by omega))
  all_goals (try have htu:=hp.2.1 j (by omega))
  all_goals (try unfold okW at hoi)
  all_goals (try simp only [List.length_map,skT_len,LIM,BIG,NB,List.length_cons,List.length_nil] at *)
  all_goals first
    | omega
    | rfl
    | exact skT_go
    | exact skT_go.symm
    | (have e9 : j = l.length := by omega
       rw [e9])
    | (rw [← sl_get (by omega) (by omega)];exact skT_go)
    | (rw [← sl_get (by omega) (by omega)];exact skT_go.symm)
    | skip
instance {m : Nat} {l : List WT} {s : List Rat} {r : FR} : Con Tryz.prog 17 [WTS l,QNS NB s,FX m r] (OKL s.length l ∧ (∀ j,j < l.length → 0 ≤ (l.getD j default).2.2.2 ∧ (l.getD j default).2.2.2 ≤ 8) ∧ m ≤ NB ∧ l.length ≤ 64) (QNS (NB + NB + 1 + (m + 193) + 1) (skT l r.val s l.length)):=slkQ
theorem slkF {m : Nat} {l : List WT} {st : List FR} {r : FR} : Con Tryz.prog 17 [WTS l,LS (some 3) (st.map (FX m)),FX m r] (OKL st.length l ∧ (∀ j,j < l.length → 0 ≤ (l.getD j default).2.2.2 ∧ (l.getD j default).2.2.2 ≤ 8) ∧ m ≤ NB ∧ l.length ≤ 64) (QNS (m + m + 1 + (m + 193) + 1) (skT l r.val (st.map FR.val) l.length)):=.o3 fun hok h1 h2 h3 hp=>by
  refine St.enter (N:=45) Tryz.func17 rfl rfl rfl hok (enter3 h1 h2 h3) fun a=>?_
  have hlim:=LS.lenM h1
  simp only [LIM] at hlim
  have own43 : OwnAt 43:=⟨⟩
  repeat' (first|with_reducible refine W.sep 5 9 25 (some 3) (QC (m + m + 1) ((st.getD (l.getD j default).2.1.toNat default).val - (st.getD (l.getD j default).1.toNat default).val)) rfl (fun b a w G=>?_) (fun W1 G1 K hK=>?_)|((with_reducible refine gS_ ?_);first|((with_reducible refine gL_ ?_);first|refine W.run ?_ fun a w G=>?_|refine W.mv fun a w G=>?_|refine W.asg fun a w G=>?_|refine W.bx fun b a w G=>?_|(refine W.nn hK ?_;clear hK K)|refine W.nl ?_|refine W.al fun b a w G=>?_|refine W.st fun w=>?_|refine W.stp fun w=>?_|refine W.ste ?_ fun w=>?_)|((with_reducible refine gC_ ?_);first|refine W.reg fun K hK=>?_|refine W.reg1 ?_|refine W.sq fun K hK=>?_|refine W.ds ?_ (fun β a w G hu=>W.fin ?_ hu) mixedOrders (by kernel_rfl)|refine W.sk ?_|refine W.cd (fun hc=>?_) (fun hc=>?_)|refine W.cb (fun hc=>?_) (fun hc=>?_)|refine W.bl ?_|refine W.ex ?_|refine W.rt ?_)|((with_reducible refine W.kn hK ?_);clear hK K)|(with_reducible first|refine W.bn ?_|refine W.xt ?_|refine W.xb ?_|refine W.xo ?_|refine W.tr ?_|refine W.br ?_)|refine W.rt1 rfl ?_|refine W.rt2 rfl ?_ ?_|refine W.rt3 rfl ?_ ?_ ?_)|((with_reducible refine W.sepN ?_);refine W.sepE hK (by intro p hp;repeat (first|exact hp|apply List.mem_cons_of_mem)))|refine W.lpo 10 (OWNS.nil (k:=some 3) (e:=25)) (T:=QC (m + m + 1 + (m + 193) + 1)) (xs0:=[]) (fun j=>l.length - j) (fun j=>j ≤ l.length) (fun j=>skT l r.val (st.map FR.val) j) [7,8,9,10,11,12,13,14,15,16,17,18,19,20,21,22,23,24,25,26,27,28,29,30,31,32,33,34,35,36,37,38,39,40,41,42,43] (fun j V=>[(8,NT j),(7,.ex V)]) (fun j=>[]) 0 ?_ ?_ ?_ ?_ fun j hj V own a w G hO=>?_|refine W.ds ?_ (fun β a w G hu=>W.fing ?_) mixedOrders (by kernel_rfl)|refine W.ap (mt:=FX 1 default) (T:=QC (m + m + 1 + (m + 193) + 1)) hO ?_ fun V own a w G hO=>?_|refine W.ago (K:=fun _ _=>True) (T:=QC (m + m + 1 + (m + 193) + 1)) hO (x:=j) (j+1) ?_ ?_ ?_ ?_ ?_|refine W.fzo (T:=QC (m + m + 1 + (m + 193) + 1)) 6 hO ?_ fun G=>?_|clear hK K|clear hu|exact True.intro|exact Nat.le_trans (by clear hp;omega) hp|exact Nat.le_trans (by clear hp;omega) hp.1|exact Nat.le_trans (by clear hp;omega) hp.2|(clear hp;omega)|apply And.intro|refine GI.i fun _=>?_|with_reducible rfl|decide|(simp only [List.length_cons,List.length_nil];omega))
  all_goals (try have hoi:=hp.1 j (by omega))
  all_goals (try have htu:=hp.2.1 j (by omega))
  all_goals (try unfold okW at hoi)
  all_goals (try simp only [List.length_map,skT_len,LIM,BIG,NB,List.length_cons,List.length_nil] at *)
  all_goals first
    | omega
    | rfl
    | exact skT_go
    | exact skT_go.symm
    | (have e9 : j = l.length := by omega
       rw [e9])
    | (rw [← sl_get (by omega) (by omega)];exact skT_go)
    | (rw [← sl_get (by omega) (by omega)];exact skT_go.symm)
    | skip
instance {m : Nat} {l : List WT} {st : List FR} {r : FR} : Con Tryz.prog 17 [WTS l,LS (some 3) (st.map (FX m)),FX m r] (OKL st.length l ∧ (∀ j,j < l.length → 0 ≤ (l.getD j default).2.2.2 ∧ (l.getD j default).2.2.2 ≤ 8) ∧ m ≤ NB ∧ l.length ≤ 64) (QNS (m + m + 1 + (m + 193) + 1) (skT l r.val (st.map FR.val) l.length)):=slkF
instance {n : Int} {l : List WT} {m : Nat} {per : FR} {st : List FR} {lo : List Int} : Con Tryz.prog 22 [IT n,WTS l,SCX m per st lo] (chW n l = 0 ∧ m ≤ NB ∧ st.length ≤ 60 ∧ lo.length ≤ 60) (IT (vlC n l per st lo)):=.o3 fun hok h1 h2 h3 hp=>by
  refine St.enter (N:=70) Tryz.func22 rfl rfl rfl hok (enter3 h1 h2 h3) fun a=>?_
  have hlim:=LS.lenM h2
  simp only [LIM] at hlim
  repeat' (first|((with_reducible refine gS_ ?_);first|((with_reducible refine gL_ ?_);first|refine W.run ?_ fun a w G=>?_|refine W.mv fun a w G=>?_|refine W.asg fun a w G=>?_|refine W.bx fun b a w G=>?_|(refine W.nn hK ?_;clear hK K)|refine W.nl ?_|refine W.al fun b a w G=>?_|refine W.st fun w=>?_|refine W.stp fun w=>?_|refine W.ste ?_ fun w=>?_)|((with_reducible refine gC_ ?_);first|refine W.reg fun K hK=>?_|refine W.reg1 ?_|refine W.sq fun K hK=>?_|refine W.ds ?_ (fun β a w G hu=>W.fin ?_ hu) mixedOrders (by kernel_rfl)|refine W.sk ?_|refine W.cd (fun hc=>?_) (fun hc=>?_)|refine W.cb (fun hc=>?_) (fun hc=>?_)|refine W.bl ?_|refine W.ex ?_|refine W.rt ?_)|((with_reducible refine W.kn hK ?_);clear hK K)|(with_reducible first|refine W.bn ?_|refine W.xt ?_|refine W.xb ?_|refine W.xo ?_|refine W.tr ?_|refine W.br ?_)|refine W.rt1 rfl ?_|refine W.rt2 rfl ?_ ?_|refine W.rt3 rfl ?_ ?_ ?_)|refine W.lp 24 (α:=Nat) (fun j=>st.length - j) (fun j=>j ≤ st.length ∧ ∀ k,k < j → nnR (st.getD k default) = true) [6,7,24,25,26,27,28,29,30,31,32,33,34,35,36,37,38,39,40,41,42,43,44,45,46] (fun j=>[(7,NT j)]) (fun j=>[]) (0) ?_ ?_ ?_ fun j hj a w G=>?_|refine W.ag (x:=j) (j+1) ?_ ?_ ?_ ?_|refine W.lp 47 (α:=Nat) (fun k=>lo.length - k) (fun k=>k ≤ lo.length ∧ ∀ q,q < k → inB l.length (lo.getD q default) = true) [6,8,47,48,49,50,51,52,53,54,55,56,57,58,59,60,61,62,63,64,65,66,67,68,69] (fun k=>[(8,NT k)]) (fun k=>[]) (0) ?_ ?_ ?_ fun k hk a w G=>?_|refine W.ag (x:=k) (k+1) ?_ ?_ ?_ ?_|clear hK K|clear hu|exact True.intro|exact Nat.le_trans (by clear hp;omega) hp|exact Nat.le_trans (by clear hp;omega) hp.1|exact Nat.le_trans (by clear hp;omega) hp.2|(clear hp;omega)|apply And.intro|refine GI.i fun _=>?_|with_reducible rfl|decide|(simp only [List.length_cons,List.length_nil];omega))
  all_goals (try simp only [LIM,BIG,NB] at *)
  all_goals (try have hst : ¬ (st.length : Int) ≠ n:=by omega)
  all_goals (try have hper : nnR per = true:=nn_f (by assumption))
  all_goals (try have ha:=nn_cons hper (fun k hk=>hj.2 k (by omega)))
  all_goals (try have h10:=vl_10 (per:=per) (lo:=lo) hp.1 (by assumption))
  all_goals (try have h30:=vl_3 (per:=per) (st:=st) (lo:=lo) (j:=0) hp.1 hst (by simp) (by assumption))
  all_goals (try have h3j:=vl_3 (per:=per) (st:=st) (lo:=lo) (j:=j + 1) hp.1 hst (by simp only [List.length_cons];omega) (by assumption))
  all_goals (try have hv0:=vl_0 (per:=per) (st:=st) (lo:=lo) hp.1 hst ha (fun q hq=>hk.2 q (by omega)))
  all_goals (try have hv9:=vl_9 (per:=per) (st:=st) (lo:=lo) (j:=k) hp.1 hst ha (by omega) (by assumption))
  all_goals first
    | omega
    | rfl
    | exact hv0.1
    | exact hv0.1.symm
    | exact hv9.1
    | exact hv9.1.symm
    | exact h10.1.symm
    | exact h30.1.symm
    | exact h3j.1.symm
    | (intro q hq
       rcases Nat.lt_or_eq_of_le (Nat.le_of_lt_succ hq) with e | e
       · exact hj.2 q e
       · subst e;exact nn_f (by assumption))
    | (intro q hq
       rcases Nat.lt_or_eq_of_le (Nat.le_of_lt_succ hq) with e | e
       · exact hk.2 q e
       · subst e;exact inB_y (by assumption))
    | skip
instance {l : List WT} {m : Nat} {per : FR} {st : List FR} {lo : List Int} : Con Tryz.prog 23 [WTS l,SCX m per st lo] (OKL st.length l ∧ INL l lo ∧ (∀ j,j < l.length → 0 ≤ (l.getD j default).2.2.2 ∧ (l.getD j default).2.2.2 ≤ 8) ∧ m ≤ NB ∧ l.length ≤ 64 ∧ st.length ≤ 60 ∧ lo.length ≤ 60) (BT (vfB l per.val (st.map FR.val) lo)):=.o2 fun hok h1 h2 hp=>by
  refine St.enter (N:=92) Tryz.func23 rfl rfl rfl hok (enter2 h1 h2) fun a=>?_
  have hlim:=LS.lenM h1
  simp only [LIM] at hlim
  repeat' (first|((with_reducible refine gS_ ?_);first|((with_reducible refine gL_ ?_);first|refine W.run ?_ fun a w G=>?_|refine W.mv fun a w G=>?_|refine W.asg fun a w G=>?_|refine W.bx fun b a w G=>?_|(refine W.nn hK ?_;clear hK K)|refine W.nl ?_|refine W.al fun b a w G=>?_|refine W.st fun w=>?_|refine W.stp fun w=>?_|refine W.ste ?_ fun w=>?_)|((with_reducible refine gC_ ?_);first|refine W.reg fun K hK=>?_|refine W.reg1 ?_|refine W.sq fun K hK=>?_|refine W.ds ?_ (fun β a w G hu=>W.fin ?_ hu) mixedOrders (by kernel_rfl)|refine W.sk ?_|refine W.cd (fun hc=>?_) (fun hc=>?_)|refine W.cb (fun hc=>?_) (fun hc=>?_)|refine W.bl ?_|refine W.ex ?_|refine W.rt ?_)|((with_reducible refine W.kn hK ?_);clear hK K)|(with_reducible first|refine W.bn ?_|refine W.xt ?_|refine W.xb ?_|refine W.xo ?_|refine W.tr ?_|refine W.br ?_)|refine W.rt1 rfl ?_|refine W.rt2 rfl ?_ ?_|refine W.rt3 rfl ?_ ?_ ?_)|refine W.lp 18 (α:=Nat) (fun i=>l.length - i) (fun i=>i ≤ l.length ∧ ∀ q,q < i → 0 ≤ slF l per.val (st.map FR.val) q) [4,6,18,19,20,21,22,23,24,25,26,27,28,29] (fun i=>[(6,NT i)]) (fun i=>[]) (0) ?_ ?_ ?_ fun i hi a w G=>?_|refine W.ag (x:=i) (i+1) ?_ ?_ ?_ ?_|refine W.lp 39 (α:=Nat) (fun k=>lo.length - k) (fun k=>k ≤ lo.length ∧ ∀ q,q < k → (l.getD (lo.getD q default).toNat default).2.1 = (l.getD (lo.getD ((q + 1) % lo.length) default).toNat default).1) [4,8,9,10,11,39,40,41,42,43,44,45,46,47,48,49,50,51,52,53,54,55,56,57,58,59,60,61,62,63,64,65,66,67,68,69,70,71,72,73,74,75,76,77,78,79] (fun k=>[(9,NT k),(8,IT (tuF l lo k))]) (fun k=>[(7,QC (129 * k + 1) (tiF l lo k))]) (0) ?_ ?_ ?_ fun k hk a w G=>?_|refine W.ag (x:=k) (k+1) ?_ ?_ ?_ ?_|clear hK K|clear hu|exact True.intro|exact Nat.le_trans (by clear hp;omega) hp|exact Nat.le_trans (by clear hp;omega) hp.1|exact Nat.le_trans (by clear hp;omega) hp.2|(clear hp;omega)|apply And.intro|refine GI.i fun _=>?_|with_reducible rfl|decide|(simp only [List.length_cons,List.length_nil];omega))
  all_goals (try simp only [LIM,BIG,NB,skT_len] at *)
  all_goals (try rw [skT_get (by omega)] at *)
  all_goals (try have hm : (k + 1) % lo.length < lo.length:=Nat.mod_lt _ (by omega))
  all_goals (try have hi1:=hp.2.1 k (by omega))
  all_goals (try have hi2:=hp.2.1 ((k + 1) % lo.length) hm)
  all_goals (try have hb:=tu_bd hp.2.2.1 hp.2.1 k (by omega))
  all_goals (try have hb2:=tu_bd hp.2.2.1 hp.2.1 (k + 1) (by omega))
  all_goals (try have hb3 : tuF l lo (k + 1) = tuF l lo k + (l.getD (lo.getD k default).toNat default).2.2.2:=rfl)
  all_goals (try have hsy:=slB_y (l:=l) (p:=per.val) (s:=st.map FR.val) fun q hq=>hi.2 q (by omega))
  all_goals (try have hsn:=slB_n (l:=l) (p:=per.val) (s:=st.map FR.val) (j:=i) (by omega) (fun h9=>by have:=sg_lt (by assumption);grind))
  all_goals (try have hga:=vf_adj (lo:=lo) hsy (by assumption) (j:=k) (by omega) (by assumption))
  all_goals (try have hgz:=vf_z (lo:=lo) hsy (by assumption))
  all_goals (try have hgr:=vf_ref (lo:=lo) hsy (by assumption) (fun q hq=>hk.2 q (by omega)))
  all_goals (try have ek : k = lo.length:=by omega)
  all_goals first
    | omega
    | rfl
    | exact hp.1
    | exact hp.2.2.1
    | exact hgz.symm
    | exact hga.symm
    | (rw [vf_n hsn];done)
    | (rw [hgr,ek];done)
    | (intro q hq
       rcases Nat.lt_or_eq_of_le (Nat.le_of_lt_succ hq) with e | e
       · exact hi.2 q e
       · subst e;exact sg_ge (by assumption))
    | (intro q hq
       rcases Nat.lt_or_eq_of_le (Nat.le_of_lt_succ hq) with e | e
       · exact hk.2 q e
       · subst e;omega)
    | skip
end Go.Proofs.YtjphllpnhjemjaaGreat
set_option linter.unusedVariables false
set_option linter.unusedSimpArgs false
set_option maxHeartbeats 4000000
set_option maxRecDepth 100000
set_option synthInstance.maxSize 100000
set_option synthInstance.maxHeartbeats 400000
namespace Go.Proofs.YtjphllpnhjemjaaGreat
open Go.RowKit (Below)
attribute [local irreducible] Go.Code.wp Go.wpList Go.bodyPost
instance : DecidableEq FR:=fun r s=>decidable_of_iff (r.s = s.s ∧ r.p = s.p ∧ r.q = s.q) ⟨fun h=>by obtain ⟨a,b,c⟩:=r;obtain ⟨d,e,f⟩:=s;simp only at h;obtain ⟨rfl,rfl,rfl⟩:=h;rfl,fun h=>by subst h;exact ⟨rfl,rfl,rfl⟩⟩
theorem FR.eq_dec {r s : FR} : ((r.s == s.s) && decide (r.p = s.p) && decide (r.q = s.q)) = decide (r = s):=by
  rw [Bool.eq_iff_iff,Bool.and_eq_true,Bool.and_eq_true,decide_eq_true_eq,decide_eq_true_eq,decide_eq_true_eq,beq_iff_eq]
  obtain ⟨a,b,c⟩:=r;obtain ⟨d,e,f⟩:=s;simp [and_assoc]
theorem FR.of_inj {x y : Rat} (h : FR.of x = FR.of y) : x = y:=by rw [← FR.of_val (x:=x),h,FR.of_val]
section
variable {α : Type} {l k : List α} {j : Nat}
theorem eq_ln [DecidableEq α] (h : decide (((l.length : Nat) : Int) ≠ ((k.length : Nat) : Int)) = true) : false = decide (l = k):=by
  rw [decide_eq_true_eq] at h;exact (decide_eq_false fun e=>h (by rw [e])).symm
theorem eq_at [Inhabited α] [DecidableEq α] (hj : j < l.length) (hl : l.length = k.length) (h : l.getD j default ≠ k.getD j default) : false = decide (l = k):=(decide_eq_false fun e=>h (by rw [e])).symm
theorem eq_nx [Inhabited α] (hj : j < l.length) (hl : l.length = k.length) (h : l.take j = k.take j) (e : l.getD j default = k.getD j default) : l.take (j + 1) = k.take (j + 1):=by
  rw [List.getD_eq_getElem?_getD,List.getD_eq_getElem?_getD,List.getElem?_eq_getElem hj,List.getElem?_eq_getElem (by omega)] at e
  rw [List.take_add_one,List.take_add_one,h,List.getElem?_eq_getElem hj,List.getElem?_eq_getElem (by omega)]
  simp only [Option.getD_some] at e;rw [e]
theorem eq_en [DecidableEq α] (hj : ¬ j < l.length) (hl : l.length = k.length) (h : l.take j = k.take j) : true = decide (l = k):=by
  rw [List.take_of_length_le (by omega),List.take_of_length_le (by omega)] at h
  exact (decide_eq_true h).symm
end
theorem dig_getD (l : List Nat) (j : Nat) : dig l j = l.getD j default:=rfl
theorem w48 {l k : List Nat} : Con Tryz.prog 48 [SL l,SL k] (True) (BT (decide (l = k))):=.o2 fun hok h1 h2 hp=>by
  refine St.enter (N:=26) Tryz.func48 rfl rfl rfl hok (enter2 h1 h2) fun a=>?_
  have hlim:=SL.lim h1
  have hlim2:=SL.lim h2
  simp only [LIM] at hlim hlim2
  repeat' (first|((with_reducible refine gS_ ?_);first|((with_reducible refine gL_ ?_);first|refine W.run ?_ fun a w G=>?_|refine W.mv fun a w G=>?_|refine W.asg fun a w G=>?_|refine W.bx fun b a w G=>?_|(refine W.nn hK ?_;clear hK K)|refine W.nl ?_|refine W.al fun b a w G=>?_|refine W.st fun w=>?_|refine W.stp fun w=>?_|refine W.ste ?_ fun w=>?_)|((with_reducible refine gC_ ?_);first|refine W.reg fun K hK=>?_|refine W.reg1 ?_|refine W.sq fun K hK=>?_|refine W.ds ?_ (fun β a w G hu=>W.fin ?_ hu) mixedOrders (by kernel_rfl)|refine W.sk ?_|refine W.cd (fun hc=>?_) (fun hc=>?_)|refine W.cb (fun hc=>?_) (fun hc=>?_)|refine W.bl ?_|refine W.ex ?_|refine W.rt ?_)|((with_reducible refine W.kn hK ?_);clear hK K)|(with_reducible first|refine W.bn ?_|refine W.xt ?_|refine W.xb ?_|refine W.xo ?_|refine W.tr ?_|refine W.br ?_)|refine W.rt1 rfl ?_|refine W.rt2 rfl ?_ ?_|refine W.rt3 rfl ?_ ?_ ?_)|refine W.lp 11 (α:=Nat) (fun j=>l.length - j) (fun j=>j ≤ l.length ∧ l.take j = k.take j) [4,5,11,12,13,14,15,16,17,18,19,20,21,22,23,24,25] (fun j=>[(5,NT j)]) (fun j=>[]) (0) ?_ ?_ ?_ fun j hj a w G=>?_|refine W.ag (x:=j) (j+1) ?_ ?_ ?_ ?_|clear hK K|clear hu|exact True.intro|exact Nat.le_trans (by clear hp;omega) hp|exact Nat.le_trans (by clear hp;omega) hp.1|exact Nat.le_trans (by clear hp;omega) hp.2|(clear hp;omega)|apply And.intro|refine GI.i fun _=>?_|with_reducible rfl|decide|(simp only [List.length_cons,List.length_nil];omega))
  all_goals first
    | exact eq_ln (decide_eq_true hc)
    | (simp;done)
    | (exact (decide_eq_false fun e=>hc (by rw [e])).symm)
    | (have hle : l.length = k.length := by (have h0 : ¬ ((l.length : Nat) : Int) ≠ ((k.length : Nat) : Int) := by assumption); omega
       first
       | omega
       | exact eq_en (by omega) hle hj.2
       | ((simp only [Int.toNat_natCast,dig_getD] at *);first
         | exact eq_at (by omega) hle (by assumption)
         | exact eq_nx (by omega) hle hj.2 (Classical.not_not.1 (by assumption))))
    | skip
instance {l k : List Nat} {τ1 : MT} [j1 : NL τ1 (SL l)] {τ2 : MT} [j2 : NL τ2 (SL k)] : Con Tryz.prog 48 [τ1,τ2] (True) (BT (decide (l = k))):=.o2 fun hok h1 h2 hp=>w48.c2 hok (j1.h h1) (j2.h h2) hp
theorem w20 {r s : FR} : Con Tryz.prog 20 [RX r,RX s] (True) (BT (decide (r = s))):=.o2 fun hok h1 h2 hp=>by
  refine St.enter (N:=24) Tryz.func20 rfl rfl rfl hok (enter2 h1 h2) fun a=>?_
  repeat' (first|((with_reducible refine gS_ ?_);first|((with_reducible refine gL_ ?_);first|refine W.run ?_ fun a w G=>?_|refine W.mv fun a w G=>?_|refine W.asg fun a w G=>?_|refine W.bx fun b a w G=>?_|(refine W.nn hK ?_;clear hK K)|refine W.nl ?_|refine W.al fun b a w G=>?_|refine W.st fun w=>?_|refine W.stp fun w=>?_|refine W.ste ?_ fun w=>?_)|((with_reducible refine gC_ ?_);first|refine W.reg fun K hK=>?_|refine W.reg1 ?_|refine W.sq fun K hK=>?_|refine W.ds ?_ (fun β a w G hu=>W.fin ?_ hu) mixedOrders (by kernel_rfl)|refine W.sk ?_|refine W.cd (fun hc=>?_) (fun hc=>?_)|refine W.cb (fun hc=>?_) (fun hc=>?_)|refine W.bl ?_|refine W.ex ?_|refine W.rt ?_)|((with_reducible refine W.kn hK ?_);clear hK K)|(with_reducible first|refine W.bn ?_|refine W.xt ?_|refine W.xb ?_|refine W.xo ?_|refine W.tr ?_|refine W.br ?_)|refine W.rt1 rfl ?_|refine W.rt2 rfl ?_ ?_|refine W.rt3 rfl ?_ ?_ ?_)|clear hK K|clear hu|exact True.intro|exact Nat.le_trans (by clear hp;omega) hp|exact Nat.le_trans (by clear hp;omega) hp.1|exact Nat.le_trans (by clear hp;omega) hp.2|(clear hp;omega)|apply And.intro|refine GI.i fun _=>?_|with_reducible rfl|decide|(simp only [List.length_cons,List.length_nil];omega))
  all_goals first | exact FR.eq_dec | skip
instance {r s : FR} {τ1 : MT} [j1 : NR τ1 (RX r)] {τ2 : MT} [j2 : NR τ2 (RX s)] : Con Tryz.prog 20 [τ1,τ2] (True) (BT (decide (r = s))):=.o2 fun hok h1 h2 hp=>w20.c2 hok (j1.h h1) (j2.h h2) hp
theorem w16 {xs ys : List FR} : Con Tryz.prog 16 [LS (some 3) (xs.map RX),LS (some 3) (ys.map RX)] (True) (BT (decide (xs = ys))):=.o2 fun hok h1 h2 hp=>by
  refine St.enter (N:=27) Tryz.func16 rfl rfl rfl hok (enter2 h1 h2) fun a=>?_
  have hlim:=LS.lenM h1
  have hlim2:=LS.lenM h2
  simp only [LIM] at hlim hlim2
  repeat' (first|((with_reducible refine gS_ ?_);first|((with_reducible refine gL_ ?_);first|refine W.run ?_ fun a w G=>?_|refine W.mv fun a w G=>?_|refine W.asg fun a w G=>?_|refine W.bx fun b a w G=>?_|(refine W.nn hK ?_;clear hK K)|refine W.nl ?_|refine W.al fun b a w G=>?_|refine W.st fun w=>?_|refine W.stp fun w=>?_|refine W.ste ?_ fun w=>?_)|((with_reducible refine gC_ ?_);first|refine W.reg fun K hK=>?_|refine W.reg1 ?_|refine W.sq fun K hK=>?_|refine W.ds ?_ (fun β a w G hu=>W.fin ?_ hu) mixedOrders (by kernel_rfl)|refine W.sk ?_|refine W.cd (fun hc=>?_) (fun hc=>?_)|refine W.cb (fun hc=>?_) (fun hc=>?_)|refine W.bl ?_|refine W.ex ?_|refine W.rt ?_)|((with_reducible refine W.kn hK ?_);clear hK K)|(with_reducible first|refine W.bn ?_|refine W.xt ?_|refine W.xb ?_|refine W.xo ?_|refine W.tr ?_|refine W.br ?_)|refine W.rt1 rfl ?_|refine W.rt2 rfl ?_ ?_|refine W.rt3 rfl ?_ ?_ ?_)|refine W.lp 11 (α:=Nat) (fun j=>xs.length - j) (fun j=>j ≤ xs.length ∧ xs.take j = ys.take j) [4,5,11,12,13,14,15,16,17,18,19,20,21,22,23,24,25,26] (fun j=>[(5,NT j)]) (fun j=>[]) (0) ?_ ?_ ?_ fun j hj a w G=>?_|refine W.ag (x:=j) (j+1) ?_ ?_ ?_ ?_|clear hK K|clear hu|exact True.intro|exact Nat.le_trans (by clear hp;omega) hp|exact Nat.le_trans (by clear hp;omega) hp.1|exact Nat.le_trans (by clear hp;omega) hp.2|(clear hp;omega)|apply And.intro|refine GI.i fun _=>?_|with_reducible rfl|decide|(simp only [List.length_cons,List.length_nil];omega))
  all_goals first
    | exact eq_ln (decide_eq_true hc)
    | (simp;done)
    | (exact (decide_eq_false fun e=>hc (by rw [e])).symm)
    | (have hle : xs.length = ys.length := by (have h0 : ¬ ((xs.length : Nat) : Int) ≠ ((ys.length : Nat) : Int) := by assumption); omega
       first
       | omega
       | exact eq_en (by omega) hle hj.2
       | (first
         | (refine eq_at (j:=j) (by omega) hle ?_;simp only [Bool.not_eq_true',decide_eq_false_iff_not] at hc;exact hc)
         | exact eq_nx (by omega) hle hj.2 (by simpa using hc)))
    | skip
instance {xs ys : List FR} {τ1 : MT} [j1 : NR τ1 (LS (some 3) (xs.map RX))] {τ2 : MT} [j2 : NR τ2 (LS (some 3) (ys.map RX))] : Con Tryz.prog 16 [τ1,τ2] (True) (BT (decide (xs = ys))):=.o2 fun hok h1 h2 hp=>w16.c2 hok (j1.h h1) (j2.h h2) hp
abbrev LFR (l : List FR) : MT:=LS (some 3) (l.map RX)
instance {l : List FR} : AsT (LS (some 3) (l.map RX)) LFR l:=⟨fun h=>h⟩
theorem NM.lfr {n : Nat} {l : List Rat} {v : Value} {G : Gh} (h : (NM n l).t v G) : (LFR (l.map FR.of)).t v G:=LS.convM (T:=QC n) (U:=RX) (f:=FR.of) h (by simp) fun x hx v G hv=>FX.toRX (QC.toFX hv (one_le_of_lt x.den_nz hv.1.2))
instance NR.nm {n : Nat} {l : List Rat} : NR (LS (some 3) (l.map (QC n))) (LS (some 3) ((l.map FR.of).map RX)):=⟨NM.lfr⟩
instance NR.rts {n : Nat} {rs : List (List Rat)} : NR (LS none (rs.map (NM n))) (LS none ((rs.map (List.map FR.of)).map LFR)):=⟨fun h=>LS.convM (T:=NM n) (U:=LFR) (f:=List.map FR.of) h (by simp) fun x hx v G hv=>NM.lfr hv⟩
theorem mof_inj {l k : List Rat} (h : l.map FR.of = k.map FR.of) : l = k:=by
  induction l generalizing k with
  | nil=>cases k with
    | nil=>rfl
    | cons y k=>cases h
  | cons x l ih=>cases k with
    | nil=>cases h
    | cons y k=>simp only [List.map_cons,List.cons.injEq] at h;rw [FR.of_inj h.1,ih h.2]
theorem mof_dec {l k : List Rat} : decide (l.map FR.of = k.map FR.of) = decide (l = k):=decide_eq_decide.2 ⟨mof_inj,fun h=>by rw [h]⟩
theorem PTS.lenL {α : Type} {T : α → MT} {xs : List α} {v : Value} {G : Gh} (h : (PTS [(none,LS none (xs.map T))]).t v G) : xs.length ≤ LIM:=by
  obtain ⟨us,_,hl,hE⟩:=h
  match us,hl with
  | u :: us,_=>exact LS.lenM (hE 0 _ u rfl rfl).2
instance (priority:=1100) {n m : Nat} {l k : List Rat} {τ1 τ2 : MT} [j1 : NU τ1 (NM n l)] [j2 : NU τ2 (NM m k)] : Con Tryz.prog 16 [τ1,τ2] True (BT (decide (l = k))):=.o2 fun hok h1 h2 hp=>by
  have:=(inferInstance : Con Tryz.prog 16 [NM n l,NM m k] _ _).c2 hok (j1.h h1) (j2.h h2) hp
  rwa [mof_dec] at this
end Go.Proofs.YtjphllpnhjemjaaGreat
set_option linter.unusedVariables false
set_option linter.unusedSimpArgs false
set_option maxHeartbeats 4000000
set_option maxRecDepth 100000
set_option synthInstance.maxSize 100000
set_option synthInstance.maxHeartbeats 400000
namespace Go.Proofs.YtjphllpnhjemjaaGreat
open Go.RowKit (Below)
attribute [local irreducible] Go.Code.wp Go.wpList Go.bodyPost
def lgR (r : FR) : Bool:=decide (((r.p.length : Nat) : Int) + ((r.q.length : Nat) : Int) > 4)
def lrg (l : List WT) : Bool:=if 16 < l.length then (decide (((l.length : Nat) : Int) ≤ 64) || decide (((l.length : Nat) : Int) > 200)) else l.any fun w=>lgR w.2.2.1
theorem lrg_1 {l : List WT} (h : ((l.length : Nat) : Int) > 16) : lrg l = (decide (((l.length : Nat) : Int) ≤ 64) || decide (((l.length : Nat) : Int) > 200)):=if_pos (by omega)
theorem lrg_0 {l : List WT} (h : ¬ ((l.length : Nat) : Int) > 16) : lrg l = l.any fun w=>lgR w.2.2.1:=if_neg (by omega)
theorem lrg_t {l : List WT} {j : Nat} (h : ¬ ((l.length : Nat) : Int) > 16) (hj : j < l.length) (h2 : lgR (l.getD j default).2.2.1 = true) : lrg l = true:=by
  rw [lrg_0 h,List.any_eq_true]
  rw [List.getD_eq_getElem?_getD,List.getElem?_eq_getElem hj,Option.getD_some] at h2
  exact ⟨_,List.getElem_mem hj,h2⟩
theorem lrg_f {l : List WT} (h : ¬ ((l.length : Nat) : Int) > 16) (h2 : ∀ j,j < l.length → lgR (l.getD j default).2.2.1 = false) : lrg l = false:=by
  rw [lrg_0 h,List.any_eq_false]
  intro w hw
  obtain ⟨j,hj,rfl⟩:=List.mem_iff_getElem.1 hw
  have:=h2 j hj
  rw [List.getD_eq_getElem?_getD,List.getElem?_eq_getElem hj,Option.getD_some] at this
  rw [this];decide
theorem val128 {l : List Nat} (hw : wfl l) (h : l.length ≤ 4) : Go.Proofs.YtjphllpnhjemjaaGreat.val l < 2 ^ 128:=by
  have h1:=val_lt hw
  exact Nat.lt_of_lt_of_le h1 (by have:=Nat.pow_le_pow_right (show 0 < 2 by decide) (show 32 * l.length ≤ 128 by omega);first | exact this | (rw [← Nat.pow_mul] ;exact this) | (refine Nat.le_trans ?_ this;rw [Nat.pow_mul];exact Nat.le_refl _))
theorem RX.toFX4 {r : FR} {v : Value} {G : Gh} (h : (RX r).t v G) (hs : lgR r = false) : (FX 128 r).t v G:=by
  have hs:=of_decide_eq_false hs
  obtain ⟨x,y,e,hp,hq⟩:=h
  exact ⟨by decide,val128 (SL.wf hp) (by omega),val128 (SL.wf hq) (by omega),x,y,e,hp,hq⟩
instance NS.f4 {r : FR} : NS (RX r) (FX 128 r) (lgR r = false):=⟨fun hs h=>RX.toFX4 h hs⟩
theorem WRS.to {l : List WT} {v : Value} {G : Gh} (h : (WRS l).t v G) (hs : ∀ w ∈ l,lgR w.2.2.1 = false) : (WTS l).t v G :=
  LS.convM (T:=WRX) (U:=WTX) (f:=fun w=>w) h (by simp) fun w hw v G hv=>by
    have:=hs w hw
    exact NS.h (τ:=WRX w) (τ':=WTX w) (by simpa using this) hv
theorem lrg_s {l : List WT} (h : lrg l = false) (hl : l.length ≤ 16) : ∀ w ∈ l,lgR w.2.2.1 = false:=by
  rw [lrg_0 (by omega),List.any_eq_false] at h
  intro w hw
  simpa using h w hw
instance NR.wts {l : List WT} : NR (WTS l) (WRS l):=⟨fun h=>LS.convM (T:=WTX) (U:=WRX) (f:=fun w=>w) h (by simp) fun w hw v G hv=>NR.h (τ:=WTX w) (τ':=WRX w) hv⟩
theorem w8 {r : FR} : Con Tryz.prog 8 [RX r] (True) (BT (lgR r)):=.o1 fun hok h1 hp=>by
  refine St.enter (N:=11) Tryz.func8 rfl rfl rfl hok (enter1 h1) fun a=>?_
  have hl1 : r.p.length ≤ LIM ∧ r.q.length ≤ LIM:=by obtain ⟨x,y,e,hp2,hq2⟩:=h1;exact ⟨SL.lim hp2,SL.lim hq2⟩
  simp only [LIM] at hl1
  repeat' (first|((with_reducible refine gS_ ?_);first|((with_reducible refine gL_ ?_);first|refine W.run ?_ fun a w G=>?_|refine W.mv fun a w G=>?_|refine W.asg fun a w G=>?_|refine W.bx fun b a w G=>?_|(refine W.nn hK ?_;clear hK K)|refine W.nl ?_|refine W.al fun b a w G=>?_|refine W.st fun w=>?_|refine W.stp fun w=>?_|refine W.ste ?_ fun w=>?_)|((with_reducible refine gC_ ?_);first|refine W.reg fun K hK=>?_|refine W.reg1 ?_|refine W.sq fun K hK=>?_|refine W.ds ?_ (fun β a w G hu=>W.fin ?_ hu) mixedOrders (by kernel_rfl)|refine W.sk ?_|refine W.cd (fun hc=>?_) (fun hc=>?_)|refine W.cb (fun hc=>?_) (fun hc=>?_)|refine W.bl ?_|refine W.ex ?_|refine W.rt ?_)|((with_reducible refine W.kn hK ?_);clear hK K)|(with_reducible first|refine W.bn ?_|refine W.xt ?_|refine W.xb ?_|refine W.xo ?_|refine W.tr ?_|refine W.br ?_)|refine W.rt1 rfl ?_|refine W.rt2 rfl ?_ ?_|refine W.rt3 rfl ?_ ?_ ?_)|clear hK K|clear hu|exact True.intro|exact Nat.le_trans (by clear hp;omega) hp|exact Nat.le_trans (by clear hp;omega) hp.1|exact Nat.le_trans (by clear hp;omega) hp.2|(clear hp;omega)|apply And.intro|refine GI.i fun _=>?_|with_reducible rfl|decide|(simp only [List.length_cons,List.length_nil];omega))
  all_goals first | omega | rfl | skip
instance {r : FR} {τ1 : MT} [j1 : NR τ1 (RX r)] : Con Tryz.prog 8 [τ1] (True) (BT (lgR r)):=.o1 fun hok h1 hp=>w8.c1 hok (j1.h h1) hp
theorem w7 {l : List WT} : Con Tryz.prog 7 [WRS l] (True) (BT (lrg l)):=.o1 fun hok h1 hp=>by
  refine St.enter (N:=27) Tryz.func7 rfl rfl rfl hok (enter1 h1) fun a=>?_
  have hlim:=LS.lenM h1
  simp only [LIM] at hlim
  repeat' (first|((with_reducible refine gS_ ?_);first|((with_reducible refine gL_ ?_);first|refine W.run ?_ fun a w G=>?_|refine W.mv fun a w G=>?_|refine W.asg fun a w G=>?_|refine W.bx fun b a w G=>?_|(refine W.nn hK ?_;clear hK K)|refine W.nl ?_|refine W.al fun b a w G=>?_|refine W.st fun w=>?_|refine W.stp fun w=>?_|refine W.ste ?_ fun w=>?_)|((with_reducible refine gC_ ?_);first|refine W.reg fun K hK=>?_|refine W.reg1 ?_|refine W.sq fun K hK=>?_|refine W.ds ?_ (fun β a w G hu=>W.fin ?_ hu) mixedOrders (by kernel_rfl)|refine W.sk ?_|refine W.cd (fun hc=>?_) (fun hc=>?_)|refine W.cb (fun hc=>?_) (fun hc=>?_)|refine W.bl ?_|refine W.ex ?_|refine W.rt ?_)|((with_reducible refine W.kn hK ?_);clear hK K)|(with_reducible first|refine W.bn ?_|refine W.xt ?_|refine W.xb ?_|refine W.xo ?_|refine W.tr ?_|refine W.br ?_)|refine W.rt1 rfl ?_|refine W.rt2 rfl ?_ ?_|refine W.rt3 rfl ?_ ?_ ?_)|refine W.lp 15 (α:=Nat) (fun j=>l.length - j) (fun j=>j ≤ l.length ∧ ∀ k,k < j → lgR (l.getD k default).2.2.1 = false) [2,3,15,16,17,18,19,20,21,22,23,24,25,26] (fun j=>[(3,NT j)]) (fun j=>[]) (0) ?_ ?_ ?_ fun j hj a w G=>?_|refine W.ag (x:=j) (j+1) ?_ ?_ ?_ ?_|clear hK K|clear hu|exact True.intro|exact Nat.le_trans (by clear hp;omega) hp|exact Nat.le_trans (by clear hp;omega) hp.1|exact Nat.le_trans (by clear hp;omega) hp.2|(clear hp;omega)|apply And.intro|refine GI.i fun _=>?_|with_reducible rfl|decide|(simp only [List.length_cons,List.length_nil];omega))
  all_goals first
    | omega
    | rfl
    | exact (lrg_1 (by assumption)).symm
    | exact (lrg_t (j:=j) (by assumption) (by omega) (decide_eq_true (by assumption))).symm
    | exact (lrg_f (by assumption) fun q hq=>hj.2 q (by omega)).symm
    | (intro q hq
       rcases Nat.lt_or_eq_of_le (Nat.le_of_lt_succ hq) with e | e
       · exact hj.2 q e
       · subst e;exact decide_eq_false (by assumption))
    | skip
instance {l : List WT} {τ1 : MT} [j1 : NR τ1 (WRS l)] : Con Tryz.prog 7 [τ1] (True) (BT (lrg l)):=.o1 fun hok h1 hp=>w7.c1 hok (j1.h h1) hp
theorem exA_ch : chW 2 exA = 0:=by decide +kernel
theorem exA_lc : lcE 2 exA = 0 ∧ lcP 2 exA = 5 ∧ lcS 2 exA = [0,3]:=by
  unfold lcE lcP lcS
  rw [if_pos exA_ch,if_pos exA_ch,if_pos exA_ch]
  exact exA_l
theorem exA_gv : gvC 2 exA (FR.of 4) = 0:=by
  unfold gvC
  rw [if_pos exA_ch,if_pos (by unfold nnR;rw [FR.of_ok,FR.of_val];decide +kernel)]
theorem exA_st : stC 2 exA (FR.of 4) = 16:=by
  unfold stC
  rw [if_pos exA_gv,FR.of_val]
  exact if_pos exA_4
theorem wtx_mk {n : Nat} {x : Rat} {a b c : Int} (hn : n ≤ 128) {v : Value} {G : Gh} (h : (PTS [(none,IT a),(none,IT b),(some 3,QC n x),(none,IT c)]).t v G) : (WTX (a,b,FR.of x,c)).t v G:=by
  obtain ⟨us,e1,h1,h2⟩:=h
  refine ⟨us,e1,h1,fun i p u hp hu=>?_⟩
  match i,hp with
  | 0,hp=>cases hp;exact h2 0 _ u rfl hu
  | 1,hp=>cases hp;exact h2 1 _ u rfl hu
  | 2,hp=>cases hp;obtain ⟨d1,d2⟩:=h2 2 _ u rfl hu;exact ⟨d1,FX.up (QC.toFX d2 (one_le_of_lt x.den_nz d2.1.2)) hn⟩
  | 3,hp=>cases hp;exact h2 3 _ u rfl hu
  | i + 4,hp=>cases hp
instance {n : Nat} {x : Rat} {a b c : Int} : Fit (PTS [(none,IT a),(none,IT b),(some 3,QC n x),(none,IT c)]) WTX (a,b,FR.of x,c) (n ≤ 128):=⟨fun e _ _ h=>wtx_mk e h⟩
theorem exaw  : Con Tryz.prog 24 [] (True) (LS (some 6) (([(0,1,FR.of 3,0),(1,0,FR.of 2,1)] : List WT).map WTX)):=.o0 fun hok  hp=>by
  refine St.enter (N:=6) Tryz.func24 rfl rfl rfl hok enter0 fun a=>?_
  repeat' (first|((with_reducible refine gS_ ?_);first|((with_reducible refine gL_ ?_);first|refine W.run ?_ fun a w G=>?_|refine W.mv fun a w G=>?_|refine W.asg fun a w G=>?_|refine W.bx fun b a w G=>?_|(refine W.nn hK ?_;clear hK K)|refine W.nl ?_|refine W.al fun b a w G=>?_|refine W.st fun w=>?_|refine W.stp fun w=>?_|refine W.ste ?_ fun w=>?_)|((with_reducible refine gC_ ?_);first|refine W.reg fun K hK=>?_|refine W.reg1 ?_|refine W.sq fun K hK=>?_|refine W.ds ?_ (fun β a w G hu=>W.fin ?_ hu) mixedOrders (by kernel_rfl)|refine W.sk ?_|refine W.cd (fun hc=>?_) (fun hc=>?_)|refine W.cb (fun hc=>?_) (fun hc=>?_)|refine W.bl ?_|refine W.ex ?_|refine W.rt ?_)|((with_reducible refine W.kn hK ?_);clear hK K)|(with_reducible first|refine W.bn ?_|refine W.xt ?_|refine W.xb ?_|refine W.xo ?_|refine W.tr ?_|refine W.br ?_)|refine W.rt1 rfl ?_|refine W.rt2 rfl ?_ ?_|refine W.rt3 rfl ?_ ?_ ?_)|clear hK K|clear hu|exact True.intro|exact Nat.le_trans (by clear hp;omega) hp|exact Nat.le_trans (by clear hp;omega) hp.1|exact Nat.le_trans (by clear hp;omega) hp.2|(clear hp;omega)|apply And.intro|refine GI.i fun _=>?_|with_reducible rfl|decide|(simp only [List.length_cons,List.length_nil];omega))
  all_goals first | omega | rfl | decide | skip
theorem exA_eq : ([(0,1,FR.of 3,0),(1,0,FR.of 2,1)] : List WT) = exA:=by decide +kernel
instance : Con Tryz.prog 24 [] True (WTS exA):=.o0 fun hok hp=>by have h:=exaw.h (vs:=[]) hok trivial hp;rw [exA_eq] at h;exact h
instance  : Con Tryz.prog 6 [] (True) (BT true):=.o0 fun hok  hp=>by
  refine St.enter (N:=36) Tryz.func6 rfl rfl rfl hok enter0 fun a=>?_
  repeat' (first|((with_reducible refine gS_ ?_);first|((with_reducible refine gL_ ?_);first|refine W.run ?_ fun a w G=>?_|refine W.mv fun a w G=>?_|refine W.asg fun a w G=>?_|refine W.bx fun b a w G=>?_|(refine W.nn hK ?_;clear hK K)|refine W.nl ?_|refine W.al fun b a w G=>?_|refine W.st fun w=>?_|refine W.stp fun w=>?_|refine W.ste ?_ fun w=>?_)|((with_reducible refine gC_ ?_);first|refine W.reg fun K hK=>?_|refine W.reg1 ?_|refine W.sq fun K hK=>?_|refine W.ds ?_ (fun β a w G hu=>W.fin ?_ hu) mixedOrders (by kernel_rfl)|refine W.sk ?_|refine W.cd (fun hc=>?_) (fun hc=>?_)|refine W.cb (fun hc=>?_) (fun hc=>?_)|refine W.bl ?_|refine W.ex ?_|refine W.rt ?_)|((with_reducible refine W.kn hK ?_);clear hK K)|(with_reducible first|refine W.bn ?_|refine W.xt ?_|refine W.xb ?_|refine W.xo ?_|refine W.tr ?_|refine W.br ?_)|refine W.rt1 rfl ?_|refine W.rt2 rfl ?_ ?_|refine W.rt3 rfl ?_ ?_ ?_)|clear hK K|clear hu|exact True.intro|exact Nat.le_trans (by clear hp;omega) hp|exact Nat.le_trans (by clear hp;omega) hp.1|exact Nat.le_trans (by clear hp;omega) hp.2|(clear hp;omega)|apply And.intro|refine GI.i fun _=>?_|with_reducible rfl|decide|(simp only [List.length_cons,List.length_nil];omega))
  all_goals first
    | omega
    | (rw [exA_lc.1,exA_lc.2.1,exA_lc.2.2,exA_st];decide +kernel)
    | decide
    | skip
end Go.Proofs.YtjphllpnhjemjaaGreat
