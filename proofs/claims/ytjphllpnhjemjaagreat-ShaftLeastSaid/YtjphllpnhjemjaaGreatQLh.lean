import Derived.Shelf.Slices.Reverse
import Derived.Test.YtjphllpnhjemjaaGreatProg
import Derived.Test.YtjphllpnhjemjaaGreatQLg
set_option linter.unusedVariables false
set_option linter.unusedSimpArgs false
set_option linter.unusedVariables false
set_option linter.unusedSimpArgs false
set_option maxHeartbeats 4000000
set_option maxRecDepth 100000
set_option synthInstance.maxSize 100000
set_option synthInstance.maxHeartbeats 400000
namespace Go.Proofs.YtjphllpnhjemjaaGreat
open Go.RowKit (Below)
attribute [local irreducible] Go.Code.wp Go.wpList Go.bodyPost
private theorem gS_ {W0 : World} {G0 : Gh} {N : Nat} {L : List (Nat × MT)} {B : List BX} {a : Act} {w : World} {G : Gh} {q : Prop} (h : St W0 G0 N L B a w G → q) : St W0 G0 N L B a w G → q:=h
private theorem gL_ {p : Prop} {P : Program} {arr : Array Oper} {Q : Exit → Act → World → Prop} {l : List Oper} {a : Act} {w : World} (h : p → wpList P arr Q l a w) : p → wpList P arr Q l a w:=h
private theorem gC_ {p : Prop} {P : Program} {c : Code} {Q : Exit → Act → World → Prop} {a : Act} {w : World} (h : p → c.wp P Q a w) : p → c.wp P Q a w:=h
private theorem mixedOrders : Tryz.prog.follows .mixedOrders = true:=by kernel_rfl
theorem qb.mul {n m : Nat} {x y : Rat} (hx : qb n x) (hy : qb m y) : qb (n + m) (x * y):=by
  have e : x * y = mkRat (x.num * y.num) (x.den * y.den):=by rw [Rat.mul_def,Rat.normalize_eq_mkRat]
  have h:=Rat.num_den_le (x.num * y.num) (x.den * y.den) (Nat.mul_ne_zero x.den_nz y.den_nz)
  rw [← e] at h
  have e1 : 2 ^ (n + m) = 2 ^ n * 2 ^ m:=Nat.pow_add ..
  constructor
  · refine Nat.lt_of_le_of_lt h.1 ?_
    rw [Int.natAbs_mul,e1]
    exact Nat.mul_lt_mul_of_lt_of_lt hx.1 hy.1
  · refine Nat.lt_of_le_of_lt h.2 ?_
    rw [e1];exact Nat.mul_lt_mul_of_lt_of_lt hx.2 hy.2
theorem qb.neg {n : Nat} {x : Rat} (h : qb n x) : qb n (-x):=⟨by rw [Rat.neg_num,Int.natAbs_neg];exact h.1,by rw [Rat.neg_den];exact h.2⟩
theorem qb_tn {t : Int} (h : 0 ≤ t ∧ t ≤ 8) : qb 4 (t : Rat):=⟨by show (t : Rat).num.natAbs < _;rw [Rat.num_intCast];have : (2 : Nat) ^ 4 = 16:=rfl;omega,by show (t : Rat).den < _;rw [Rat.den_intCast];decide⟩
theorem wg_qb {w : WT} {p : Rat} (hw : qb 128 w.2.2.1.val) (hp : qb 2200 p) (ht : 0 ≤ w.2.2.2 ∧ w.2.2.2 ≤ 8) : qb 2400 (wgW p w):=by
  unfold wgW
  rw [Rat.sub_eq_add_neg]
  exact ((hw.add ((qb_tn ht).mul hp).neg)).up (by decide)
theorem FX.qb {n : Nat} {r : FR} {v : Value} {G : Gh} (h : (FX n r).t v G) : Go.Proofs.YtjphllpnhjemjaaGreat.qb n r.val:=by
  obtain ⟨h1,h2,h3,_⟩:=h
  have p2 : 2 ≤ 2 ^ n:=by have:=Nat.pow_le_pow_right (show 0 < 2 by decide) h1;omega
  show Go.Proofs.YtjphllpnhjemjaaGreat.qb n (qval r.s r.p r.q)
  unfold qval
  split
  · rename_i hc
    have hq : Go.Proofs.YtjphllpnhjemjaaGreat.val r.q ≠ 0:=by
      intro h0
      have h9:=hc.1
      unfold qok at h9
      rw [if_neg (fun e=>hc.2 e.1)] at h9
      simp only [Bool.and_eq_true,bne_iff_ne,decide_eq_true_eq,ne_eq,beq_iff_eq] at h9
      have hg:=h9.2
      rw [h0,Nat.gcd_zero_right] at hg
      have hcq:=h9.1.2
      have hqn:=h9.1.1.1.2
      exact hqn (val_eq_zero hcq h0)
    have h:=Rat.num_den_le (if r.s then -(Go.Proofs.YtjphllpnhjemjaaGreat.val r.p : Int) else Go.Proofs.YtjphllpnhjemjaaGreat.val r.p) (Go.Proofs.YtjphllpnhjemjaaGreat.val r.q) hq
    refine ⟨Nat.lt_of_le_of_lt h.1 ?_,Nat.lt_of_le_of_lt h.2 h3⟩
    split
    · rw [Int.natAbs_neg,Int.natAbs_natCast];exact h2
    · rw [Int.natAbs_natCast];exact h2
  · exact ⟨by show (0 : Nat) < _;omega,by show (1 : Nat) < _;omega⟩
theorem wts_qb {l : List WT} {v : Value} {G : Gh} (h : (WTS l).t v G) : ∀ j,j < l.length → qb 128 (l.getD j default).2.2.1.val:=fun j hj=>by
  obtain ⟨A,c,us,h1,h2,h3,h4,h5⟩:=LS.vals h
  have hju : j < us.length:=by rw [h4.1,List.length_map];exact hj
  have h6:=(h4.2 j (WTX (l.getD j default)) us[j] (by rw [List.getElem?_map,List.getElem?_eq_getElem hj];simp [hj]) (List.getElem?_eq_getElem hju)).2
  obtain ⟨us',e1,hl,hE⟩:=h6
  match us',hl,hE with
  | [a,b,c,d],_,hE=>exact FX.qb (hE 2 _ c rfl rfl).2
theorem wts_w {l : List WT} {p : Rat} {v u : Value} {G G' : Gh} (h : (WTS l).t v G) (hp : (QC 2200 p).t u G') (ht : ∀ j,j < l.length → 0 ≤ (l.getD j default).2.2.2 ∧ (l.getD j default).2.2.2 ≤ 8) : ∀ j,j < l.length → qb 2400 (wgW p (l.getD j default)):=fun j hj=>wg_qb (wts_qb h j hj) hp.1 (ht j hj)
theorem QC.re {n m : Nat} {x : Rat} (hq : qb m x) {v : Value} {G : Gh} (h : (QC n x).t v G) : (QC m x).t v G:=⟨hq,h.2⟩
abbrev NB : Nat:=2612288 + 1
instance : AsT (FX 1 default) (QC NB) 0:=⟨fun h=>(Cv.fq (n:=1) (k:=NB)).h ⟨by decide,rfl,rfl⟩ h⟩
theorem x_qb {n : Nat} {l : List WT} {p : Rat} (hl : OKL n l) (hL : l.length ≤ 64) (hn : n ≤ 16) (hw : ∀ j, j < l.length → qb 2400 (wgW p (l.getD j default))) {k i : Nat} (hk : k ≤ n) (hi : i < l.length) :
    qb NB ((rdF l p (roF n l p k).1 (roF n l p k).2 i).1.getD (l.getD i default).1.toNat default + wgW p (l.getD i default)):=by
  have h:=rd_qb (t:=k * l.length) (b:=(roF n l p k).2) hl roF_len.1 roF_len.2 hw (ro_qb hl hw k) (Nat.le_of_lt hi) _ (hl i hi).fr
  refine (h.add (hw i hi)).up ?_
  have h1 : k * l.length ≤ 16 * 64:=Nat.mul_le_mul (by omega) hL
  show (k * l.length + i) * (2400 + 1) + 1 + 2400 + 1 ≤ 2612288 + 1
  have : (k * l.length + i) * 2401 ≤ 1087 * 2401:=Nat.mul_le_mul_right _ (by omega)
  omega
section
variable {n : Nat} {l : List WT} {p : Rat} {k m i : Nat}
theorem rx_lt (h : laF n l p k < 0) : rxF n l p (m + 1) k = ((roF n l p (k + 1)).1,[]):=if_pos h
theorem rx_cy (h : ¬ laF n l p k < 0) (hc : cyF l (roF n l p (k + 1)).2 n (laF n l p k).toNat ≠ []) : rxF n l p (m + 1) k = ([],cyF l (roF n l p (k + 1)).2 n (laF n l p k).toNat):=by
  have hk : cokF l (roF n l p (k + 1)).2 n (laF n l p k).toNat = true:=Classical.byContradiction fun hn=>hc (by unfold cyF;rw [if_neg hn])
  show (if _ then _ else if _ then _ else _) = _
  rw [if_neg h,if_pos hk]
theorem rx_go (hl : OKL n l) (h : ¬ laF n l p k < 0) (hc : cyF l (roF n l p (k + 1)).2 n (laF n l p k).toNat = []) : rxF n l p (m + 1) k = rxF n l p m (k + 1):=by
  have hk : ¬ cokF l (roF n l p (k + 1)).2 n (laF n l p k).toNat = true:=fun hk=>by
    obtain ⟨tm,T,hI⟩:=Inv.ro (p:=p) hl (k + 1)
    exact cy_ne hk (cy_loop hl hI (la_lt hl h).1 hk).2.1 hc
  show (if _ then _ else if _ then _ else _) = _
  rw [if_neg h,if_neg hk]
theorem nt_of {z : Int} (h : 0 ≤ z) {v : Value} {G : Gh} (hv : (IT z).t v G) : (NT z.toNat).t v G:=by
  have e : ((z.toNat : Nat) : Int) = z:=Int.toNat_of_nonneg h
  show v = Value.int .i64 ((z.toNat : Nat) : Int)
  rw [e];exact hv
instance {k : Option Nat} {α : Type} {T : α → MT} : Gnd (LSN k (([] : List α).map T)):=⟨fun h=>⟨by rw [h.2 rfl];exact LS.nil,h.2⟩⟩
theorem ne_len {α : Type} {T : α → MT} {xs : List α} (h : ¬ xs = []) : decide ((((xs.map T).length : Nat) : Int) ≠ 0) = true:=decide_eq_true (by
  rw [List.length_map]
  have : xs.length ≠ 0:=fun e=>h (List.length_eq_zero_iff.1 e)
  omega)
theorem stp_y {w : WT} {r : SRB} (h : cmpQ (r.1.getD w.1.toNat default + wgW p w) (r.1.getD w.2.1.toNat default) > 0) : stp p w i r = (r.1.set w.2.1.toNat (r.1.getD w.1.toNat default + wgW p w),r.2.1.set w.2.1.toNat (i : Int),w.2.1):=if_pos (cmpQ_gt0.1 h)
theorem stp_n {w : WT} {r : SRB} (h : ¬ cmpQ (r.1.getD w.1.toNat default + wgW p w) (r.1.getD w.2.1.toNat default) > 0) : stp p w i r = r:=if_neg fun h'=>h (cmpQ_gt0.2 h')
end
theorem cyE [rv : RevC Tryz.prog 84] {ev : Nat} {l : List WT} {b : List Int} (h : cyF l b b.length ev = []) : Con Tryz.prog 59 [WTS l,ITS b,NT ev] (OKL b.length l ∧ ev < b.length ∧ b.length ≤ 16 ∧ (∃ p s tm T,Inv b.length l p s b tm T)) (LSN none (([] : List Int).map fun z=>IT z)):=by
  have c : Con Tryz.prog 59 [WTS l,ITS b,NT ev] (OKL b.length l ∧ ev < b.length ∧ b.length ≤ 16 ∧ (∃ p s tm T,Inv b.length l p s b tm T)) (LSN none ((cyF l b b.length ev).map fun z=>IT z)):=inferInstance
  rw [h] at c;exact c
theorem w28 {n : Nat} {l : List WT} {p : Rat} [rv : RevC Tryz.prog 84] : Con Tryz.prog 28 [NT n,WTS l,QC 2200 p] (1 ≤ n ∧ n ≤ 16 ∧ l.length ≤ 64 ∧ OKL n l ∧ (∀ j,j < l.length → 0 ≤ (l.getD j default).2.2.2 ∧ (l.getD j default).2.2.2 ≤ 8)) (MT.tup2 (LSN (some 3) ((rxF n l p (n + 1) 0).1.map (QC NB))) (LSN none ((rxF n l p (n + 1) 0).2.map fun z=>IT z))):=.o3 fun hok h1 h2 h3 hp=>by
  refine St.enter (N:=72) Tryz.func28 rfl rfl rfl hok (enter3 h1 h2 h3) fun a=>?_
  obtain ⟨hp1,hp2,hp3,hp4,hp5⟩:=hp
  have hw:=wts_w h2 h3 hp5
  have own16 : OwnAt 16:=⟨⟩
  have own19 : OwnAt 19:=⟨⟩
  repeat' (first|((with_reducible refine gS_ ?_);first|((with_reducible refine gL_ ?_);first|refine W.run ?_ fun a w G=>?_|refine W.mv fun a w G=>?_|refine W.asg fun a w G=>?_|refine W.bx fun b a w G=>?_|(refine W.nn hK ?_;clear hK K)|refine W.nl ?_|refine W.al fun b a w G=>?_|refine W.st fun w=>?_|refine W.stp fun w=>?_|refine W.ste ?_ fun w=>?_)|((with_reducible refine gC_ ?_);first|with_reducible refine W.cbt (ne_len hcy) ?_|with_reducible refine W.cbf (b:=decide (((([] : List Int).map fun z=>IT z).length : Int) ≠ 0)) rfl ?_|with_reducible refine W.casth (x:=⟨_,_,_,QC (NB + 2400 + 1) _⟩) (τ':=QC NB _) (QC.re (x_qb hp4 hp3 hp2 hw (k:=k) (i:=i) (by omega) (by omega))) ?_|refine W.reg fun K hK=>?_|refine W.reg1 ?_|refine W.sq fun K hK=>?_|refine W.ds ?_ (fun β a w G hu=>W.fin ?_ hu) mixedOrders (by kernel_rfl)|refine W.sk ?_|refine W.cd (fun hc=>?_) (fun hc=>?_)|refine W.cb (fun hc=>?_) (fun hc=>?_)|refine W.bl ?_|refine W.ex ?_|refine W.rt ?_)|((with_reducible refine W.kn hK ?_);clear hK K)|(with_reducible first|refine W.bn ?_|refine W.xt ?_|refine W.xb ?_|refine W.xo ?_|refine W.tr ?_|refine W.br ?_)|refine W.rt1 rfl ?_|refine W.rt2 rfl ?_ ?_|refine W.rt3 rfl ?_ ?_ ?_)|refine W.mk (mt:=FX 1 default) (QC NB) (0:Rat) ?_ fun b a w G=>?_|refine W.co ?_ fun b c a w G hle=>?_|((have hil : i = l.length:=by omega);subst hil)|refine W.fz 6 ?_ fun G=>?_|((fail_if_success (have h9:=hcI));have hcI:=cyE hcy)|((fail_if_success (have h9:=hcy));refine W.cast (t:=66) (τ:=IT (rdF l p (roF n l p k).1 (roF n l p k).2 l.length).2.2) (τ':=NT (laF n l p k).toNat) (nt_of (z:=laF n l p k) (by show 0 ≤ (rdF l p (roF n l p k).1 (roF n l p k).2 l.length).2.2;omega)) ?_;by_cases hcy : cyF l (rdF l p (roF n l p k).1 (roF n l p k).2 l.length).2.1 (rdF l p (roF n l p k).1 (roF n l p k).2 l.length).2.1.length (laF n l p k).toNat = [])|((have h9 : ¬ _ = []:=hcy);refine W.fz 65 ?_ fun G=>?_)|refine W.lp 23 (α:=Nat) (fun k=>n + 1 - k) (fun k=>k ≤ n + 1 ∧ rxF n l p (n + 1) 0 = rxF n l p (n + 1 - k) k) [6,7,10,11,12,13,14,22,23,24,25,26,27,28,29,30,31,32,33,34,35,36,37,38,39,40,41,42,43,44,45,46,47,48,49,50,51,52,53,54,55,56,57,58,59,60,61,62,63,64,65,66,67,68,69,70,71] (fun k=>[(22,NT k)]) (fun k=>[(8,ROWS (some 3) ((roF n l p k).1.map (QC NB))),(9,ROWS none ((roF n l p k).2.map fun z=>IT z))]) (0) ?_ ?_ ?_ fun k hk a w G=>?_|refine W.ag (x:=k) (k+1) ?_ ?_ ?_ ?_|refine W.lp 27 (α:=Nat) (fun i=>l.length - i) (fun i=>i ≤ l.length) [10,11,12,13,26,27,28,29,30,31,32,33,34,35,36,37,38,39,40,41,42,43,44,45,46,47,48,49,50,51,52,53,54,55,56,57,58,59,60] (fun i=>[(26,NT i),(10,IT (rdF l p (roF n l p k).1 (roF n l p k).2 i).2.2)]) (fun i=>[(8,ROWS (some 3) ((rdF l p (roF n l p k).1 (roF n l p k).2 i).1.map (QC NB))),(9,ROWS none ((rdF l p (roF n l p k).1 (roF n l p k).2 i).2.1.map fun z=>IT z))]) (0) ?_ ?_ ?_ fun i hi a w G=>?_|refine W.ag (x:=i) (i+1) ?_ ?_ ?_ ?_|clear hK K|clear hu|exact True.intro|exact Nat.le_trans (by clear hp;omega) hp|exact Nat.le_trans (by clear hp;omega) hp.1|exact Nat.le_trans (by clear hp;omega) hp.2|(clear hp;omega)|apply And.intro|refine GI.i fun _=>?_|with_reducible rfl|decide|(simp only [List.length_cons,List.length_nil];omega))
  all_goals (try simp only [List.length_replicate] at *)
  all_goals (try have hr1 : (roF n l p k).1.length = n:=roF_len.1)
  all_goals (try have hr2 : (roF n l p k).2.length = n:=roF_len.2)
  all_goals (try have hd1 : (rdF l p (roF n l p k).1 (roF n l p k).2 i).1.length = n:=rdF_len.1.trans hr1)
  all_goals (try have hd2 : (rdF l p (roF n l p k).1 (roF n l p k).2 i).2.1.length = n:=rdF_len.2.trans hr2)
  all_goals (try have he1 : (rdF l p (roF n l p k).1 (roF n l p k).2 l.length).1.length = n:=rdF_len.1.trans hr1)
  all_goals (try have he2 : (rdF l p (roF n l p k).1 (roF n l p k).2 l.length).2.1.length = n:=rdF_len.2.trans hr2)
  all_goals (try have hoi:=hp4 i (by omega))
  all_goals (try have hoi1:=hoi.1)
  all_goals (try have hoi2:=hoi.2.1)
  all_goals (try have hoi3:=hoi.2.2.1)
  all_goals (try have hoi4:=hoi.2.2.2)
  all_goals (try have hcm:=stp_y (p:=p) (w:=l.getD i default) (i:=i) (r:=rdF l p (roF n l p k).1 (roF n l p k).2 i) (by assumption))
  all_goals (try have hcn:=stp_n (p:=p) (w:=l.getD i default) (i:=i) (r:=rdF l p (roF n l p k).1 (roF n l p k).2 i) (by assumption))
  all_goals (try have hS : rdF l p (roF n l p k).1 (roF n l p k).2 (i + 1) = stp p (l.getD i default) i (rdF l p (roF n l p k).1 (roF n l p k).2 i):=rfl)
  all_goals (try have htu:=hp5 i (by omega))
  all_goals (try have hnk : n + 1 - k = (n - k) + 1:=by omega)
  all_goals (try have hro : roF n l p (k + 1) = ((rdF l p (roF n l p k).1 (roF n l p k).2 l.length).1,(rdF l p (roF n l p k).1 (roF n l p k).2 l.length).2.1):=rfl)
  all_goals (try have hla:=la_lt (p:=p) (k:=k) hp4 (by assumption))
  all_goals (try have hIv : ∃ q s tm T,Inv n l q s (rdF l p (roF n l p k).1 (roF n l p k).2 l.length).2.1 tm T:=(Inv.ro (p:=p) hp4 (k + 1)).elim fun tm h=>h.elim fun T h=>⟨p,_,tm,T,h⟩)
  all_goals first
    | omega
    | rfl
    | (simp only [LIM];omega)
    | (rw [hS,hcm];done)
    | (rw [hS,hcn];done)
    | (rw [he2];omega)
    | (rw [he2];exact hp4)
    | (rw [he2];exact hIv)
    | (rw [hk.2,hnk,rx_lt (by assumption)];done)
    | (rw [hk.2,hnk,rx_lt (by assumption)];rfl)
    | (intro e0;have e9:=congrArg List.length e0;rw [he1] at e9;exact absurd e9 (by simp;omega))
    | (rw [hk.2,hnk,rx_lt (by assumption)];intro e0;have e9:=congrArg List.length e0;rw [roF_len.1] at e9;exact absurd e9 (by simp;omega))
    | (rw [he2] at hcy;rw [hk.2,hnk,rx_cy (by assumption) hcy];done)
    | (rw [he2] at hcy ⊢;rw [hk.2,hnk,rx_cy (by assumption) hcy];done)
    | (rw [he2] at hcy ⊢;rw [hk.2,hnk,rx_cy (by assumption) hcy];rfl)
    | (rw [he2] at hcy;rw [hk.2,hnk,rx_go hp4 (by assumption) hcy];done)
    | (rw [he2] at hcy;rw [hk.2,hnk,rx_go hp4 (by assumption) hcy];congr 1;omega)
    | (have e9 : k = n + 1 := by omega
       subst e9;rw [hk.2,Nat.sub_self];rfl)
    | skip
instance {n : Nat} {l : List WT} {p : Rat} [rv : RevC Tryz.prog 84] {τ3 : MT} [j3 : NQ τ3 (QC 2200 p)] : Con Tryz.prog 28 [NT n,WTS l,τ3] (1 ≤ n ∧ n ≤ 16 ∧ l.length ≤ 64 ∧ OKL n l ∧ (∀ j,j < l.length → 0 ≤ (l.getD j default).2.2.2 ∧ (l.getD j default).2.2.2 ≤ 8)) (MT.tup2 (LSN (some 3) ((rxF n l p (n + 1) 0).1.map (QC NB))) (LSN none ((rxF n l p (n + 1) 0).2.map fun z=>IT z))):=.o3 fun hok h1 h2 h3 hp=>w28.c3 hok h1 h2 (j3.h h3) hp
end Go.Proofs.YtjphllpnhjemjaaGreat
namespace Go.Proofs.YtjphllpnhjemjaaGreat
open Go.Shelf
def laysReverse_ren : Go.Shelf.Ren:=⟨fun | 112=>84 | n=>n,fun | 28=>42 | 3=>3 | 4=>4 | 0=>0 | n=>n,fun | n=>n⟩
theorem laysReverse : Go.Proofs.Lays.n112 Tryz.prog laysReverse_ren:={
  mixed:=by kernel_rfl
  f112:=Tryz.func84.trans (congrArg some (by kernel_rfl))
  t0:=Tryz.underlying0
  a0:=Tryz.isAgg0
  z0:=Tryz.sizeOf0
  v0:=Tryz.zeroValue0
  t3:=Tryz.underlying3
  a3:=Tryz.isAgg3
  z3:=Tryz.sizeOf3
  v3:=Tryz.zeroValue3
  t4:=Tryz.underlying4
  a4:=Tryz.isAgg4
  z4:=Tryz.sizeOf4
  v4:=Tryz.zeroValue4
  t28:=Tryz.underlying42
  a28:=Tryz.isAgg42
  z28:=Tryz.sizeOf42
  v28:=Tryz.zeroValue42 }
end Go.Proofs.YtjphllpnhjemjaaGreat
set_option linter.unusedVariables false
namespace Go.Proofs.YtjphllpnhjemjaaGreat
theorem fr_self4 {r : FR} (hw : wfl r.p ∧ wfl r.q) (hok : r.ok = true) : FR.of r.val = r:=by
  obtain ⟨s,p,q⟩:=r
  have hw : wfl p ∧ wfl q:=hw
  have hok : qok s p q = true:=hok
  by_cases hp : p.length = 0
  · have e:=List.length_eq_zero_iff.1 hp
    subst e
    have h : qok s [] q = true:=hok
    have hv : FR.val ⟨s,[],q⟩ = 0:=qval_nil rfl
    unfold qok at h
    split at h
    · rename_i k
      obtain rfl:=k.2
      rw [hv]
      have : s = false:=by simpa using h
      subst this
      unfold FR.of dwords
      rw [if_pos rfl,show (0 : Rat).num.natAbs = 0 from rfl,words_zero];rfl
    · simp at h
  · obtain ⟨_,h3,h4,h5,h6⟩:=qval_parts hw hok hp
    have hp0 : val p ≠ 0:=fun e=>ne_of_len hp (val_eq_zero h3 e)
    have hne : FR.val ⟨s,p,q⟩ ≠ 0:=fun e=>by
      have h5' : (FR.val ⟨s,p,q⟩).num = sg s (val p):=h5
      rw [e] at h5'
      have:=congrArg Int.natAbs h5'
      rw [sg_abs] at this;exact hp0 this.symm
    have hs : decide (FR.val ⟨s,p,q⟩ < 0) = s:=by
      have h5' : (FR.val ⟨s,p,q⟩).num = sg s (val p):=h5
      have h7 : FR.val ⟨s,p,q⟩ < 0 ↔ (FR.val ⟨s,p,q⟩).num < 0:=by
        rw [← Rat.not_le,← Rat.num_nonneg];omega
      rw [Bool.eq_iff_iff,decide_eq_true_iff,h7,h5']
      cases s <;> simp [sg] <;> omega
    unfold FR.of dwords
    rw [if_neg hne,hs]
    have e1 : (FR.val ⟨s,p,q⟩).num.natAbs = val p:=(congrArg Int.natAbs h5).trans sg_abs
    have e2 : (FR.val ⟨s,p,q⟩).den = val q:=h6
    rw [e1,e2,words_val hw.1 h3,words_val hw.2 h4]
theorem FX.self4 {n : Nat} {r : FR} {v : Value} {G : Gh} (h : (FX n r).t v G) (hok : r.ok = true) : (FX n (FR.of r.val)).t v G:=FX.eq h (fr_self4 (QR.wf (FX.qr h)) hok).symm
theorem QC.of_ok4 {n : Nat} {r : FR} {v : Value} {G : Gh} (h : (FX n r).t v G) (hok : r.ok = true) : (QC n r.val).t v G:=by
  have h2:=FX.self4 h hok
  obtain ⟨h1,h2,h3,h4⟩:=h2
  refine ⟨⟨?_,?_⟩,h4⟩
  · rwa [show (FR.of r.val).p = words r.val.num.natAbs from rfl,val_words] at h2
  · rw [show (FR.of r.val).q = dwords r.val from rfl] at h3
    unfold dwords at h3
    split at h3
    · have e : r.val = 0:=by assumption
      rw [e];exact Nat.lt_of_lt_of_le (by decide : (1 : Nat) < 2 ^ 1) (Nat.pow_le_pow_right (by decide) h1)
    · rwa [val_words] at h3
theorem FX.qcv {n m : Nat} {r : FR} (hok : r.ok = true) (hn : n ≤ m) {v : Value} {G : Gh} (h : (FX n r).t v G) : (QC m r.val).t v G:=QC.up (QC.of_ok4 h hok) hn
end Go.Proofs.YtjphllpnhjemjaaGreat
set_option linter.unusedVariables false
set_option linter.unusedSimpArgs false
set_option maxHeartbeats 4000000
set_option maxRecDepth 100000
set_option synthInstance.maxSize 100000
set_option synthInstance.maxHeartbeats 400000
namespace Go.Proofs.YtjphllpnhjemjaaGreat
open Go.RowKit (Below)
attribute [local irreducible] Go.Code.wp Go.wpList Go.bodyPost
instance : RevC Tryz.prog 84:=⟨by kernel_rfl,fun blk off cap zs w h1 h2=>Any.slices_Reverse_int laysReverse blk off cap zs w h1 h2⟩
theorem gv_ok {n : Int} {l : List WT} {r : FR} (h : gvC n l r = 0) : chW n l = 0 ∧ nnR r = true:=by
  unfold gvC at h
  split at h
  · rename_i h0
    split at h
    · rename_i h1;exact ⟨h0,h1⟩
    · cases h
  · rename_i h0;exact absurd h h0
theorem nn_ok {r : FR} (h : nnR r = true) : r.ok = true ∧ 0 ≤ r.val:=by
  unfold nnR at h
  rw [Bool.and_eq_true,decide_eq_true_eq] at h
  exact h
theorem nnz {n : Int} {l : List WT} (h : chW n l = 0) : ((n.toNat : Nat) : Int) = n ∧ 1 ≤ n.toNat ∧ n.toNat ≤ 16 ∧ l.length ≤ 64 ∧ OKL n.toNat l ∧ (∀ j,j < l.length → 0 ≤ (l.getD j default).2.2.2 ∧ (l.getD j default).2.2.2 ≤ 8):=by
  have h1:=ch_ok h
  exact ⟨by omega,by omega,by omega,h1.2.2.1,h1.2.2.2.1,fun j hj=>⟨h1.2.2.2.2.1 j hj,(h1.2.2.2.2.2 j hj).2⟩⟩
def stC (n : Int) (l : List WT) (r : FR) : Int:=if gvC n l r = 0 then (if rsF n.toNat l r.val (n.toNat + 1) 0 = [] then 16 else 0) else gvC n l r
def stL (n : Int) (l : List WT) (r : FR) : List Rat:=if gvC n l r = 0 then rsF n.toNat l r.val (n.toNat + 1) 0 else []
section
variable {n : Int} {l : List WT} {r : FR}
theorem st_e (h : ¬ gvC n l r = 0) : stC n l r = gvC n l r ∧ stL n l r = []:=by unfold stC stL;rw [if_neg h,if_neg h];exact ⟨rfl,rfl⟩
theorem st_g (h : gvC n l r = 0) : stL n l r = (rxF n.toNat l r.val (n.toNat + 1) 0).1:=by
  unfold stL;rw [if_pos h,rx_rs (nnz (gv_ok h).1).2.2.2.2.1]
theorem st_n (h : gvC n l r = 0) (hz : (rxF n.toNat l r.val (n.toNat + 1) 0).1 = []) : stC n l r = 16 ∧ stL n l r = []:=by
  refine ⟨?_,(st_g h).trans hz⟩
  unfold stC;rw [if_pos h,← rx_rs (nnz (gv_ok h).1).2.2.2.2.1,if_pos hz]
theorem st_y (h : gvC n l r = 0) (hz : ¬ (rxF n.toNat l r.val (n.toNat + 1) 0).1 = []) : stC n l r = 0:=by
  unfold stC;rw [if_pos h,← rx_rs (nnz (gv_ok h).1).2.2.2.2.1,if_neg hz]
def skT (l : List WT) (p : Rat) (s : List Rat) (j : Nat) : List Rat:=(List.range j).map (slF l p s)
def skL (n : Int) (l : List WT) (r : FR) : List Rat:=if stC n l r = 0 then skT l r.val (stL n l r) l.length else []
theorem skT_len {p : Rat} {s : List Rat} {j : Nat} : (skT l p s j).length = j:=by unfold skT;rw [List.length_map,List.length_range]
theorem skT_go {p : Rat} {s : List Rat} {j : Nat} : skT l p s j ++ [slF l p s j] = skT l p s (j + 1):=by unfold skT;rw [List.range_succ,List.map_append];rfl
theorem sk_e (h : ¬ stC n l r = 0) : skL n l r = []:=if_neg h
end
theorem lpB_n {l : List WT} {lo : List Int} {j : Nat} (hj : j < lo.length) (h : (l.getD (lo.getD j default).toNat default).2.1 ≠ (l.getD (lo.getD ((j + 1) % lo.length) default).toNat default).1) : lpB l lo = false:=by
  cases e : lpB l lo with
  | false=>rfl
  | true=>exact absurd ((lpB_d e).1 j hj) h
theorem lpB_y {l : List WT} {lo : List Int} (h : ∀ k,k < lo.length → (l.getD (lo.getD k default).toNat default).2.1 = (l.getD (lo.getD ((k + 1) % lo.length) default).toNat default).1) : lpB l lo = decide (0 < lo.length):=by
  unfold lpB
  have : ((List.range lo.length).all fun k=>decide ((l.getD (lo.getD k default).toNat default).2.1 = (l.getD (lo.getD ((k + 1) % lo.length) default).toNat default).1)) = true:=List.all_eq_true.2 fun k hk=>decide_eq_true (h k (List.mem_range.1 hk))
  rw [this,Bool.true_and]
instance {l : List WT} {lo : List Int} : Con Tryz.prog 52 [WTS l,ITS lo] (INL l lo ∧ lo.length ≤ 100) (BT (lpB l lo)):=.o2 fun hok h1 h2 hp=>by
  refine St.enter (N:=36) Tryz.func52 rfl rfl rfl hok (enter2 h1 h2) fun a=>?_
  repeat' (first|((with_reducible refine gS_ ?_);first|((with_reducible refine gL_ ?_);first|refine W.run ?_ fun a w G=>?_|refine W.mv fun a w G=>?_|refine W.asg fun a w G=>?_|refine W.bx fun b a w G=>?_|(refine W.nn hK ?_;clear hK K)|refine W.nl ?_|refine W.al fun b a w G=>?_|refine W.st fun w=>?_|refine W.stp fun w=>?_|refine W.ste ?_ fun w=>?_)|((with_reducible refine gC_ ?_);first|refine W.reg fun K hK=>?_|refine W.reg1 ?_|refine W.sq fun K hK=>?_|refine W.ds ?_ (fun β a w G hu=>W.fin ?_ hu) mixedOrders (by kernel_rfl)|refine W.sk ?_|refine W.cd (fun hc=>?_) (fun hc=>?_)|refine W.cb (fun hc=>?_) (fun hc=>?_)|refine W.bl ?_|refine W.ex ?_|refine W.rt ?_)|((with_reducible refine W.kn hK ?_);clear hK K)|(with_reducible first|refine W.bn ?_|refine W.xt ?_|refine W.xb ?_|refine W.xo ?_|refine W.tr ?_|refine W.br ?_)|refine W.rt1 rfl ?_|refine W.rt2 rfl ?_ ?_|refine W.rt3 rfl ?_ ?_ ?_)|refine W.lp 10 (α:=Nat) (fun j=>lo.length - j) (fun j=>j ≤ lo.length ∧ ∀ k,k < j → (l.getD (lo.getD k default).toNat default).2.1 = (l.getD (lo.getD ((k + 1) % lo.length) default).toNat default).1) [4,5,6,9,10,11,12,13,14,15,16,17,18,19,20,21,22,23,24,25,26,27,28,29,30,31,32] (fun j=>[(9,NT j)]) (fun j=>[]) (0) ?_ ?_ ?_ fun j hj a w G=>?_|refine W.ag (x:=j) (j+1) ?_ ?_ ?_ ?_|clear hK K|clear hu|exact True.intro|exact Nat.le_trans (by clear hp;omega) hp|exact Nat.le_trans (by clear hp;omega) hp.1|exact Nat.le_trans (by clear hp;omega) hp.2|(clear hp;omega)|apply And.intro|refine GI.i fun _=>?_|with_reducible rfl|decide|(simp only [List.length_cons,List.length_nil];omega))
  all_goals (try have hm : (j + 1) % lo.length < lo.length:=Nat.mod_lt _ (by omega))
  all_goals (try have hi1:=hp.1 j (by omega))
  all_goals (try have hi2:=hp.1 ((j + 1) % lo.length) hm)
  all_goals first
    | omega
    | rfl
    | (simp only [LIM];omega)
    | exact (lpB_n (by omega) (by assumption)).symm
    | exact lpB_n (by omega) (by assumption)
    | exact (lpB_n (j:=j) (by omega) (by omega)).symm
    | (intro k hk
       rcases Nat.lt_or_eq_of_le (Nat.le_of_lt_succ hk) with e | e
       · exact hj.2 k e
       · subst e;omega)
    | (rw [lpB_y fun k hk=>hj.2 k (by omega)];congr 1;simp;done)
    | (rw [lpB_y fun k hk=>hj.2 k (by omega)];congr 1;apply propext;constructor <;> intro h9 <;> omega)
    | skip
theorem w9 {n : Int} {m : Nat} {l : List WT} {r : FR} : Con Tryz.prog 9 [IT n,WTS l,FX m r] (m ≤ 2200) (MT.tup2 (QNS NB (stL n l r)) (.ex (errV 59 (stC n l r)))):=.o3 fun hok h1 h2 h3 hp=>by
  refine St.enter (N:=29) Tryz.func9 rfl rfl rfl hok (enter3 h1 h2 h3) fun a=>?_
  have hlim:=LS.lenM h2
  simp only [LIM] at hlim
  repeat' (first|((with_reducible refine gS_ ?_);first|((with_reducible refine gL_ ?_);first|refine W.run ?_ fun a w G=>?_|refine W.mv fun a w G=>?_|refine W.asg fun a w G=>?_|refine W.bx fun b a w G=>?_|(refine W.nn hK ?_;clear hK K)|refine W.nl ?_|refine W.al fun b a w G=>?_|refine W.st fun w=>?_|refine W.stp fun w=>?_|refine W.ste ?_ fun w=>?_)|((with_reducible refine gC_ ?_);first|refine W.reg fun K hK=>?_|refine W.reg1 ?_|refine W.sq fun K hK=>?_|refine W.ds ?_ (fun β a w G hu=>W.fin ?_ hu) mixedOrders (by kernel_rfl)|refine W.sk ?_|refine W.cd (fun hc=>?_) (fun hc=>?_)|refine W.cb (fun hc=>?_) (fun hc=>?_)|refine W.bl ?_|refine W.ex ?_|refine W.rt ?_)|((with_reducible refine W.kn hK ?_);clear hK K)|(with_reducible first|refine W.bn ?_|refine W.xt ?_|refine W.xb ?_|refine W.xo ?_|refine W.tr ?_|refine W.br ?_)|refine W.rt1 rfl ?_|refine W.rt2 rfl ?_ ?_|refine W.rt3 rfl ?_ ?_ ?_)|refine W.cast (t:=19) (τ:=IT n) (τ':=NT n.toNat) (nt_of (by have:=(nnz (gv_ok (n:=n) (l:=l) (r:=r) (by omega)).1).1;omega)) ?_|refine W.cast (t:=21) (τ:=FX m r) (τ':=QC 2200 r.val) (FX.qcv (nn_ok (gv_ok (n:=n) (l:=l) (r:=r) (by omega)).2).1 hp) ?_|clear hK K|clear hu|exact True.intro|exact Nat.le_trans (by clear hp;omega) hp|exact Nat.le_trans (by clear hp;omega) hp.1|exact Nat.le_trans (by clear hp;omega) hp.2|(clear hp;omega)|apply And.intro|refine GI.i fun _=>?_|with_reducible rfl|decide|(simp only [List.length_cons,List.length_nil];omega))
  all_goals (try have hg0 : gvC n l r = 0:=by omega)
  all_goals (try have hz:=nnz (gv_ok hg0).1)
  all_goals (try simp only [List.length_map] at *)
  all_goals first
    | omega
    | exact (st_e (by assumption)).1.symm
    | exact (st_e (by assumption)).2
    | exact hz.2.2.2.2.1
    | exact hz.2.2.2.2.2
    | exact (st_n hg0 (List.length_eq_zero_iff.1 (by omega))).1.symm
    | exact (st_n hg0 (List.length_eq_zero_iff.1 (by omega))).2
    | exact st_y hg0 (fun e0=>by have e1 : (rxF n.toNat l r.val (n.toNat + 1) 0).1.length = 0:=congrArg List.length e0;omega)
    | exact (st_y hg0 (fun e0=>by have e1 : (rxF n.toNat l r.val (n.toNat + 1) 0).1.length = 0:=congrArg List.length e0;omega)).symm
    | exact (st_g hg0).symm
    | exact st_g hg0
    | rfl
    | skip
instance {n : Int} {m : Nat} {l : List WT} {r : FR} {τ3 : MT} [j3 : NF τ3 (FX m r)] : Con Tryz.prog 9 [IT n,WTS l,τ3] (m ≤ 2200) (MT.tup2 (QNS NB (stL n l r)) (.ex (errV 59 (stC n l r)))):=.o3 fun hok h1 h2 h3 hp=>w9.c3 hok h1 h2 (j3.h h3) hp
end Go.Proofs.YtjphllpnhjemjaaGreat
set_option linter.unusedVariables false
set_option linter.unusedSimpArgs false
set_option maxHeartbeats 4000000
set_option maxRecDepth 100000
set_option synthInstance.maxSize 100000
set_option synthInstance.maxHeartbeats 400000
namespace Go.Proofs.YtjphllpnhjemjaaGreat
open Go.RowKit (Below)
attribute [local irreducible] Go.Code.wp Go.wpList Go.bodyPost
open Classical in
noncomputable def lcE (n : Int) (l : List WT) : Int:=if chW n l = 0 then lsE n.toNat l else chW n l
noncomputable def lcP (n : Int) (l : List WT) : Rat:=if chW n l = 0 then lsP n.toNat l else 0
noncomputable def lcS (n : Int) (l : List WT) : List Rat:=if chW n l = 0 then lsS n.toNat l else []
noncomputable def lcL (n : Int) (l : List WT) : List Int:=if chW n l = 0 then lsL n.toNat l else []
theorem rx_in {n : Nat} {l : List WT} {p : Rat} (hl : OKL n l) (hn : 0 < n) : INL l (rxF n l p (n + 1) 0).2 ∧ (rxF n l p (n + 1) 0).2.length ≤ n:=by
  rcases rx_dich (p:=p) hl hn with d | d | d
  · rw [d.2];exact ⟨fun k hk=>absurd hk (Nat.not_lt_zero k),Nat.zero_le _⟩
  · exact ⟨d.2.1,d.2.2.2.1⟩
  · rw [d];exact ⟨fun k hk=>absurd hk (Nat.not_lt_zero k),Nat.zero_le _⟩
section
variable {n : Int} {l : List WT} {j : Nat}
theorem ls_e (h : ¬ chW n l = 0) : lcE n l = chW n l ∧ lcP n l = 0 ∧ lcS n l = [] ∧ lcL n l = []:=by
  unfold lcE lcP lcS lcL;rw [if_neg h,if_neg h,if_neg h,if_neg h];exact ⟨rfl,rfl,rfl,rfl⟩
theorem tnn_of (h : chW n l = 0) : TNN l:=(ch_ok h).2.2.2.2.1
theorem ls_stop (h : chW n l = 0) (hj : j ≤ jsF n.toNat l) (hg : goF n.toNat l j = false) : j = jsF n.toNat l:=by
  have hz:=nnz h
  have hk:=js_ok hz.2.2.2.2.1 (tnn_of h) hz.2.1
  rcases Nat.lt_or_eq_of_le hj with e | e
  · have:=hk.2 j e;rw [hg] at this;cases this
  · exact e
theorem ls_y (h : chW n l = 0) (hj : j ≤ jsF n.toNat l) (hs : ¬ (rxF n.toNat l (itF n.toNat l j).1 (n.toNat + 1) 0).1 = []) : lcE n l = 0 ∧ lcP n l = (itF n.toNat l j).1 ∧ lcS n l = (rxF n.toNat l (itF n.toNat l j).1 (n.toNat + 1) 0).1 ∧ lcL n l = (itF n.toNat l j).2:=by
  have hg : goF n.toNat l j = false:=by unfold goF;rw [decide_eq_false hs,Bool.false_and]
  have e:=ls_stop h hj hg
  subst e
  have h0 : lsE n.toNat l = 0:=if_neg hs
  unfold lcE lcP lcS lcL lsP lsS lsL
  rw [if_pos h,if_pos h,if_pos h,if_pos h,if_pos h0,if_pos h0,if_pos h0]
  exact ⟨h0,rfl,rfl,rfl⟩
theorem ls_n (h : chW n l = 0) (hj : j ≤ jsF n.toNat l) (hs : (rxF n.toNat l (itF n.toNat l j).1 (n.toNat + 1) 0).1 = []) (ht : tuF l (rxF n.toNat l (itF n.toNat l j).1 (n.toNat + 1) 0).2 (rxF n.toNat l (itF n.toNat l j).1 (n.toNat + 1) 0).2.length = 0) : lcE n l = 16 ∧ lcP n l = 0 ∧ lcS n l = [] ∧ lcL n l = []:=by
  have hg : goF n.toNat l j = false:=by unfold goF;rw [← ti_all.2,ht];exact Bool.and_false _
  have e:=ls_stop h hj hg
  subst e
  have h0 : lsE n.toNat l = 16:=if_pos hs
  have h1 : ¬ lsE n.toNat l = 0:=by rw [h0];decide
  unfold lcE lcP lcS lcL lsP lsS lsL
  rw [if_pos h,if_pos h,if_pos h,if_pos h,if_neg h1,if_neg h1,if_neg h1]
  exact ⟨h0,rfl,rfl,rfl⟩
theorem ls_go (h : chW n l = 0) (hj : j ≤ jsF n.toNat l) (hs : (rxF n.toNat l (itF n.toNat l j).1 (n.toNat + 1) 0).1 = []) (ht : ¬ tuF l (rxF n.toNat l (itF n.toNat l j).1 (n.toNat + 1) 0).2 (rxF n.toNat l (itF n.toNat l j).1 (n.toNat + 1) 0).2.length = 0) : j < jsF n.toNat l:=by
  have hz:=nnz h
  have hk:=js_ok hz.2.2.2.2.1 (tnn_of h) hz.2.1
  have hg : goF n.toNat l j = true:=by unfold goF;rw [← ti_all.2,decide_eq_true hs,decide_eq_true ht];rfl
  rcases Nat.lt_or_eq_of_le hj with e | e
  · exact e
  · rw [e,hk.1] at hg;cases hg
theorem it_nx : (itF n.toNat l (j + 1)).1 = tiF l (rxF n.toNat l (itF n.toNat l j).1 (n.toNat + 1) 0).2 (rxF n.toNat l (itF n.toNat l j).1 (n.toNat + 1) 0).2.length / ((tuF l (rxF n.toNat l (itF n.toNat l j).1 (n.toNat + 1) 0).2 (rxF n.toNat l (itF n.toNat l j).1 (n.toNat + 1) 0).2.length : Int) : Rat):=by
  rw [ti_all.1,ti_all.2];rfl
end
abbrev SCH (p : Rat) (s : List Rat) (lo : List Int) : MT:=PTS [(some 3,QC 2200 p),(none,QNS NB s),(none,ITS lo)]
instance {n : Int} {l : List WT} : Con Tryz.prog 18 [IT n,WTS l] (True) (MT.tup2 (SCH (lcP n l) (lcS n l) (lcL n l)) (.ex (errV 59 (lcE n l)))):=.o2 fun hok h1 h2 hp=>by
  refine St.enter (N:=59) Tryz.func18 rfl rfl rfl hok (enter2 h1 h2) fun a=>?_
  have hlim:=LS.lenM h2
  simp only [LIM] at hlim
  repeat' (first|((with_reducible refine gS_ ?_);first|((with_reducible refine gL_ ?_);first|refine W.run ?_ fun a w G=>?_|refine W.mv fun a w G=>?_|refine W.asg fun a w G=>?_|refine W.bx fun b a w G=>?_|(refine W.nn hK ?_;clear hK K)|refine W.nl ?_|refine W.al fun b a w G=>?_|refine W.st fun w=>?_|refine W.stp fun w=>?_|refine W.ste ?_ fun w=>?_)|((with_reducible refine gC_ ?_);first|refine W.reg fun K hK=>?_|refine W.reg1 ?_|refine W.sq fun K hK=>?_|refine W.ds ?_ (fun β a w G hu=>W.fin ?_ hu) mixedOrders (by kernel_rfl)|refine W.sk ?_|refine W.cd (fun hc=>?_) (fun hc=>?_)|refine W.cb (fun hc=>?_) (fun hc=>?_)|refine W.bl ?_|refine W.ex ?_|refine W.rt ?_)|((with_reducible refine W.kn hK ?_);clear hK K)|(with_reducible first|refine W.bn ?_|refine W.xt ?_|refine W.xb ?_|refine W.xo ?_|refine W.tr ?_|refine W.br ?_)|refine W.rt1 rfl ?_|refine W.rt2 rfl ?_ ?_|refine W.rt3 rfl ?_ ?_ ?_)|refine W.cast (t:=22) (τ:=IT n) (τ':=NT n.toNat) (nt_of (by have:=(nnz (n:=n) (l:=l) (by omega)).1;omega)) ?_|refine W.cast (t:=36) (τ:=LSN none ((rxF n.toNat l (itF n.toNat l j).1 (n.toNat + 1) 0).2.map fun z=>IT z)) (τ':=ITS (rxF n.toNat l (itF n.toNat l j).1 (n.toNat + 1) 0).2) (fun h=>h.1) ?_|refine W.lp 22 (α:=Nat) (fun j=>jsF n.toNat l - j) (fun j=>j ≤ jsF n.toNat l) [5,8,9,10,11,12,13,21,22,23,24,25,26,27,28,29,30,31,32,33,34,35,36,37,38,39,40,41,42,43,44,45,46,47,48,49,50,51,52,53,54,55,56,57,58] (fun j=>[]) (fun j=>[(7,PTS [(some 3,QC 2200 (itF n.toNat l j).1),(none,.ex (.slice none 0 0)),(none,ITS (itF n.toNat l j).2)])]) (0) ?_ ?_ ?_ fun j hj a w G=>?_|refine W.ag (x:=j) (j+1) ?_ ?_ ?_ ?_|clear hK K|clear hu|exact True.intro|exact Nat.le_trans (by clear hp;omega) hp|exact Nat.le_trans (by clear hp;omega) hp.1|exact Nat.le_trans (by clear hp;omega) hp.2|(clear hp;omega)|apply And.intro|refine GI.i fun _=>?_|with_reducible rfl|decide|(simp only [List.length_cons,List.length_nil];omega))
  all_goals (try have hg0 : chW n l = 0:=by omega)
  all_goals (try have hz:=nnz hg0)
  all_goals (try have hin:=rx_in (p:=(itF n.toNat l j).1) hz.2.2.2.2.1 hz.2.1)
  all_goals (try have htb:=tu_bd hz.2.2.2.2.2 hin.1 _ (Nat.le_refl _))
  all_goals (try simp only [List.length_map,BIG] at *)
  all_goals (try have hs0 : (rxF n.toNat l (itF n.toNat l j).1 (n.toNat + 1) 0).1 = []:=List.length_eq_zero_iff.1 (by omega))
  all_goals (try have hs1 : ¬ (rxF n.toNat l (itF n.toNat l j).1 (n.toNat + 1) 0).1 = []:=fun e0=>by have e1 : (rxF n.toNat l (itF n.toNat l j).1 (n.toNat + 1) 0).1.length = 0:=congrArg List.length e0;omega)
  all_goals (try have hls:=ls_y hg0 hj hs1)
  all_goals (try have hln:=ls_n hg0 hj hs0 (by assumption))
  all_goals (try have hlg:=ls_go hg0 hj hs0 (by assumption))
  all_goals first
    | omega
    | rfl
    | exact hz.2.2.2.2.1
    | exact hz.2.2.2.2.2
    | exact hin.1
    | exact hls.1
    | exact hls.2.1.symm
    | exact hls.2.2.1.symm
    | exact hls.2.2.2.symm
    | exact hln.1.symm
    | exact hln.2.1
    | exact hln.2.2.1
    | exact hln.2.2.2
    | exact it_nx.symm
    | (intro h9;exact absurd (by exact_mod_cast h9) (by assumption))
    | (have hle:=ls_e (n:=n) (l:=l) (by assumption);first | exact hle.1.symm | exact hle.2.1 | exact hle.2.2.1 | exact hle.2.2.2)
    | skip
end Go.Proofs.YtjphllpnhjemjaaGreat
set_option linter.unusedVariables false
set_option linter.unusedSimpArgs false
set_option maxHeartbeats 4000000
set_option maxRecDepth 100000
set_option synthInstance.maxSize 100000
set_option synthInstance.maxHeartbeats 400000
namespace Go.Proofs.YtjphllpnhjemjaaGreat
open Go.RowKit (Below)
attribute [local irreducible] Go.Code.wp Go.wpList Go.bodyPost
def vrB (n : Int) (l : List WT) (per : FR) (st : List FR) (lo : List Int) : Bool:=decide (vlC n l per st lo = 0) && vfB l per.val (st.map FR.val) lo
abbrev SCX (m : Nat) (per : FR) (st : List FR) (lo : List Int) : MT:=PTS [(some 3,FX m per),(none,LS (some 3) (st.map (FX m))),(none,ITS lo)]
section
variable {n : Int} {l : List WT} {per : FR} {st : List FR} {lo : List Int} {j : Nat}
theorem vl_c (h : ¬ chW n l = 0) : vlC n l per st lo = chW n l ∧ vrB n l per st lo = false:=by
  have e : vlC n l per st lo = chW n l:=if_neg h
  refine ⟨e,?_⟩
  unfold vrB;rw [e,decide_eq_false h,Bool.false_and]
theorem vl_10 (h : chW n l = 0) (h1 : (st.length : Int) ≠ n) : vlC n l per st lo = 10 ∧ vrB n l per st lo = false:=by
  have e : vlC n l per st lo = 10:=by unfold vlC;rw [if_pos h,if_pos h1]
  refine ⟨e,?_⟩
  unfold vrB;rw [e];rfl
theorem all_n {α : Type} [Inhabited α] {f : α → Bool} {xs : List α} (hj : j < xs.length) (h : f (xs.getD j default) = false) : xs.all f = false:=by
  rw [List.all_eq_false]
  rw [List.getD_eq_getElem?_getD,List.getElem?_eq_getElem hj,Option.getD_some] at h
  exact ⟨_,List.getElem_mem hj,by rw [h];decide⟩
theorem all_y {α : Type} [Inhabited α] {f : α → Bool} {xs : List α} (h : ∀ k,k < xs.length → f (xs.getD k default) = true) : xs.all f = true:=by
  rw [List.all_eq_true]
  intro x hx
  obtain ⟨k,hk,rfl⟩:=List.mem_iff_getElem.1 hx
  have:=h k hk
  rwa [List.getD_eq_getElem?_getD,List.getElem?_eq_getElem hk,Option.getD_some] at this
theorem vl_3 (h : chW n l = 0) (h1 : ¬ (st.length : Int) ≠ n) (hj : j < (per :: st).length) (h2 : (!((per :: st).getD j default).ok || decide (((per :: st).getD j default).val.num.sign < 0)) = true) : vlC n l per st lo = 3 ∧ vrB n l per st lo = false:=by
  have e : vlC n l per st lo = 3:=by unfold vlC;rw [if_pos h,if_neg h1,if_pos (all_n hj (nn_t h2))]
  refine ⟨e,?_⟩
  unfold vrB;rw [e];rfl
theorem vl_9 (h : chW n l = 0) (h1 : ¬ (st.length : Int) ≠ n) (ha : ∀ k,k < (per :: st).length → nnR ((per :: st).getD k default) = true) (hj : j < lo.length) (h2 : (decide (lo.getD j default < 0) || decide (lo.getD j default ≥ (l.length : Int))) = true) : vlC n l per st lo = 9 ∧ vrB n l per st lo = false:=by
  have hb : lo.all (inB l.length) = false:=all_n hj (by
    unfold inB
    simp only [Bool.or_eq_true,decide_eq_true_eq] at h2
    rcases h2 with h2 | h2
    · rw [decide_eq_false (show ¬ 0 ≤ lo.getD j default by omega),Bool.false_and]
    · rw [decide_eq_false (show ¬ lo.getD j default < (l.length : Int) by omega),Bool.and_false])
  have e : vlC n l per st lo = 9:=by unfold vlC;rw [if_pos h,if_neg h1,if_neg (by rw [all_y ha];decide),if_pos hb]
  refine ⟨e,?_⟩
  unfold vrB;rw [e];rfl
theorem inB_y {z : Int} (h : (decide (z < 0) || decide (z ≥ (l.length : Int))) = false) : inB l.length z = true:=by
  unfold inB
  simp only [Bool.or_eq_false_iff,decide_eq_false_iff_not] at h
  rw [decide_eq_true (show 0 ≤ z by omega),decide_eq_true (show z < (l.length : Int) by omega)];rfl
theorem vl_0 (h : chW n l = 0) (h1 : ¬ (st.length : Int) ≠ n) (ha : ∀ k,k < (per :: st).length → nnR ((per :: st).getD k default) = true) (hb : ∀ k,k < lo.length → inB l.length (lo.getD k default) = true) : vlC n l per st lo = 0 ∧ vrB n l per st lo = vfB l per.val (st.map FR.val) lo ∧ INL l lo:=by
  have e : vlC n l per st lo = 0:=by unfold vlC;rw [if_pos h,if_neg h1,if_neg (by rw [all_y ha];decide),if_neg (by rw [all_y hb];decide)]
  refine ⟨e,?_,(vl_ok e).2.2.2.2⟩
  unfold vrB;rw [e];rfl
theorem mv_get {i : Nat} (h : i < st.length) : (st.map FR.val).getD i default = (st.getD i default).val:=by
  rw [List.getD_eq_getElem?_getD,List.getD_eq_getElem?_getD,List.getElem?_map,List.getElem?_eq_getElem h];rfl
theorem sl_get {p : Rat} (h1 : (l.getD j default).2.1.toNat < st.length) (h2 : (l.getD j default).1.toNat < st.length) : slF l p (st.map FR.val) j = (st.getD (l.getD j default).2.1.toNat default).val - (st.getD (l.getD j default).1.toNat default).val - wgW p (l.getD j default):=by
  unfold slF wTo wFr
  rw [mv_get h1,mv_get h2]
theorem slB_n {p : Rat} {s : List Rat} (hj : j < l.length) (h : ¬ 0 ≤ slF l p s j) : slB l p s = false:=by
  unfold slB
  rw [List.all_eq_false]
  exact ⟨j,List.mem_range.2 hj,by rw [decide_eq_false h];decide⟩
theorem slB_y {p : Rat} {s : List Rat} (h : ∀ k,k < l.length → 0 ≤ slF l p s k) : slB l p s = true:=by
  unfold slB
  rw [List.all_eq_true]
  intro k hk;exact decide_eq_true (h k (List.mem_range.1 hk))
theorem cq_lt {x y : Rat} (h : cmpQ x y < 0) : x < y:=by
  unfold cmpQ at h
  split at h
  · assumption
  · split at h <;> omega
theorem cq_ge {x y : Rat} (h : ¬ cmpQ x y < 0) : y ≤ x:=by
  unfold cmpQ at h
  split at h
  · omega
  · rename_i h1;exact Rat.not_lt.1 h1
theorem sg_0 {x : Rat} : x.num.sign = 0 ↔ x = 0:=by
  rw [Int.sign_eq_zero_iff_zero];exact Rat.num_eq_zero
theorem vf_n {p : Rat} {s : List Rat} (h : slB l p s = false) : vfB l p s lo = false:=by unfold vfB;rw [h,Bool.false_and]
theorem vf_z {p : Rat} {s : List Rat} (h : slB l p s = true) (hp : p.num.sign = 0) : vfB l p s lo = decide (((lo.length : Nat) : Int) = 0):=by
  unfold vfB;rw [h,if_pos (sg_0.1 hp),Bool.true_and]
  congr 1;apply propext;omega
theorem vf_p {p : Rat} {s : List Rat} (h : slB l p s = true) (hp : ¬ p.num.sign = 0) : vfB l p s lo = ((lpB l lo && decide (tuF l lo lo.length > 0)) && decide (cmpQ (tiF l lo lo.length) (p * (tuF l lo lo.length : Rat)) = 0)):=by
  unfold vfB;rw [h,if_neg (fun e=>hp (sg_0.2 e)),Bool.true_and]
  have e : decide (cmpQ (tiF l lo lo.length) (p * (tuF l lo lo.length : Rat)) = 0) = decide (tiF l lo lo.length = p * (tuF l lo lo.length : Rat)):=by congr 1;exact propext cmpQ_eq0
  rw [e]
end
theorem wgF {m : Nat} {w : WT} {r : FR} : Con Tryz.prog 30 [WTX w,FX m r] (m ≤ NB ∧ -1000000 ≤ w.2.2.2 ∧ w.2.2.2 ≤ 1000000) (QC (m + 193) (wgW r.val w)):=.o2 fun hok h1 h2 hp=>by
  refine St.enter (N:=13) Tryz.func30 rfl rfl rfl hok (enter2 h1 h2) fun a=>?_
  repeat' (first|((with_reducible refine gS_ ?_);first|((with_reducible refine gL_ ?_);first|refine W.run ?_ fun a w G=>?_|refine W.mv fun a w G=>?_|refine W.asg fun a w G=>?_|refine W.bx fun b a w G=>?_|(refine W.nn hK ?_;clear hK K)|refine W.nl ?_|refine W.al fun b a w G=>?_|refine W.st fun w=>?_|refine W.stp fun w=>?_|refine W.ste ?_ fun w=>?_)|((with_reducible refine gC_ ?_);first|refine W.reg fun K hK=>?_|refine W.reg1 ?_|refine W.sq fun K hK=>?_|refine W.ds ?_ (fun β a w G hu=>W.fin ?_ hu) mixedOrders (by kernel_rfl)|refine W.sk ?_|refine W.cd (fun hc=>?_) (fun hc=>?_)|refine W.cb (fun hc=>?_) (fun hc=>?_)|refine W.bl ?_|refine W.ex ?_|refine W.rt ?_)|((with_reducible refine W.kn hK ?_);clear hK K)|(with_reducible first|refine W.bn ?_|refine W.xt ?_|refine W.xb ?_|refine W.xo ?_|refine W.tr ?_|refine W.br ?_)|refine W.rt1 rfl ?_|refine W.rt2 rfl ?_ ?_|refine W.rt3 rfl ?_ ?_ ?_)|clear hK K|clear hu|exact True.intro|exact Nat.le_trans (by clear hp;omega) hp|exact Nat.le_trans (by clear hp;omega) hp.1|exact Nat.le_trans (by clear hp;omega) hp.2|(clear hp;omega)|apply And.intro|refine GI.i fun _=>?_|with_reducible rfl|decide|(simp only [List.length_cons,List.length_nil];omega))
  all_goals first | omega | decide | rfl | (simp only [BIG,NB] at *;omega) | skip
instance {m : Nat} {w : WT} {r : FR} : Con Tryz.prog 30 [WTX w,FX m r] (m ≤ NB ∧ -1000000 ≤ w.2.2.2 ∧ w.2.2.2 ≤ 1000000) (QC (m + 193) (wgW r.val w)):=wgF
instance {n : Int} {l : List WT} {m : Nat} {per : FR} {st : List FR} {lo : List Int} : Con Tryz.prog 21 [IT n,WTS l,SCX m per st lo] (m ≤ NB ∧ st.length ≤ 60 ∧ lo.length ≤ 60) (MT.tup2 (BT (vrB n l per st lo)) (.ex (errV 59 (vlC n l per st lo)))):=.o3 fun hok h1 h2 h3 hp=>by
  refine St.enter (N:=126) Tryz.func21 rfl rfl rfl hok (enter3 h1 h2 h3) fun a=>?_
  have hlim:=LS.lenM h2
  simp only [LIM] at hlim
  repeat' (first|((with_reducible refine gS_ ?_);first|((with_reducible refine gL_ ?_);first|refine W.run ?_ fun a w G=>?_|refine W.mv fun a w G=>?_|refine W.asg fun a w G=>?_|refine W.bx fun b a w G=>?_|(refine W.nn hK ?_;clear hK K)|refine W.nl ?_|refine W.al fun b a w G=>?_|refine W.st fun w=>?_|refine W.stp fun w=>?_|refine W.ste ?_ fun w=>?_)|((with_reducible refine gC_ ?_);first|refine W.reg fun K hK=>?_|refine W.reg1 ?_|refine W.sq fun K hK=>?_|refine W.ds ?_ (fun β a w G hu=>W.fin ?_ hu) mixedOrders (by kernel_rfl)|refine W.sk ?_|refine W.cd (fun hc=>?_) (fun hc=>?_)|refine W.cb (fun hc=>?_) (fun hc=>?_)|refine W.bl ?_|refine W.ex ?_|refine W.rt ?_)|((with_reducible refine W.kn hK ?_);clear hK K)|(with_reducible first|refine W.bn ?_|refine W.xt ?_|refine W.xb ?_|refine W.xo ?_|refine W.tr ?_|refine W.br ?_)|refine W.rt1 rfl ?_|refine W.rt2 rfl ?_ ?_|refine W.rt3 rfl ?_ ?_ ?_)|refine W.lp 37 (α:=Nat) (fun j=>(per :: st).length - j) (fun j=>j ≤ (per :: st).length ∧ ∀ k,k < j → nnR ((per :: st).getD k default) = true) [6,7,10,36,37,38,39,40,41,42,43,44,45,46,47,48,49] (fun j=>[(36,NT j)]) (fun j=>[]) (0) ?_ ?_ ?_ fun j hj a w G=>?_|refine W.ag (x:=j) (j+1) ?_ ?_ ?_ ?_|refine W.lp 54 (α:=Nat) (fun k=>lo.length - k) (fun k=>k ≤ lo.length ∧ ∀ q,q < k → inB l.length (lo.getD q default) = true) [6,7,12,53,54,55,56,57,58,59,60,61,62,63,64,65,66] (fun k=>[(53,NT k)]) (fun k=>[]) (0) ?_ ?_ ?_ fun k hk a w G=>?_|refine W.ag (x:=k) (k+1) ?_ ?_ ?_ ?_|refine W.lp 70 (α:=Nat) (fun i=>l.length - i) (fun i=>i ≤ l.length ∧ ∀ q,q < i → 0 ≤ slF l per.val (st.map FR.val) q) [6,7,14,69,70,71,72,73,74,75,76,77,78,79,80,81,82,83,84,85,86,87,88,89,90,91,92] (fun i=>[(69,NT i)]) (fun i=>[]) (0) ?_ ?_ ?_ fun i hi a w G=>?_|refine W.ag (x:=i) (i+1) ?_ ?_ ?_ ?_|clear hK K|clear hu|exact True.intro|exact Nat.le_trans (by clear hp;omega) hp|exact Nat.le_trans (by clear hp;omega) hp.1|exact Nat.le_trans (by clear hp;omega) hp.2|(clear hp;omega)|apply And.intro|refine GI.i fun _=>?_|with_reducible rfl|decide|(simp only [List.length_cons,List.length_nil];omega))
  all_goals (try simp only [LIM,BIG,NB,List.cons_append,List.nil_append,List.length_cons,List.length_nil] at *)
  all_goals (try have hg0 : chW n l = 0:=by omega)
  all_goals (try have hz:=nnz hg0)
  all_goals (try have hj1 : j < (per :: st).length:=by simp only [List.length_cons];omega)
  all_goals (try have hst : ¬ (st.length : Int) ≠ n:=by omega)
  all_goals (try have hoi:=hz.2.2.2.2.1 i (by omega))
  all_goals (try have htu:=hz.2.2.2.2.2 i (by omega))
  all_goals (try unfold okW at hoi)
  all_goals (try have hv0:=vl_0 (per:=per) (st:=st) (lo:=lo) hg0 hst (fun k hk=>hj.2 k (by simp only [List.length_cons] at hk;omega)) (fun q hq=>hk.2 q (by omega)))
  all_goals (try have hv9:=vl_9 (per:=per) (st:=st) (lo:=lo) (j:=k) hg0 hst (fun k hk=>hj.2 k (by simp only [List.length_cons] at hk;omega)) (by omega) (by assumption))
  all_goals (try have htb:=tu_bd hz.2.2.2.2.2 hv0.2.2 _ (Nat.le_refl _))
  all_goals (try have hsg:=sl_get (l:=l) (st:=st) (j:=i) (p:=per.val) (by omega) (by omega))
  all_goals (try have hsy:=slB_y (l:=l) (p:=per.val) (s:=st.map FR.val) fun q hq=>hi.2 q (by omega))
  all_goals (try have hsn:=slB_n (l:=l) (p:=per.val) (s:=st.map FR.val) (j:=i) (by omega) (by rw [hsg];have:=cq_lt (by assumption);grind))
  all_goals first
    | omega
    | rfl
    | exact hv0.1
    | exact hv0.2.2
    | exact hz.2.2.2.2.2
    | exact (vl_c (by assumption)).1.symm
    | exact (vl_c (by assumption)).2.symm
    | exact (vl_10 hg0 (by assumption)).1.symm
    | exact (vl_10 hg0 (by assumption)).2.symm
    | exact (vl_3 hg0 hst hj1 (by assumption)).1.symm
    | exact (vl_3 hg0 hst hj1 (by assumption)).2.symm
    | exact hv9.1.symm
    | exact hv9.2.symm
    | (intro q hq
       rcases Nat.lt_or_eq_of_le (Nat.le_of_lt_succ hq) with e | e
       · exact hj.2 q e
       · subst e;exact nn_f (by assumption))
    | (intro q hq
       rcases Nat.lt_or_eq_of_le (Nat.le_of_lt_succ hq) with e | e
       · exact hk.2 q e
       · subst e;exact inB_y (by assumption))
    | (intro q hq
       rcases Nat.lt_or_eq_of_le (Nat.le_of_lt_succ hq) with e | e
       · exact hi.2 q e
       · subst e;rw [hsg];have:=cq_ge (by assumption);grind)
    | (rw [hv0.2.1,vf_n hsn];done)
    | (rw [hv0.2.1];exact (vf_z hsy (by assumption)).symm)
    | (rw [hv0.2.1];exact (vf_p hsy (by assumption)).symm)
    | skip
end Go.Proofs.YtjphllpnhjemjaaGreat
set_option linter.unusedVariables false
set_option linter.unusedSimpArgs false
set_option maxHeartbeats 4000000
set_option maxRecDepth 100000
set_option synthInstance.maxSize 100000
set_option synthInstance.maxHeartbeats 400000
namespace Go.Proofs.YtjphllpnhjemjaaGreat
open Go.RowKit (Below)
attribute [local irreducible] Go.Code.wp Go.wpList Go.bodyPost
theorem gdm {a b n : Int} : (((decide (a < 0) || decide (a ≥ n)) || decide (b < 0)) || decide (b ≥ n)) = (decide (min a b < 0) || decide (max a b ≥ n)):=by
  rw [Bool.eq_iff_iff]
  simp only [Bool.or_eq_true,decide_eq_true_eq]
  omega
section
variable {n m k i : Nat} {l : List WT} {p : Rat}
theorem rs_lt (h : laF n l p k < 0) : rsF n l p (m + 1) k = (roF n l p (k + 1)).1:=if_pos h
theorem rs_go (h : ¬ laF n l p k < 0) : rsF n l p (m + 1) k = rsF n l p m (k + 1):=if_neg h
end
def rsC (n : Nat) (l : List WT) (p : Rat) : Int:=if rsF n l p (n + 1) 0 = [] then 16 else 0
theorem rsC_n {n : Nat} {l : List WT} {p : Rat} (h : rsF n l p (n + 1) 0 = []) : rsC n l p = 16:=if_pos h
theorem rsC_y {n : Nat} {l : List WT} {p : Rat} (h : ¬ rsF n l p (n + 1) 0 = []) : rsC n l p = 0:=if_neg h
theorem vf_ref {l : List WT} {lo : List Int} {p : Rat} {s : List Rat} (h : slB l p s = true) (hp : ¬ p.num.sign = 0) (ha : ∀ k,k < lo.length → (l.getD (lo.getD k default).toNat default).2.1 = (l.getD (lo.getD ((k + 1) % lo.length) default).toNat default).1) : vfB l p s lo = (decide (tuF l lo lo.length > 0) && decide (cmpQ (tiF l lo lo.length) (p * (tuF l lo lo.length : Rat)) = 0)):=by
  rw [vf_p h hp,lpB_y ha]
  by_cases e : 0 < lo.length
  · rw [decide_eq_true e,Bool.true_and]
  · have e1 : lo.length = 0:=by omega
    rw [decide_eq_false e,Bool.false_and,Bool.false_and,e1,decide_eq_false (show ¬ tuF l lo 0 > 0 from Int.lt_irrefl 0),Bool.false_and]
theorem vf_adj {l : List WT} {lo : List Int} {p : Rat} {s : List Rat} {j : Nat} (h : slB l p s = true) (hp : ¬ p.num.sign = 0) (hj : j < lo.length) (hn : (l.getD (lo.getD j default).toNat default).2.1 ≠ (l.getD (lo.getD ((j + 1) % lo.length) default).toNat default).1) : vfB l p s lo = false:=by
  rw [vf_p h hp,lpB_n hj hn];rfl
theorem w38 {w : WT} {p : Rat} : Con Tryz.prog 38 [WTX w,QC 2200 p] (-1000000 ≤ w.2.2.2 ∧ w.2.2.2 ≤ 1000000) (QC 2400 (wgW p w)):=.o2 fun hok h1 h2 hp=>by
  refine St.enter (N:=13) Tryz.func38 rfl rfl rfl hok (enter2 h1 h2) fun a=>?_
  repeat' (first|((with_reducible refine gS_ ?_);first|((with_reducible refine gL_ ?_);first|refine W.run ?_ fun a w G=>?_|refine W.mv fun a w G=>?_|refine W.asg fun a w G=>?_|refine W.bx fun b a w G=>?_|(refine W.nn hK ?_;clear hK K)|refine W.nl ?_|refine W.al fun b a w G=>?_|refine W.st fun w=>?_|refine W.stp fun w=>?_|refine W.ste ?_ fun w=>?_)|((with_reducible refine gC_ ?_);first|refine W.reg fun K hK=>?_|refine W.reg1 ?_|refine W.sq fun K hK=>?_|refine W.ds ?_ (fun β a w G hu=>W.fin ?_ hu) mixedOrders (by kernel_rfl)|refine W.sk ?_|refine W.cd (fun hc=>?_) (fun hc=>?_)|refine W.cb (fun hc=>?_) (fun hc=>?_)|refine W.bl ?_|refine W.ex ?_|refine W.rt ?_)|((with_reducible refine W.kn hK ?_);clear hK K)|(with_reducible first|refine W.bn ?_|refine W.xt ?_|refine W.xb ?_|refine W.xo ?_|refine W.tr ?_|refine W.br ?_)|refine W.rt1 rfl ?_|refine W.rt2 rfl ?_ ?_|refine W.rt3 rfl ?_ ?_ ?_)|clear hK K|clear hu|exact True.intro|exact Nat.le_trans (by clear hp;omega) hp|exact Nat.le_trans (by clear hp;omega) hp.1|exact Nat.le_trans (by clear hp;omega) hp.2|(clear hp;omega)|apply And.intro|refine GI.i fun _=>?_|with_reducible rfl|decide|(simp only [List.length_cons,List.length_nil];omega))
  all_goals first | omega | decide | rfl | skip
instance {w : WT} {p : Rat} {τ2 : MT} [j2 : NQ τ2 (QC 2200 p)] : Con Tryz.prog 38 [WTX w,τ2] (-1000000 ≤ w.2.2.2 ∧ w.2.2.2 ≤ 1000000) (QC 2400 (wgW p w)):=.o2 fun hok h1 h2 hp=>w38.c2 hok h1 (j2.h h2) hp
theorem wgR {m : Nat} {w : WT} {r : FR} : Con Tryz.prog 38 [WTX w,FX m r] (m ≤ NB ∧ -1000000 ≤ w.2.2.2 ∧ w.2.2.2 ≤ 1000000) (QC (m + 193) (wgW r.val w)):=.o2 fun hok h1 h2 hp=>by
  refine St.enter (N:=13) Tryz.func38 rfl rfl rfl hok (enter2 h1 h2) fun a=>?_
  repeat' (first|((with_reducible refine gS_ ?_);first|((with_reducible refine gL_ ?_);first|refine W.run ?_ fun a w G=>?_|refine W.mv fun a w G=>?_|refine W.asg fun a w G=>?_|refine W.bx fun b a w G=>?_|(refine W.nn hK ?_;clear hK K)|refine W.nl ?_|refine W.al fun b a w G=>?_|refine W.st fun w=>?_|refine W.stp fun w=>?_|refine W.ste ?_ fun w=>?_)|((with_reducible refine gC_ ?_);first|refine W.reg fun K hK=>?_|refine W.reg1 ?_|refine W.sq fun K hK=>?_|refine W.ds ?_ (fun β a w G hu=>W.fin ?_ hu) mixedOrders (by kernel_rfl)|refine W.sk ?_|refine W.cd (fun hc=>?_) (fun hc=>?_)|refine W.cb (fun hc=>?_) (fun hc=>?_)|refine W.bl ?_|refine W.ex ?_|refine W.rt ?_)|((with_reducible refine W.kn hK ?_);clear hK K)|(with_reducible first|refine W.bn ?_|refine W.xt ?_|refine W.xb ?_|refine W.xo ?_|refine W.tr ?_|refine W.br ?_)|refine W.rt1 rfl ?_|refine W.rt2 rfl ?_ ?_|refine W.rt3 rfl ?_ ?_ ?_)|clear hK K|clear hu|exact True.intro|exact Nat.le_trans (by clear hp;omega) hp|exact Nat.le_trans (by clear hp;omega) hp.1|exact Nat.le_trans (by clear hp;omega) hp.2|(clear hp;omega)|apply And.intro|refine GI.i fun _=>?_|with_reducible rfl|decide|(simp only [List.length_cons,List.length_nil];omega))
  all_goals first | omega | decide | rfl | (simp only [BIG,NB] at *;omega) | skip
instance {m : Nat} {w : WT} {r : FR} : Con Tryz.prog 38 [WTX w,FX m r] (m ≤ NB ∧ -1000000 ≤ w.2.2.2 ∧ w.2.2.2 ≤ 1000000) (QC (m + 193) (wgW r.val w)):=wgR
instance {n : Int} {l : List WT} : Con Tryz.prog 11 [IT n,WTS l] (True) (IT (chW n l)):=.o2 fun hok h1 h2 hp=>by
  refine St.enter (N:=76) Tryz.func11 rfl rfl rfl hok (enter2 h1 h2) fun a=>?_
  have hlim:=LS.lenM h2
  simp only [LIM] at hlim
  repeat' (first|((with_reducible refine gS_ ?_);first|((with_reducible refine gL_ ?_);first|refine W.run ?_ fun a w G=>?_|refine W.mv fun a w G=>?_|refine W.asg fun a w G=>?_|refine W.bx fun b a w G=>?_|(refine W.nn hK ?_;clear hK K)|refine W.nl ?_|refine W.al fun b a w G=>?_|refine W.st fun w=>?_|refine W.stp fun w=>?_|refine W.ste ?_ fun w=>?_)|((with_reducible refine gC_ ?_);first|refine W.reg fun K hK=>?_|refine W.reg1 ?_|refine W.sq fun K hK=>?_|refine W.ds ?_ (fun β a w G hu=>W.fin ?_ hu) mixedOrders (by kernel_rfl)|refine W.sk ?_|refine W.cd (fun hc=>?_) (fun hc=>?_)|refine W.cb (fun hc=>?_) (fun hc=>?_)|refine W.bl ?_|refine W.ex ?_|refine W.rt ?_)|((with_reducible refine W.kn hK ?_);clear hK K)|(with_reducible first|refine W.bn ?_|refine W.xt ?_|refine W.xb ?_|refine W.xo ?_|refine W.tr ?_|refine W.br ?_)|refine W.rt1 rfl ?_|refine W.rt2 rfl ?_ ?_|refine W.rt3 rfl ?_ ?_ ?_)|refine W.lp 15 (α:=Nat) (fun j=>l.length - j) (fun j=>j ≤ l.length ∧ fsW n l = fsW n (l.drop j)) [4,5,15,16,17,18,19,20,21,22,23,24,25,26,27,28,29,30,31,32,33,34,35,36,37,38,39,40,41,42,43,44,45,46,47,48,49,50,51,52,53,54,55,56,57,58,59,60,61,62,63,64,65,66,67,68,69,70,71,72,73,74,75] (fun j=>[(5,NT j)]) (fun j=>[]) (0) ?_ ?_ ?_ fun j hj a w G=>?_|refine W.ag (x:=j) (j+1) ?_ ?_ ?_ ?_|clear hK K|clear hu|exact True.intro|exact Nat.le_trans (by clear hp;omega) hp|exact Nat.le_trans (by clear hp;omega) hp.1|exact Nat.le_trans (by clear hp;omega) hp.2|(clear hp;omega)|apply And.intro|refine GI.i fun _=>?_|with_reducible rfl|decide|(simp only [List.length_cons,List.length_nil];omega))
  all_goals (try rw [gdm] at *)
  all_goals (try have g9:=gd_9 (n:=n) (w:=l.getD j default) (by assumption))
  all_goals (try have g3:=gd_3 (n:=n) (w:=l.getD j default) (by assumption) (by assumption))
  all_goals (try have g0:=gd_0 (n:=n) (w:=l.getD j default) (by assumption) (by assumption))
  all_goals first
    | omega
    | (have h9:=ch_3 (n:=n) (l:=l) (by assumption);first | exact h9 | exact h9.symm | (rw [h9];done) | (rw [← h9];done))
    | (have h9:=ch_4 (n:=n) (l:=l) (by assumption) (by assumption);first | exact h9 | exact h9.symm | (rw [h9];done) | (rw [← h9];done))
    | (have h9:=(ch_f (by assumption) (by assumption)).trans (hj.2.trans ((fs_stop (n:=n) (l:=l) (j:=j) (by omega) (by rw [g9];decide)).trans g9));first | exact h9 | exact h9.symm | (rw [h9];done) | (rw [← h9];done))
    | (have h9:=(ch_f (by assumption) (by assumption)).trans (hj.2.trans ((fs_stop (n:=n) (l:=l) (j:=j) (by omega) (by rw [g3];decide)).trans g3));first | exact h9 | exact h9.symm | (rw [h9];done) | (rw [← h9];done))
    | (have h9:=(ch_f (by assumption) (by assumption)).trans (hj.2.trans (fs_end (n:=n) (l:=l) (j:=j) (by omega)));first | exact h9 | exact h9.symm | (rw [h9];done) | (rw [← h9];done))
    | exact hj.2.trans (fs_drop (by omega) g0)
    | rfl
    | skip
theorem chkRR {n : Int} {l : List WT} : Con Tryz.prog 11 [IT n,WRS l] (64 < l.length) (IT (chW n l)):=.o2 fun hok h1 h2 hp=>by
  refine St.enter (N:=76) Tryz.func11 rfl rfl rfl hok (enter2 h1 h2) fun a=>?_
  repeat' (first|((with_reducible refine gS_ ?_);first|((with_reducible refine gL_ ?_);first|refine W.run ?_ fun a w G=>?_|refine W.mv fun a w G=>?_|refine W.asg fun a w G=>?_|refine W.bx fun b a w G=>?_|(refine W.nn hK ?_;clear hK K)|refine W.nl ?_|refine W.al fun b a w G=>?_|refine W.st fun w=>?_|refine W.stp fun w=>?_|refine W.ste ?_ fun w=>?_)|((with_reducible refine gC_ ?_);first|with_reducible refine W.cbt (by exact decide_eq_true (show ((l.length : Nat) : Int) > 64 by omega)) ?_|refine W.reg fun K hK=>?_|refine W.reg1 ?_|refine W.sq fun K hK=>?_|refine W.ds ?_ (fun β a w G hu=>W.fin ?_ hu) mixedOrders (by kernel_rfl)|refine W.sk ?_|refine W.cd (fun hc=>?_) (fun hc=>?_)|refine W.cb (fun hc=>?_) (fun hc=>?_)|refine W.bl ?_|refine W.ex ?_|refine W.rt ?_)|((with_reducible refine W.kn hK ?_);clear hK K)|(with_reducible first|refine W.bn ?_|refine W.xt ?_|refine W.xb ?_|refine W.xo ?_|refine W.tr ?_|refine W.br ?_)|refine W.rt1 rfl ?_|refine W.rt2 rfl ?_ ?_|refine W.rt3 rfl ?_ ?_ ?_)|clear hK K|clear hu|exact True.intro|exact Nat.le_trans (by clear hp;omega) hp|exact Nat.le_trans (by clear hp;omega) hp.1|exact Nat.le_trans (by clear hp;omega) hp.2|(clear hp;omega)|apply And.intro|refine GI.i fun _=>?_|with_reducible rfl|decide|(simp only [List.length_cons,List.length_nil];omega))
  all_goals first
    | omega
    | (have h9:=ch_3 (n:=n) (l:=l) (by assumption);first | exact h9 | exact h9.symm | (rw [h9];done) | (rw [← h9];done))
    | (have h9:=ch_4 (n:=n) (l:=l) (by assumption) (by omega);first | exact h9 | exact h9.symm | (rw [h9];done) | (rw [← h9];done))
    | rfl
    | skip
instance {n : Int} {l : List WT} : Con Tryz.prog 11 [IT n,WRS l] (64 < l.length) (IT (chW n l)):=chkRR
theorem w14 {n : Nat} {l : List WT} {p : Rat} : Con Tryz.prog 14 [NT n,WTS l,QC 2200 p] (1 ≤ n ∧ n ≤ 16 ∧ l.length ≤ 64 ∧ OKL n l ∧ (∀ j,j < l.length → 0 ≤ (l.getD j default).2.2.2 ∧ (l.getD j default).2.2.2 ≤ 8)) (MT.tup2 (QNS NB (rsF n l p (n + 1) 0)) (IT (rsC n l p))):=.o3 fun hok h1 h2 h3 hp=>by
  refine St.enter (N:=63) Tryz.func14 rfl rfl rfl hok (enter3 h1 h2 h3) fun a=>?_
  obtain ⟨hp1,hp2,hp3,hp4,hp5⟩:=hp
  have hw:=wts_w h2 h3 hp5
  have own14 : OwnAt 14:=⟨⟩
  repeat' (first|((with_reducible refine gS_ ?_);first|((with_reducible refine gL_ ?_);first|refine W.run ?_ fun a w G=>?_|refine W.mv fun a w G=>?_|refine W.asg fun a w G=>?_|refine W.bx fun b a w G=>?_|(refine W.nn hK ?_;clear hK K)|refine W.nl ?_|refine W.al fun b a w G=>?_|refine W.st fun w=>?_|refine W.stp fun w=>?_|refine W.ste ?_ fun w=>?_)|((with_reducible refine gC_ ?_);first|with_reducible refine W.casth (x:=⟨_,_,_,QC (NB + 2400 + 1) _⟩) (τ':=QC NB _) (QC.re (x_qb hp4 hp3 hp2 hw (k:=k) (i:=i) (by omega) (by omega))) ?_|refine W.reg fun K hK=>?_|refine W.reg1 ?_|refine W.sq fun K hK=>?_|refine W.ds ?_ (fun β a w G hu=>W.fin ?_ hu) mixedOrders (by kernel_rfl)|refine W.sk ?_|refine W.cd (fun hc=>?_) (fun hc=>?_)|refine W.cb (fun hc=>?_) (fun hc=>?_)|refine W.bl ?_|refine W.ex ?_|refine W.rt ?_)|((with_reducible refine W.kn hK ?_);clear hK K)|(with_reducible first|refine W.bn ?_|refine W.xt ?_|refine W.xb ?_|refine W.xo ?_|refine W.tr ?_|refine W.br ?_)|refine W.rt1 rfl ?_|refine W.rt2 rfl ?_ ?_|refine W.rt3 rfl ?_ ?_ ?_)|refine W.mk (mt:=FX 1 default) (QC NB) (0:Rat) ?_ fun b a w G=>?_|((have hil : i = l.length:=by omega);subst hil)|refine W.fz 6 ?_ fun G=>?_|refine W.lp 15 (α:=Nat) (fun k=>n + 1 - k) (fun k=>k ≤ n + 1 ∧ rsF n l p (n + 1) 0 = rsF n l p (n + 1 - k) k) [6,7,9,10,11,12,15,16,17,18,19,20,21,22,23,24,25,26,27,28,29,30,31,32,33,34,35,36,37,38,39,40,41,42,43,44,45,46,47,48,49,50,51,52,53,54,55,56,57,58,59,60,61,62] (fun k=>[(9,NT k)]) (fun k=>[(8,ROWS (some 3) ((roF n l p k).1.map (QC NB)))]) (0) ?_ ?_ ?_ fun k hk a w G=>?_|refine W.ag (x:=k) (k+1) ?_ ?_ ?_ ?_|refine W.lp 20 (α:=Nat) (fun i=>l.length - i) (fun i=>i ≤ l.length) [10,11,12,20,21,22,23,24,25,26,27,28,29,30,31,32,33,34,35,36,37,38,39,40,41,42,43,44,45,46,47,48,49,50,51,52,53,54,55,56,57,58,59] (fun i=>[(11,NT i),(10,BT (decide (0 ≤ (rdF l p (roF n l p k).1 (roF n l p k).2 i).2.2)))]) (fun i=>[(8,ROWS (some 3) ((rdF l p (roF n l p k).1 (roF n l p k).2 i).1.map (QC NB)))]) (0) ?_ ?_ ?_ fun i hi a w G=>?_|refine W.ag (x:=i) (i+1) ?_ ?_ ?_ ?_|clear hK K|clear hu|exact True.intro|exact Nat.le_trans (by clear hp;omega) hp|exact Nat.le_trans (by clear hp;omega) hp.1|exact Nat.le_trans (by clear hp;omega) hp.2|(clear hp;omega)|apply And.intro|refine GI.i fun _=>?_|with_reducible rfl|decide|(simp only [List.length_cons,List.length_nil];omega))
  all_goals (try simp only [List.length_replicate] at *)
  all_goals (try have hr1 : (roF n l p k).1.length = n:=roF_len.1)
  all_goals (try have hr2 : (roF n l p k).2.length = n:=roF_len.2)
  all_goals (try have hd1 : (rdF l p (roF n l p k).1 (roF n l p k).2 i).1.length = n:=rdF_len.1.trans hr1)
  all_goals (try have hd2 : (rdF l p (roF n l p k).1 (roF n l p k).2 i).2.1.length = n:=rdF_len.2.trans hr2)
  all_goals (try have he1 : (rdF l p (roF n l p k).1 (roF n l p k).2 l.length).1.length = n:=rdF_len.1.trans hr1)
  all_goals (try have hoi:=hp4 i (by omega))
  all_goals (try have hoi1:=hoi.1)
  all_goals (try have hoi2:=hoi.2.1)
  all_goals (try have hoi3:=hoi.2.2.1)
  all_goals (try have hoi4:=hoi.2.2.2)
  all_goals (try have hcm:=stp_y (p:=p) (w:=l.getD i default) (i:=i) (r:=rdF l p (roF n l p k).1 (roF n l p k).2 i) (by assumption))
  all_goals (try have hcn:=stp_n (p:=p) (w:=l.getD i default) (i:=i) (r:=rdF l p (roF n l p k).1 (roF n l p k).2 i) (by assumption))
  all_goals (try have hS : rdF l p (roF n l p k).1 (roF n l p k).2 (i + 1) = stp p (l.getD i default) i (rdF l p (roF n l p k).1 (roF n l p k).2 i):=rfl)
  all_goals (try have htu:=hp5 i (by omega))
  all_goals (try have hnk : n + 1 - k = (n - k) + 1:=by omega)
  all_goals (try have hla : laF n l p k = (rdF l p (roF n l p k).1 (roF n l p k).2 l.length).2.2:=rfl)
  all_goals (try have hlt : laF n l p k < 0:=by simp only [Bool.not_eq_true',decide_eq_false_iff_not] at hc;omega)
  all_goals (try have hge : ¬ laF n l p k < 0:=by simp only [Bool.not_eq_false',decide_eq_true_eq] at hc;omega)
  all_goals (try have hne : ¬ rsF n l p (n + 1) 0 = []:=by rw [hk.2,hnk,rs_lt hlt];intro e0;have e9:=congrArg List.length e0;rw [roF_len.1] at e9;exact absurd e9 (by simp;omega))
  all_goals first
    | omega
    | rfl
    | (simp only [LIM];omega)
    | (rw [hS,hcm];done)
    | (rw [hS,hcn];done)
    | (rw [hS,hcm];exact (decide_eq_true hoi3).symm)
    | (rw [hS,hcm];exact decide_eq_true hoi3)
    | exact (rsC_y hne).symm
    | exact rsC_y hne
    | (rw [hk.2,hnk,rs_lt hlt];done)
    | (rw [hk.2,hnk,rs_lt hlt];rfl)
    | (rw [hk.2,hnk,rs_go hge];congr 1;omega)
    | (have e9 : k = n + 1 := by omega
       subst e9
       have e8 : rsF n l p (n + 1) 0 = []:=by rw [hk.2,Nat.sub_self];rfl
       first | exact e8 | exact e8.symm | exact rsC_n e8 | exact (rsC_n e8).symm)
    | skip
instance {n : Nat} {l : List WT} {p : Rat} {τ3 : MT} [j3 : NQ τ3 (QC 2200 p)] : Con Tryz.prog 14 [NT n,WTS l,τ3] (1 ≤ n ∧ n ≤ 16 ∧ l.length ≤ 64 ∧ OKL n l ∧ (∀ j,j < l.length → 0 ≤ (l.getD j default).2.2.2 ∧ (l.getD j default).2.2.2 ≤ 8)) (MT.tup2 (QNS NB (rsF n l p (n + 1) 0)) (IT (rsC n l p))):=.o3 fun hok h1 h2 h3 hp=>w14.c3 hok h1 h2 (j3.h h3) hp
instance {n : Int} {m : Nat} {l : List WT} {r : FR} : Con Tryz.prog 14 [IT n,WTS l,FX m r] ((chW n l = 0 ∧ r.ok = true) ∧ m ≤ 2200) (MT.tup2 (QNS NB (rsF n.toNat l r.val (n.toNat + 1) 0)) (IT (rsC n.toNat l r.val))):=.o3 fun hok h1 h2 h3 hp=>by
  have hz:=nnz hp.1.1
  exact (inferInstance : Con Tryz.prog 14 [NT n.toNat,WTS l,QC 2200 r.val] _ _).c3 hok (nt_of (by omega) h1) h2 (FX.qcv hp.1.2 hp.2 h3) ⟨hz.2.1,hz.2.2.1,hz.2.2.2.1,hz.2.2.2.2.1,hz.2.2.2.2.2⟩
end Go.Proofs.YtjphllpnhjemjaaGreat
set_option linter.unusedVariables false
set_option linter.unusedSimpArgs false
namespace Go.Proofs.YtjphllpnhjemjaaGreat
open Go.RowKit (Below)
section
variable {P : Program} {B : List BX} {L L' : List (Nat × MT)} {W0 W1 : World} {G0 G1 : Gh} {N : Nat} {a : Act} {w : World} {G : Gh} {Q : Exit → Act → World → Prop} {p : Prop} {K : Act → World → Prop} {d : Nat} {ty : TypeId} {k : Option Nat} {τ : MT}
theorem St.apart (S : St W0 G0 N L B a w G) : St w G N L [] a w G:=⟨Nxt.refl S.ok,S.size,S.dfr,S.ty,fun i x h=>by simp at h,fun i j x y h=>by simp at h⟩
theorem St.joined {x : BX} {a' : Act} {w' : World} {G' : Gh} (S : St W0 G0 N L B a w G) (S' : St w G N L' [x] a' w' G') : St W0 G0 N L' (x :: B) a' w' G':=by
  have hx:=S'.bx 0 x rfl
  have hlt : ∀ (i : Nat) (y : BX),B[i]? = some y → y.b < w.heap.size:=fun i y h=>(S.bx i y h).lt
  refine ⟨S.nxt.trans S'.nxt,S'.size,S'.dfr,S'.ty,fun i y h=>?_,fun i j y z hy hz hij=>?_⟩
  · cases i with
    | zero=>cases h;exact ⟨Nat.le_trans S.nxt.below.size hx.1,hx.2⟩
    | succ i=>exact (S.bx i y (by simpa using h)).nxt S'.nxt
  · cases i with
    | zero =>
      cases hy
      cases j with
      | zero=>exact absurd rfl hij
      | succ j=>have:=hlt j z (by simpa using hz);have:=hx.1;omega
    | succ i =>
      cases j with
      | zero=>cases hz;have:=hlt i y (by simpa using hy);have:=hx.1;omega
      | succ j=>exact S.nd i j y z (by simpa using hy) (by simpa using hz) (by omega)
theorem W.sep {c : Code} {arr : Array Oper} {id : Nat} (num d : Nat) (ty : TypeId) (k : Option Nat) (τ : MT) (he : id = num) (h1 : ∀ b a w G, St W0 G0 N ((d, PB b) :: L) (⟨b, ty, k, τ⟩ :: B) a w G → c.wp P Q a w)
    (h2 : ∀ (W1 : World) (G1 : Gh) (K : Act → World → Prop),(∀ b a w G,St W1 G1 N ((d,PB b) :: L) [⟨b,ty,k,τ⟩] a w G → K a w) → St W1 G1 N L [] a w G → (Code.region id arr true).wp P (Exit.then K Q) a w) :
    St W0 G0 N L B a w G → (Code.seq (.region id arr true) c).wp P Q a w:=fun S=>wp_seq_k fun K hK=>h2 w G K (fun b a' w' G' S'=>hK a' w' (h1 b a' w' G' (S.joined S'))) S.apart
theorem W.sepN (h : p → K a w) : p → Exit.then K Q .normal a w:=h
theorem W.sepE {Lf : List (Nat × MT)} {b : Nat} (hK : ∀ b a w G,St W1 G1 N ((d,PB b) :: L) [⟨b,ty,k,τ⟩] a w G → K a w) [hl : Lk Lf d (PB b)] (hs : ∀ p ∈ L,p ∈ Lf) : St W1 G1 N Lf [⟨b,ty,k,τ⟩] a w G → K a w:=fun S =>
  hK b a w G (S.only fun p hp=>by
    rcases List.mem_cons.1 hp with rfl | hp
    · exact hl.m
    · exact hs p hp)
end
end Go.Proofs.YtjphllpnhjemjaaGreat
