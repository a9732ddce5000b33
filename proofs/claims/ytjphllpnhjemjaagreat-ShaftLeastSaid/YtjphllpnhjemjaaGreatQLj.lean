import Derived.Test.YtjphllpnhjemjaaGreatQLi
set_option linter.unusedVariables false
set_option linter.unusedSimpArgs false
set_option linter.unusedVariables false
set_option linter.unusedSimpArgs false
namespace Go.Proofs.YtjphllpnhjemjaaGreat
def mxQ (x y : Rat) : Rat:=if cmpQ x y ≥ 0 then x else y
theorem cmpB_ge {x y : Rat} : cmpQ x y ≥ 0 ↔ y ≤ x:=by
  unfold cmpQ
  split
  · rename_i h;exact ⟨fun h1=>absurd h1 (by decide),fun h1=>by grind⟩
  · rename_i h
    have h':=Rat.not_lt.1 h
    split
    · exact ⟨fun _=>h',fun _=>by decide⟩
    · exact ⟨fun _=>h',fun _=>by decide⟩
theorem mxQ_l {x y : Rat} : x ≤ mxQ x y:=by
  unfold mxQ
  split
  · exact Rat.le_refl
  · rename_i h;rw [cmpB_ge] at h;grind
theorem mxQ_r {x y : Rat} : y ≤ mxQ x y:=by
  unfold mxQ
  split
  · rename_i h;exact cmpB_ge.1 h
  · exact Rat.le_refl
theorem mxQ_le {x y z : Rat} (hx : x ≤ z) (hy : y ≤ z) : mxQ x y ≤ z:=by unfold mxQ;split <;> assumption
def pkV (per : Rat) (x : BS) (k : Nat) : Rat:=if x.1 = true ∧ k ≠ 0 then mxQ per (x.2 / (((k : Nat) : Int) : Rat)) else per
theorem pkV_ge {per : Rat} {x : BS} {k : Nat} : per ≤ pkV per x k:=by unfold pkV;split;exact mxQ_l;exact Rat.le_refl
section
variable (n T : Nat) (t : List BS)
def pkF (e : Nat) (per : Rat) : Nat → Rat
  | 0=>per
  | k + 1=>pkV (pkF e per k) (t.getD (ixT n T e e k) default) k
def peF (per : Rat) : Nat → Rat
  | 0=>per
  | e + 1=>pkF n T t e (peF per e) (T + 1)
end
def psF (n T : Nat) (l : List WT) : Nat → Rat
  | 0=>0
  | s + 1=>peF n T (tbF n T l (s + 1)) (psF n T l s) n
section
variable {n T : Nat} {t : List BS}
theorem pkF_mono {e : Nat} {per : Rat} : ∀ m k,k ≤ m → pkF n T t e per k ≤ pkF n T t e per m
  | 0, k, h => by obtain rfl : k = 0 := by omega
                  exact Rat.le_refl
  | m + 1,k,h=>by
    rcases Nat.lt_or_eq_of_le h with h1 | h1
    · exact Rat.le_trans (pkF_mono m k (by omega)) pkV_ge
    · subst h1;exact Rat.le_refl
theorem pkF_ge {e : Nat} {per : Rat} {m k : Nat} (hk : k < m) (h0 : k ≠ 0) (h : (t.getD (ixT n T e e k) default).1 = true) : (t.getD (ixT n T e e k) default).2 / (((k : Nat) : Int) : Rat) ≤ pkF n T t e per m:=by
  refine Rat.le_trans ?_ (pkF_mono m (k + 1) hk)
  show _ ≤ pkV _ _ _
  unfold pkV
  rw [if_pos ⟨h,h0⟩]
  exact mxQ_r
theorem pkF_le {e : Nat} {per z : Rat} (hp : per ≤ z) : ∀ m,(∀ k,k < m → k ≠ 0 → (t.getD (ixT n T e e k) default).1 = true → (t.getD (ixT n T e e k) default).2 / (((k : Nat) : Int) : Rat) ≤ z) → pkF n T t e per m ≤ z
  | 0,_=>hp
  | m + 1,h=>by
    have ih:=pkF_le hp m fun k hk=>h k (by omega)
    show pkV _ _ _ ≤ z
    unfold pkV
    split
    · rename_i hc;exact mxQ_le ih (h m (Nat.lt_succ_self m) hc.2 hc.1)
    · exact ih
theorem peF_mono {per : Rat} : ∀ m e,e ≤ m → peF n T t per e ≤ peF n T t per m
  | 0, e, h => by obtain rfl : e = 0 := by omega
                  exact Rat.le_refl
  | m + 1,e,h=>by
    rcases Nat.lt_or_eq_of_le h with h1 | h1
    · exact Rat.le_trans (peF_mono m e (by omega)) (pkF_mono (T + 1) 0 (Nat.zero_le _))
    · subst h1;exact Rat.le_refl
theorem peF_ge {per : Rat} {m e k : Nat} (he : e < m) (hk : k ≤ T) (h0 : k ≠ 0) (h : (t.getD (ixT n T e e k) default).1 = true) : (t.getD (ixT n T e e k) default).2 / (((k : Nat) : Int) : Rat) ≤ peF n T t per m :=
  Rat.le_trans (pkF_ge (by omega) h0 h) (peF_mono m (e + 1) he)
theorem peF_le {per z : Rat} (hp : per ≤ z) : ∀ m,(∀ e k,e < m → k ≤ T → k ≠ 0 → (t.getD (ixT n T e e k) default).1 = true → (t.getD (ixT n T e e k) default).2 / (((k : Nat) : Int) : Rat) ≤ z) → peF n T t per m ≤ z
  | 0,_=>hp
  | m + 1,h=>pkF_le (peF_le hp m fun e k he=>h e k (by omega)) _ fun k hk=>h m k (Nat.lt_succ_self m) (by omega)
end
section
variable {n T : Nat} {l : List WT}
theorem psF_mono : ∀ m s,s ≤ m → psF n T l s ≤ psF n T l m
  | 0, s, h => by obtain rfl : s = 0 := by omega
                  exact Rat.le_refl
  | m + 1,s,h=>by
    rcases Nat.lt_or_eq_of_le h with h1 | h1
    · exact Rat.le_trans (psF_mono m s (by omega)) (peF_mono n 0 (Nat.zero_le _))
    · subst h1;exact Rat.le_refl
theorem psF_nn (m : Nat) : 0 ≤ psF n T l m:=psF_mono m 0 (Nat.zero_le _)
theorem psF_ge {m s e k : Nat} (hs : s < m) (he : e < n) (hk : k ≤ T) (h0 : k ≠ 0) (h : ((tbF n T l (s + 1)).getD (ixT n T e e k) default).1 = true) : ((tbF n T l (s + 1)).getD (ixT n T e e k) default).2 / (((k : Nat) : Int) : Rat) ≤ psF n T l m :=
  Rat.le_trans (peF_ge he hk h0 h) (psF_mono m (s + 1) hs)
theorem psF_le {z : Rat} (hz : 0 ≤ z) : ∀ m,(∀ s e k,s < m → e < n → k ≤ T → k ≠ 0 → ((tbF n T l (s + 1)).getD (ixT n T e e k) default).1 = true → ((tbF n T l (s + 1)).getD (ixT n T e e k) default).2 / (((k : Nat) : Int) : Rat) ≤ z) → psF n T l m ≤ z
  | 0,_=>hz
  | m + 1,h=>peF_le (psF_le hz m fun s e k hs=>h s e k (by omega)) _ fun e k=>h m e k (Nat.lt_succ_self m)
end
def mxF (l : List WT) : Nat → Int
  | 0=>0
  | j + 1=>max (mxF l j) (l.getD j default).2.2.2
theorem mxF_nn {l : List WT} : ∀ j,0 ≤ mxF l j
  | 0=>Int.le_refl 0
  | j + 1=>Int.le_trans (mxF_nn j) (Int.le_max_left _ _)
theorem mxF_ge {l : List WT} : ∀ j i,i < j → (l.getD i default).2.2.2 ≤ mxF l j
  | 0,i,h=>absurd h (Nat.not_lt_zero i)
  | j + 1,i,h=>by
    rcases Nat.lt_or_eq_of_le (Nat.le_of_lt_succ h) with e | e
    · exact Int.le_trans (mxF_ge j i e) (Int.le_max_left _ _)
    · subst e;exact Int.le_max_right _ _
theorem mxF_le {l : List WT} {M : Int} (h0 : 0 ≤ M) : ∀ j,(∀ i,i < j → (l.getD i default).2.2.2 ≤ M) → mxF l j ≤ M
  | 0,_=>h0
  | j + 1,h=>Int.max_le.2 ⟨mxF_le h0 j fun i hi=>h i (by omega),h j (Nat.lt_succ_self j)⟩
def tmF (n : Nat) (l : List WT) : Nat:=(mxF l l.length * (n : Int)).toNat
section
variable {n : Nat} {l : List WT}
theorem tmF_int : ((tmF n l : Nat) : Int) = mxF l l.length * (n : Int):=Int.toNat_of_nonneg (Int.mul_nonneg (mxF_nn _) (Int.natCast_nonneg n))
theorem it_nn (hl : OKL n l) (ht : TNN l) (hn : 0 < n) : ∀ j,(∀ i,i < j → goF n l i = true) → 0 ≤ (itF n l j).1
  | 0,_=>Rat.le_refl
  | j + 1,h=>Rat.le_trans (it_nn hl ht hn j fun i hi=>h i (by omega)) (Rat.le_of_lt (it_up hl ht hn (h j (Nat.lt_succ_self j))).1)
theorem wk_in (hl : OKL n l) (ht : TNN l) {a s : Nat} {k : Int} {tm : Rat} (ha : a < n) (hs : s ≤ n) (w : Wy l a s a k tm) : k ≤ (tmF n l : Nat):=by
  have h:=(w.turns (M:=mxF l l.length) fun i hi=>⟨ht i hi,mxF_ge _ i hi⟩).2
  rw [tmF_int]
  refine Int.le_trans h (Int.mul_le_mul_of_nonneg_left (by omega) (mxF_nn _))
theorem per_bad (hl : OKL n l) (ht : TNN l) (hn : 0 < n) {s e : Nat} (he : e < n) (h1 : ((tbF n (tmF n l) l (s + 1)).getD (ixT n (tmF n l) e e 0) default).1 = true) (h2 : 0 < ((tbF n (tmF n l) l (s + 1)).getD (ixT n (tmF n l) e e 0) default).2) : lsE n l = 16:=by
  have hw:=(TI.tb (T:=tmF n l) hl ht (s + 1)).snd e e 0 he he (Nat.zero_le _) h1
  unfold lsE
  rw [if_pos]
  apply Classical.byContradiction
  intro hx
  rw [rx_rs hl] at hx
  obtain ⟨P,hP⟩:=(rs_iff hl hn).1 hx
  have:=hw.closed hP
  rw [show (((0 : Nat) : Int) : Rat) = 0 from rfl,Rat.zero_mul] at this
  grind
theorem per_ok (hl : OKL n l) (ht : TNN l) (hn : 0 < n) (hnb : ∀ s e,s < n → e < n → ((tbF n (tmF n l) l (s + 1)).getD (ixT n (tmF n l) e e 0) default).1 = true → ¬ 0 < ((tbF n (tmF n l) l (s + 1)).getD (ixT n (tmF n l) e e 0) default).2) : lsE n l = 0 ∧ lsP n l = psF n (tmF n l) l n:=by
  have hjs:=js_ok hl ht hn
  have hx : (rxF n l (itF n l (jsF n l)).1 (n + 1) 0).1 ≠ []:=by
    intro h
    rcases rx_dich (p:=(itF n l (jsF n l)).1) hl hn with d | d | d
    · exact d.1 h
    · obtain ⟨_,d1,d2,d3,d4⟩:=d
      have hg:=hjs.1
      unfold goF at hg
      rw [decide_eq_true h,Bool.true_and,decide_eq_false_iff_not,Classical.not_not] at hg
      rw [hg,show ((0 : Int) : Rat) = 0 from rfl,Rat.zero_mul] at d4
      obtain ⟨b,hw,_,hb⟩:=wk_loop d1 (rx_lpd hl hn) ⟨n,hl⟩ _ (Nat.le_refl _)
      have hb':=hb rfl (by omega)
      subst hb'
      have hi0:=d1 0 (by omega)
      have hfr:=(hl ((rxF n l (itF n l (jsF n l)).1 (n + 1) 0).2.getD 0 default).toNat (by omega)).fr
      have hc:=(TI.tb (T:=tmF n l) hl ht _).cmp _ _ _ _ hfr hw (wk_in hl ht hfr d3 hw)
      rw [ti_all.2,ti_all.1,hg,Int.toNat_zero] at hc
      have hlen : (rxF n l (itF n l (jsF n l)).1 (n + 1) 0).2.length = ((rxF n l (itF n l (jsF n l)).1 (n + 1) 0).2.length - 1) + 1:=by omega
      rw [hlen] at hc
      refine hnb _ _ (by omega) hfr hc.1 ?_
      have h5:=hc.2
      grind
    · exact rx_two hl hn d
  have hE : lsE n l = 0:=if_neg hx
  refine ⟨hE,?_⟩
  have hP : lsP n l = (itF n l (jsF n l)).1:=if_pos hE
  rw [hP]
  have hnn:=it_nn hl ht hn (jsF n l) hjs.2
  apply Rat.le_antisymm
  · rcases Nat.eq_zero_or_pos (jsF n l) with e | e
    · rw [e];exact psF_nn n
    · obtain ⟨i,hi⟩ : ∃ i,jsF n l = i + 1:=⟨jsF n l - 1,by omega⟩
      have hup:=it_up hl ht hn (hjs.2 i (by omega))
      rw [hi]
      obtain ⟨_,_,d1,d2,d3,d4,d5⟩:=hup
      obtain ⟨b,hw,_,hb⟩:=wk_loop d1 (show LPD l (itF n l (i + 1)).2 from rx_lpd hl hn) ⟨n,hl⟩ _ (Nat.le_refl _)
      have hb':=hb rfl (by omega)
      subst hb'
      have hi0:=d1 0 (by omega)
      have hfr:=(hl ((itF n l (i + 1)).2.getD 0 default).toNat (by omega)).fr
      have hT:=wk_in hl ht hfr d3 hw
      have hc:=(TI.tb (T:=tmF n l) hl ht _).cmp _ _ _ _ hfr hw hT
      rw [ti_all.2] at hT
      rw [ti_all.2,ti_all.1] at hc
      have hlen : (itF n l (i + 1)).2.length = ((itF n l (i + 1)).2.length - 1) + 1:=by omega
      rw [hlen] at hc
      have hge:=psF_ge (T:=tmF n l) (m:=n) (s:=(itF n l (i + 1)).2.length - 1) (e:=wFr (l.getD ((itF n l (i + 1)).2.getD 0 default).toNat default)) (k:=(sut l (itF n l (i + 1)).2).toNat) (by omega) hfr (by omega) (by omega) hc.1
      refine Rat.le_trans ?_ hge
      rw [Int.toNat_of_nonneg (by omega)]
      have h0 : (0 : Rat) < ((sut l (itF n l (i + 1)).2 : Int) : Rat):=by exact_mod_cast d4
      refine Rat.not_lt.1 fun h9=>?_
      rw [Rat.div_lt_iff h0,← d5] at h9
      have h8:=hc.2
      grind
  · obtain ⟨P,hPf⟩:=(rs_iff hl hn).1 (by rw [← rx_rs hl];exact hx)
    refine psF_le hnn n fun s e k hs he hk h0 h1=>?_
    have hw:=(TI.tb (T:=tmF n l) hl ht (s + 1)).snd e e k he he hk h1
    have hcl:=hw.closed hPf
    have h2 : (0 : Rat) < (((k : Nat) : Int) : Rat):=by
      have : (0 : Int) < (k : Int):=by omega
      exact_mod_cast this
    refine Rat.not_lt.1 fun h9=>?_
    rw [Rat.lt_div_iff h2,Rat.mul_comm] at h9
    grind
end
end Go.Proofs.YtjphllpnhjemjaaGreat
set_option linter.unusedVariables false
set_option linter.unusedSimpArgs false
namespace Go.Proofs.YtjphllpnhjemjaaGreat
open Go.RowKit (Below)
def EF (k : Option Nat) (b i off : Nat) : MT:=.ex (.pointer (some ⟨b,i * k.getD 1 + off,none⟩))
theorem ROWS.part {k kt : Option Nat} {τs : List MT} {σ τ : MT} {i off : Nat} (hi : τs[i]? = some σ) (hk : ∃ m,k = some m) (hp : Prt σ off kt τ) : Prt (ROWS k τs) (i * k.getD 1 + off) kt τ:=⟨fun {v k0 G} ht _=>by
  obtain ⟨us,r,e,hE⟩:=ht
  subst e
  have hlt : i < us.length:=by rw [hE.1];exact (List.getElem?_eq_some_iff.1 hi).1
  obtain ⟨h1,h2⟩:=hE.2 i σ us[i] hi (List.getElem?_eq_getElem hlt)
  obtain ⟨u,hs,hu,hc⟩:=hp.h h2 h1
  refine ⟨u,hs,hu,fun j x hx=>?_⟩
  have h3:=hc j x hx
  have hj : off + j < k.getD 1:=by
    rw [← shaped_size h1]
    exact (Array.getElem?_eq_some_iff.1 h3).1
  have h4:=flat_get hE.sizes (List.getElem?_eq_getElem hlt) hj
  show (flat us ++ r).toArray[_]? = some x
  rw [List.getElem?_toArray,List.getElem?_append_left,Nat.add_assoc,h4,h3]
  rw [flat_len hE.sizes]
  have:=Nat.mul_le_mul_right (k.getD 1) (show i + 1 ≤ us.length from hlt)
  rw [Nat.succ_mul] at this
  omega⟩
theorem shaped_upd {n off : Nat} {kt : Option Nat} {cs : Array Value} {y : Value} (hc : Shaped (some n) (.agg cs)) (hs : Shaped kt y) (hn : off + kt.getD 1 ≤ n) : Shaped (some n) (.agg (cs.toList.take off ++ y.cells.toList ++ cs.toList.drop (off + kt.getD 1)).toArray):=by
  obtain ⟨cs',e1,hcs,hone⟩:=hc
  injection e1 with e1
  subst e1
  have hl : y.cells.toList.length = kt.getD 1:=by simpa using shaped_size hs
  refine ⟨_,rfl,?_,fun c hc=>?_⟩
  · simp at hl ⊢;omega
  · simp only [List.mem_append] at hc
    rcases hc with (hc | hc) | hc
    · exact hone c (List.mem_of_mem_take hc)
    · exact shaped_cells hs c hc
    · exact hone c (List.mem_of_mem_drop hc)
theorem take_part {α : Type} {cs ci ys : List α} {a k off m : Nat} (h1 : ci = (cs.drop a).take k) (h2 : off + m ≤ k) : cs.take a ++ (ci.take off ++ ys ++ ci.drop (off + m)) ++ cs.drop (a + k) = cs.take (a + off) ++ ys ++ cs.drop (a + off + m):=by
  subst h1
  rw [List.take_add,List.take_take,Nat.min_eq_left (by omega)]
  have e : cs.drop (a + off + m) = ((cs.drop a).take k).drop (off + m) ++ cs.drop (a + k):=by
    rw [← List.drop_drop (i:=k) (j:=a),show a + off + m = a + (off + m) by omega,← List.drop_drop (i:=off + m) (j:=a)]
    conv=>lhs;rw [← List.take_append_drop k (cs.drop a)]
    rw [List.drop_append]
    rcases Nat.lt_or_ge (cs.drop a).length k with hk | hk
    · have e1 : (cs.drop a).drop k = []:=List.drop_eq_nil_of_le (by omega)
      rw [e1,List.drop_nil,List.append_nil]
    · rw [List.length_take,Nat.min_eq_left hk,show off + m - k = 0 by omega,List.drop_zero]
  rw [e]
  simp only [List.append_assoc]
section
variable {P : Program} {L : List (Nat × MT)} {B B' : List BX} {x y : Operand} {u v : List Nat} {t ty : TypeId} {τ τ' τb σ : MT} {n c b i j off : Nat} {k kt : Option Nat} {α : Type} {T : α → MT} {xs : List α} {z : α}
instance Op1.fldO {s f : Nat} [ko : FO P s f off] [h : Opd L x (EP k b i) u] : Op1 P L B (.fieldAddr s x f) True (EF k b i off) u:=⟨fun ho hok e _ _=>.fldA hok ho (h.h e) ko.h rfl⟩
instance Op1.ncE [h : Opd L x (EP k b i) u] : Op1 P L B (.nilCheck x) True (EP k b i) u:=⟨fun {W0 w a G o} ho hok e _ _=>by
  have hv : a.eval x = .pointer (some ⟨b,i * k.getD 1,none⟩):=h.h e
  exact .run hok (v:=.pointer (some ⟨b,i * k.getD 1,none⟩)) (by simp [execOp,ho,hv]) rfl⟩
instance Op1.ldf {kn : Nat} [h : Opd L x (EF (some kn) b i off) u] [hb : Bx B b c ty (some n) (ROWS (some kn) (xs.map T))] [ih : Inhabited α] [hT : TyS P t kt] [hz : NZ kt] [hp : Prt (T (xs.getD i default)) off kt τ] : Op1 P L B (.load t x) (i < xs.length) τ (u ++ [1000000 + c]) :=
  ⟨fun ho hok e hB hi=>prt_load hok ho hT.h hz.h (h.h e.l) (hB c _ (by simp) hb.m) (ROWS.part (k:=some kn) (i:=i) (σ:=T (xs.getD i default)) (by rw [List.getElem?_map,List.getElem?_eq_getElem hi,List.getD_eq_getElem?_getD,List.getElem?_eq_getElem hi];rfl) ⟨kn,rfl⟩ hp)⟩
instance Sto.f {kn : Nat} [hx : Opd L x (EF (some kn) b i off) u] [hb : Bx B b j ty (some n) (ROWS (some kn) (xs.map T))] [ih : Inhabited α] [hT : TyS P t kt] [hy : Opd L y τ v] [hs : ShK τ kt] [hu : Upd (T (xs.getD i default)) off kt τ σ] [ha : AsT σ T z] : Sto P L B t x y j (ROWS (some kn) ((xs.set i z).map T)) (i < xs.length ∧ off + kt.getD 1 ≤ kn) (u ++ v):=⟨_,hb.m,fun {a w G v0} hp hE h1 h2 h3=>by
  obtain ⟨hi,hoff⟩:=hp
  have h2':=h2
  obtain ⟨cs,rfl,_,_⟩:=h2'
  have hv:=hy.h hE.r
  have hsy:=hs.h hv
  have h3':=h3
  obtain ⟨us,r,e,hEl⟩:=h3'
  injection e with e
  have hlt : i < us.length:=by rw [hEl.1,List.length_map];exact hi
  obtain ⟨g1,g2⟩:=hEl.2 i (T (xs.getD i default)) us[i] (by rw [List.getElem?_map,List.getElem?_eq_getElem hi,List.getD_eq_getElem?_getD,List.getElem?_eq_getElem hi];rfl) (List.getElem?_eq_getElem hlt)
  have g1':=g1
  obtain ⟨ci,hci,hcn,_⟩:=cells_one g1'
  rw [hci] at g1 g2
  have hnew:=hu.h g2 hsy hv
  have hsh:=shaped_upd g1 hsy hoff
  have hr:=ROWS.set (P:=P) h3 h2 hsh (ha.h hnew) (by rw [List.length_map];exact hi)
  have hn : i * kn + kn ≤ n:=hr.1
  obtain ⟨h4,h5⟩:=part_store (P:=P) (hx.h hE.l) hT.h hsy h1 h2 (show i * (some kn).getD 1 + off + kt.getD 1 ≤ n by show i * kn + off + kt.getD 1 ≤ n;omega) rfl
  refine ⟨_,h4,?_,h5⟩
  have hsz : ∀ q ∈ us,q.cells.size = kn:=hEl.sizes
  have hcidef : ci.toList = (cs.toList.drop (i * kn)).take kn:=by
    apply List.ext_getElem?
    intro m
    rw [List.getElem?_take]
    by_cases hm : m < kn
    · rw [if_pos hm,List.getElem?_drop,e]
      have h6:=flat_get hsz (List.getElem?_eq_getElem hlt) hm
      have hl:=flat_len hsz
      have:=Nat.mul_le_mul_right kn (show i + 1 ≤ us.length from hlt)
      rw [Nat.succ_mul] at this
      show ci.toList[m]? = (flat us ++ r)[i * kn + m]?
      rw [List.getElem?_append_left (by omega),h6,hci]
      show ci.toList[m]? = ci[m]?
      simp
    · rw [if_neg hm]
      exact List.getElem?_eq_none (by simpa using (by omega : ci.size ≤ m))
  have hkey:=take_part (cs:=cs.toList) (ci:=ci.toList) (ys:=(a.eval y).cells.toList) (a:=i * kn) (k:=kn) (off:=off) (m:=kt.getD 1) hcidef hoff
  rw [List.map_set]
  have h7:=hr.2
  show (ROWS (some kn) ((xs.map T).set i (T z))).t (.agg (cs.toList.take (i * kn + off) ++ (a.eval y).cells.toList ++ cs.toList.drop (i * kn + off + kt.getD 1)).toArray) G
  rw [← hkey]
  exact h7⟩
end
section
variable {P : Program} {W0 : World} {G0 : Gh} {N : Nat} {L : List (Nat × MT)} {B : List BX} {a : Act} {w : World} {G : Gh} {Q : Exit → Act → World → Prop} {rest : List Oper} {arr : Array Oper} {k : Option Nat} {e t ty : TypeId} {d by0 : Nat} {z0 : Value} {pos : String} {aft : Array Edge} {τs : List MT} {own : List BX} {V : Value}
end
end Go.Proofs.YtjphllpnhjemjaaGreat
set_option linter.unusedVariables false
set_option linter.unusedSimpArgs false
namespace Go.Proofs.YtjphllpnhjemjaaGreat
open Go.RowKit (Below)
def drawOkS (ops : Array Oper) (PL : List PcW) (L : List Nat) (N ic : Nat) : Bool :=
  decide (PL.length ≤ ops.size) &&
  (List.range PL.length).all (fun i=>(List.range PL.length).all fun j=>i == j || (PL[i]?).map (·.d) != (PL[j]?).map (·.d)) &&
  PL.all (fun po=>!L.contains po.d && (match po.k with | .o1=>true | _=>decide (po.d < N))) &&
  (List.range PL.length).all (fun i=>(ops[i]?).all fun o=>o.after.all fun e=>!Region.binds .any e || decide (e.on < i)) &&
  (List.range PL.length).all (fun i=>(PL[i]?).all fun po=>po.dep.all fun j=>decide (j < PL.length) && waits ops ops.size i j) &&
  (List.range PL.length).all (fun i=>(PL[i]?).all fun po=>(match po.k with | .g _=>i != ic | .o1=>i == ic | _=>false)) &&
  (List.range PL.length).all (fun i=>(PL[i]?).all fun po=>(match po.k with | .o1=>(ops[i]?).bind (·.dst) == none | _=>(ops[i]?).bind (·.dst) == some po.d)) &&
  decide (ic < PL.length) &&
  (List.range (ops.size - PL.length)).all (fun j=>(List.range PL.length).all fun i=>waits ops ops.size (PL.length + j) i) &&
  (List.range (ops.size - PL.length)).all (fun j=>Region.ready .any ops (firstN ops.size (PL.length + j)) == [PL.length + j])
section
variable {P : Program} {W0 : World} {G0 : Gh} {N : Nat} {L : List (Nat × MT)} {B B' : List BX}
structure DS (P : Program) (W0 : World) (G0 : Gh) (N : Nat) (L : List (Nat × MT)) (B B' : List BX) (ops : Array Oper) (PL : List PcW) (ic : Nat) (l : Array Bool) (a : Act) (w : World) : Prop where
  lsz : l.size = ops.size
  cl : ∀ (j : Nat) (o : Oper),ops[j]? = some o → l.getD j false = true → ∀ e ∈ o.after,Region.binds .any e = true → l.getD e.on false = true
  tl : ∀ k,PL.length ≤ k → l.getD k false = false
  st : ∃ G,St W0 G0 N (faW PL l ++ L) (if l.getD ic false = true then B' else B) a w G
def ObSG (P : Program) (W0 : World) (G0 : Gh) (N : Nat) (L : List (Nat × MT)) (B B' : List BX) (ops : Array Oper) (PL : List PcW) : Prop :=
  ∀ (i d : Nat) (τ : MT) (dep : List Nat),PL[i]? = some ⟨d,.g τ,dep⟩ → ∀ BB,(BB = B ∨ BB = B') → ∀ a w G,St W0 G0 N (depW PL dep ++ L) BB a w G → OpG P ops (ops.getD i default) a w G τ
def ObSC (P : Program) (W0 : World) (G0 : Gh) (N : Nat) (L : List (Nat × MT)) (B B' : List BX) (ops : Array Oper) (PL : List PcW) (Q : Exit → Act → World → Prop) : Prop :=
  ∀ (i d : Nat) (dep : List Nat),PL[i]? = some ⟨d,.o1,dep⟩ → (ops.getD i default).guard = none ∧ ∀ (L' : List (Nat × MT)) a w G (K : Act → World → Prop),(∀ p ∈ depW PL dep ++ L,p ∈ L') → St W0 G0 N L' B a w G →
    (∀ a' w' G',St W0 G0 N L' B' a' w' G' → K a' w') → (ops.getD i default).wp P a w K Q
variable {ops : Array Oper} {PL : List PcW} {ic : Nat} {l : Array Bool} {a : Act} {w : World} {Q : Exit → Act → World → Prop}
theorem DS.waited (I : DS P W0 G0 N L B B' ops PL ic l a w) : ∀ (m : Nat) {j i : Nat} {o : Oper}, waits ops m j i = true → ops[j]? = some o →
    (∀ e ∈ o.after,Region.binds .any e = true → l.getD e.on false = true) → l.getD i false = true
  | 0,_,_,_,h,_,_=>by cases h
  | m + 1,j,i,o,h,ho,he=>by
    unfold waits at h
    rw [ho] at h
    simp only [Option.any_some,Array.any_eq_true,Bool.and_eq_true,Bool.or_eq_true,beq_iff_eq] at h
    obtain ⟨k,hk,hb,h⟩:=h
    have hl:=he _ (Array.getElem_mem hk) hb
    rcases h with h | h
    · rw [← h];exact hl
    · have hon : (o.after[k]).on < ops.size := by
        have : (o.after[k]).on < l.size:=by
          rcases Nat.lt_or_ge (o.after[k]).on l.size with h1 | h1
          · exact h1
          · simp [Array.getElem?_eq_none h1] at hl
        rw [I.lsz] at this;exact this
      have ho':=Array.getElem?_eq_getElem hon
      exact DS.waited I m h ho' (I.cl _ _ ho' hl)
theorem DS.past (I : DS P W0 G0 N L B B' ops PL ic l a w) {j i : Nat} (h : waits ops ops.size j i = true) (hj : l.getD j false = true) : l.getD i false = true:=by
  have hlt : j < ops.size:=by
    rcases Nat.lt_or_ge j l.size with h1 | h1
    · rw [I.lsz] at h1;exact h1
    · simp [Array.getElem?_eq_none h1] at hj
  have ho:=Array.getElem?_eq_getElem hlt
  exact I.waited _ h ho (I.cl _ _ ho hj)
theorem DS.cl_set {i : Nat} (I : DS P W0 G0 N L B B' ops PL ic l a w) (hi : i < ops.size) (hcl : ∀ (o : Oper), ops[i]? = some o → ∀ e ∈ o.after, Region.binds .any e = true → l.getD e.on false = true) :
    ∀ (j : Nat) (o : Oper),ops[j]? = some o → (l.setIfInBounds i true).getD j false = true → ∀ e ∈ o.after,Region.binds .any e = true → (l.setIfInBounds i true).getD e.on false = true:=fun j o ho hl e he hb=>by
  have hl' : l.getD e.on false = true:=by
    by_cases e1 : j = i
    · subst e1;exact hcl o ho e he hb
    · rw [getD_set e1] at hl;exact I.cl j o ho hl e he hb
  by_cases e2 : e.on = i
  · rw [e2];have : i < l.size:=by rw [I.lsz];exact hi
    simp [this]
  · rw [getD_set e2];exact hl'
theorem St.drawnSt {id : Nat} {a0 : Act} {w0 : World} {Gs : Gh} (S : St W0 G0 N L B a0 w0 Gs) (PL : List PcW) (hm : P.follows .mixedOrders = true) (hd : drawOkS ops PL (L.map (·.1)) N ic = true)
    (hG : ObSG P W0 G0 N L B B' ops PL) (HC : ObSC P W0 G0 N L B B' ops PL Q)
    (K : ∀ a w G l,(∀ i,i < PL.length → l.getD i false = true) → St W0 G0 N (faW PL l ++ L) B' a w G → wpList P ops Q (ops.toList.drop PL.length) a w) : (Code.region id ops true).wp P Q a0 w0:=by
  simp only [drawOkS,Bool.and_eq_true,List.all_eq_true,List.mem_range,decide_eq_true_eq,Bool.or_eq_true,bne_iff_ne,Bool.not_eq_true',beq_iff_eq] at hd
  obtain ⟨⟨⟨⟨⟨⟨⟨⟨⟨g1,g3⟩,g4⟩,g5⟩,g6⟩,g8⟩,g9⟩,g10⟩,g11⟩,g12⟩:=hd
  have hpl : ∀ {i : Nat} {po : PcW},PL[i]? = some po → i < PL.length:=fun h=>(List.getElem?_eq_some_iff.1 h).1
  have hne : ∀ {i j : Nat} {po po' : PcW},PL[i]? = some po → PL[j]? = some po' → i ≠ j → po.d ≠ po'.d:=fun {i j po po'} hp hp' hij=>by
    rcases g3 i (hpl hp) j (hpl hp') with h | h
    · exact absurd h hij
    · rw [hp,hp'] at h;simpa using h
  have hfr : ∀ {i : Nat} {po : PcW},PL[i]? = some po → (po.k ≠ .o1 → po.d < N) ∧ ∀ p ∈ L,p.1 ≠ po.d:=fun {i po} hp=>by
    have:=g4 po (List.mem_of_getElem? hp)
    refine ⟨fun hk=>?_,fun p hpm e=>?_⟩
    · have h9:=this.2
      split at h9
      · rename_i hk0;exact absurd hk0 hk
      · exact of_decide_eq_true h9
    have hc:=this.1
    rw [← e] at hc
    have : (L.map (·.1)).contains p.1 = true:=by simpa using ⟨p.2,hpm⟩
    rw [this] at hc;cases hc
  have hdep : ∀ {i : Nat} {po : PcW},PL[i]? = some po → ∀ j ∈ po.dep,waits ops ops.size i j = true:=fun {i po} hp j hj=>by
    have h6':=g6 i (hpl hp)
    rw [hp] at h6'
    simp only [Option.all_some,List.all_eq_true,Bool.and_eq_true,decide_eq_true_eq] at h6'
    exact (h6' j hj).2
  have hfresh : ∀ {l : Array Bool} {i : Nat} {q : PcW},PL[i]? = some q → l.getD i false = false → fresh q.d (faW PL l ++ L) = true:=fun {l i q} hq hl=>by
    unfold fresh
    rw [List.all_eq_true]
    intro p hp
    simp only [bne_iff_ne,ne_eq]
    intro e
    rcases List.mem_append.1 hp with h | h
    · obtain ⟨j,q',τ',h1,h2,_,rfl⟩:=faW_mem.1 h
      by_cases ej : j = i
      · subst ej;rw [hl] at h2;cases h2
      · exact hne h1 hq ej e
    · exact (hfr hq).2 p h e
  have fin : ∀ (fuel : Nat) (l : Array Bool) (a : Act) (w : World),DS P W0 G0 N L B B' ops PL ic l a w → fuel + cnt l = ops.size → (∀ i,i < PL.length → l.getD i false = true) → wpAny P .any ops Q fuel l a w:=by
    intro fuel l a w I hc hall
    obtain ⟨G,hSt⟩:=I.st
    rw [if_pos (hall ic g10)] at hSt
    have hK:=K a w G l hall hSt
    have hl : l = firstN ops.size PL.length:=by
      apply Array.ext
      · simp [firstN,I.lsz]
      · intro k k1 k2
        by_cases hk : k < PL.length
        · have:=hall k hk;simp [k1] at this;simp [firstN,this,hk]
        · have:=I.tl k (by omega);simp [k1] at this;simp [firstN,this,hk]
    subst hl
    rw [cnt_firstN g1] at hc
    have hf : fuel = ops.size - PL.length:=by omega
    subst hf
    have hsub : ops.size - (ops.size - PL.length) = PL.length:=by omega
    have:=tail_any (P:=P) (Q:=Q) (ops:=ops) (ops.size - PL.length) a w (by omega) (fun j hj1 hj2=>by
      have:=g12 (j - PL.length) (by omega)
      rw [show PL.length + (j - PL.length) = j from by omega] at this
      exact this) (by rw [hsub];exact hK)
    rw [hsub] at this
    exact this
  have key : ∀ (fuel : Nat) (l : Array Bool) (a : Act) (w : World),DS P W0 G0 N L B B' ops PL ic l a w → fuel + cnt l = ops.size → wpAny P .any ops Q fuel l a w:=by
    intro fuel
    induction fuel with
    | zero =>
      intro l a w I hc
      refine fin 0 l a w I hc fun i hi=>?_
      by_cases hx : l.getD i false = true
      · exact hx
      · exfalso
        have hli : i < l.size:=by rw [I.lsz];omega
        have hz : l.getD i true = false:=by simp [hli] at hx ⊢;exact hx
        have h9:=cnt_set hli hz
        have h10:=cnt_le (l.setIfInBounds i true)
        rw [Array.size_setIfInBounds,I.lsz] at h10
        omega
    | succ fuel ih =>
      intro l a w I hc
      by_cases hall : ∀ i,i < PL.length → l.getD i false = true
      · exact fin (fuel + 1) l a w I hc hall
      have hex : ∃ i,i < PL.length ∧ l.getD i false = false:=by
        refine Classical.byContradiction fun hn=>hall fun i hi=>?_
        by_cases hx : l.getD i false = true
        · exact hx
        · exact absurd ⟨i,hi,by simpa using hx⟩ hn
      have hpre : ∀ i,i ∈ Region.ready .any ops l → i < PL.length:=fun i hi=>by
        rcases Nat.lt_or_ge i PL.length with h | h
        · exact h
        · exfalso
          obtain ⟨j,hj,hjl⟩:=hex
          obtain ⟨_,o,ho,hall'⟩:=mem_ready.1 hi
          have hio : i < ops.size:=(Array.getElem?_eq_some_iff.1 ho).1
          have hw:=g11 (i - PL.length) (by omega) j hj
          rw [show PL.length + (i - PL.length) = i from by omega] at hw
          have:=I.waited _ hw ho hall'
          rw [hjl] at this;cases this
      have hready : Region.ready .any ops l ≠ []:=by
        have hleast : ∃ i,(i < PL.length ∧ l.getD i false = false) ∧ ∀ j,j < i → ¬ (j < PL.length ∧ l.getD j false = false):=by
          obtain ⟨i,hi⟩:=hex
          induction i using Nat.strongRecOn with
          | _ i ih' =>
            by_cases hh : ∃ j,j < i ∧ (j < PL.length ∧ l.getD j false = false)
            · obtain ⟨j,hj,hj2⟩:=hh;exact ih' j hj hj2
            · exact ⟨i,hi,fun j hj hc=>hh ⟨j,hj,hc⟩⟩
        obtain ⟨i,⟨hi,hil⟩,hmin⟩:=hleast
        have hio : i < ops.size:=by omega
        have : i ∈ Region.ready .any ops l:=by
          refine mem_ready.2 ⟨?_,ops[i],Array.getElem?_eq_getElem hio,fun e he hb=>?_⟩
          · have hli : i < l.size:=by rw [I.lsz];exact hio
            simp [hli] at hil ⊢;exact hil
          · have h5':=g5 i hi
            rw [Array.getElem?_eq_getElem hio] at h5'
            simp only [Option.all_some,Array.all_eq_true,Bool.or_eq_true,Bool.not_eq_true',decide_eq_true_eq] at h5'
            obtain ⟨k,hk,hke⟩:=Array.mem_iff_getElem.1 he
            have hlt : e.on < i:=by
              rcases h5' k hk with h | h
              · rw [hke,hb] at h;cases h
              · rw [hke] at h;exact h
            have:=hmin e.on hlt
            by_cases hx : l.getD e.on false = true
            · exact hx
            · exact absurd ⟨by omega,by simpa using hx⟩ this
        intro h;rw [h] at this;cases this
      refine ⟨fun h=>absurd h hready,fun i hi=>?_⟩
      obtain ⟨hun,o,ho,hedge⟩:=mem_ready.1 hi
      have hio : i < ops.size:=(Array.getElem?_eq_some_iff.1 ho).1
      have hip : i < PL.length:=hpre i hi
      have hli : i < l.size:=by rw [I.lsz];exact hio
      have hunf : l.getD i false = false:=by simp [hli] at hun ⊢;exact hun
      have hpo : PL[i]? = some PL[i]:=List.getElem?_eq_getElem hip
      generalize hgen : PL[i] = po at hpo
      have hgd : ops.getD i default = o:=by simp [ho]
      have hcnt : fuel + cnt (l.setIfInBounds i true) = ops.size:=by rw [cnt_set hli hun];omega
      have hcl : ∀ o',ops[i]? = some o' → ∀ e ∈ o'.after,Region.binds .any e = true → l.getD e.on false = true:=fun o' ho'=>by rw [ho] at ho';cases ho';exact hedge
      have hdo:=g9 i hip
      rw [ho,hpo] at hdo
      have hcset:=I.cl_set hio hcl
      have htl : ∀ k,PL.length ≤ k → (l.setIfInBounds i true).getD k false = false:=fun k hk=>by
        have h9:=I.tl k hk
        rw [getD_set (by omega)]
        exact h9
      obtain ⟨G,hSt⟩:=I.st
      have hfrs:=hfresh hpo hunf
      have hdl : ∀ p ∈ depW PL po.dep ++ L,p ∈ faW PL l ++ L:=fun p hp=>by
        rcases List.mem_append.1 hp with h | h
        · obtain ⟨j,q,τ,hj,h1,h2,rfl⟩:=depW_mem h
          exact List.mem_append_left _ (faW_mem.2 ⟨j,q,τ,h1,I.waited _ (hdep hpo j hj) ho hedge,h2,rfl⟩)
        · exact List.mem_append_right _ h
      unfold wpOp
      rw [ho]
      simp only
      have hkind:=g8 i hip
      rw [hpo] at hkind
      simp only [Option.all_some] at hkind
      obtain ⟨pd,pk,pdep⟩:=po
      cases pk with
      | g τ =>
        have hob:=hG i pd τ pdep hpo _ (by split;exact .inr rfl;exact .inl rfl) a w G (hSt.only hdl)
        rw [hgd] at hob
        have hni : i ≠ ic:=by simpa using hkind
        have hdo : o.dst = some pd:=by simpa using hdo
        have hnext : ∀ {v w' G'},τ.t v G' → Nxt w G w' G' → DS P W0 G0 N L B B' ops PL ic (l.setIfInBounds i true) (a.put (some pd) v) w':=fun {v w' G'} hv hn =>
          ⟨by simpa using I.lsz,hcset,htl,G',by
            rw [getD_set (Ne.symm hni)]
            exact (hSt.put ((hfr hpo).1 (by simp)) hfrs hv hn).only fun p hp=>by
              rcases List.mem_append.1 hp with h | h
              · rcases faW_set (l:=l) hpo rfl hli h with e | e
                · subst e;exact .head _
                · exact .tail _ (List.mem_append_left _ e)
              · exact .tail _ (List.mem_append_right _ h)⟩
        rcases hob with ⟨hw,hr⟩ | ⟨hw,hu⟩
        · rw [if_pos hw]
          refine .inl (hr Q _ fun v w' G' hv hn=>?_)
          rw [hdo]
          exact ih _ _ _ (hnext hv hn) hcnt
        · rw [if_neg (by simp [hw]),hdo]
          exact ih _ _ _ (hnext hu (Nxt.refl hSt.nxt.ok)) hcnt
      | o2 τ=>cases hkind
      | o0=>cases hkind
      | o1 =>
        obtain ⟨hgu,hob⟩:=HC i pd pdep hpo
        rw [hgd] at hgu hob
        rw [if_pos (by simp [Region.wanted,hgu])]
        have hic : i = ic:=by simpa using hkind
        subst hic
        rw [hunf] at hSt
        refine .inl (hob _ a w G _ hdl hSt fun a' w' G' hS'=>ih _ _ _ ⟨by simpa using I.lsz,hcset,htl,G',?_⟩ hcnt)
        rw [if_pos (set_at hli)]
        exact hS'.only fun p hp=>by
          rcases List.mem_append.1 hp with h | h
          · exact List.mem_append_left _ (faW_none hpo rfl h)
          · exact List.mem_append_right _ h
  refine wp_region_any hm (key _ _ _ _ ⟨by simp,fun j o ho hl=>?_,fun k hk=>?_,Gs,?_⟩ ?_)
  · have : j < ops.size:=(Array.getElem?_eq_some_iff.1 ho).1
    simp [this] at hl
  · rcases Nat.lt_or_ge k ops.size with h | h
    · simp [h]
    · simp [h]
  · have hicn : ic < ops.size:=by omega
    rw [if_neg (by simp [hicn])]
    refine St.only (L:=L) ?_ fun p hp=>?_
    · exact { S with nxt:=S.nxt.trans (Nxt.drew S.ok),bx:=fun i x h=>(S.bx i x h).nxt (Nxt.drew S.ok) }
    · rcases List.mem_append.1 hp with h | h
      · obtain ⟨j,q,τ,h1,h2,_⟩:=faW_mem.1 h
        have : j < ops.size:=by have:=hpl h1;omega
        simp [this] at h2
      · simpa using h
  · simp [cnt]
end
def SemS (P : Program) (B B' : List BX) (L0 : List (Nat × MT)) (all : List WE) (o : Oper) : WE → Prop
  | .g d τ u=>o.dst = some d ∧ o.guard = none ∧ ∃ L' pre,(∀ p ∈ L',p ∈ L0 ∨ ∃ (m : Nat) (x : WE),all[m]? = some x ∧ x.sl = some p) ∧ pre ∧ Op1 P L' B o.op pre τ u ∧ ∃ pre',pre' ∧ Op1 P L' B' o.op pre' τ u
  | .o1 _ u=>o.dst = none ∧ o.guard = none ∧ ∃ L' t x y j τ pre,(∀ p ∈ L',p ∈ L0 ∨ ∃ (m : Nat) (x : WE),all[m]? = some x ∧ x.sl = some p) ∧ pre ∧ o.op = .store t x y ∧ Sto P L' B t x y j τ pre u ∧ BAt B j τ B'
  | _=>False
def SemLS (P : Program) (B B' : List BX) (L : List (Nat × MT)) (ops : List Oper) (pre : Prop) (es : List WE) (rest : List Oper) : Prop :=
  ∀ (L0 : List (Nat × MT)) (e0 all : List WE),all = e0 ++ es → (∀ p ∈ L,p ∈ L0 ∨ ∃ (m : Nat) (x : WE),all[m]? = some x ∧ x.sl = some p) → pre → (es.length ≤ ops.length ∧ ops.drop es.length = rest) ∧ ∀ (j : Nat) (x : WE) (o : Oper),es[j]? = some x → ops[j]? = some o → SemS P B B' L0 all o x
class RS1 (P : Program) (B B' : List BX) (L : List (Nat × MT)) (ops : List Oper) (pre : outParam Prop) (es : outParam (List WE)) (rest : outParam (List Oper)) : Prop where
  r : SemLS P B B' L ops pre es rest
class RS0 (P : Program) (B : List BX) (L : List (Nat × MT)) (ops : List Oper) (pre : outParam Prop) (es : outParam (List WE)) (B' : outParam (List BX)) (rest : outParam (List Oper)) : Prop where
  r : SemLS P B B' L ops pre es rest
section
variable {P : Program} {B B' : List BX} {L : List (Nat × MT)} {ops : List Oper} {pre pre' : Prop} {es : List WE} {rest : List Oper} {d j : Nat} {op : Op} {t ty : TypeId} {pos : String} {aft : Array Edge} {τ : MT} {u : List Nat} {x y : Operand}
theorem SemLS.cons {x : WE} {o : Oper} {p : Nat × MT} (hx : x.sl = some p) (h : ∀ (L0 : List (Nat × MT)) (all : List WE),(∀ p ∈ L,p ∈ L0 ∨ ∃ (m : Nat) (x : WE),all[m]? = some x ∧ x.sl = some p) → pre → SemS P B B' L0 all o x) (hr : SemLS P B B' (p :: L) ops pre' es rest) : SemLS P B B' L (o :: ops) (pre ∧ pre') (x :: es) rest:=fun L0 e0 all ha hL hp=>by
  have hm : all[e0.length]? = some x:=by rw [ha];simp
  obtain ⟨i1,i2⟩:=hr L0 (e0 ++ [x]) all (by rw [ha];simp) (fun q hq=>by
    rcases List.mem_cons.1 hq with rfl | hq
    · exact .inr ⟨_,_,hm,hx⟩
    · exact hL q hq) hp.2
  refine ⟨⟨by simpa using i1.1,by simpa using i1.2⟩,fun j y o' h1 h2=>?_⟩
  cases j with
  | zero=>cases h1;cases h2;exact h L0 all hL hp.1
  | succ j=>exact i2 j y o' (by simpa using h1) (by simpa using h2)
theorem SemLS.st {x : WE} {o : Oper} (h : ∀ (L0 : List (Nat × MT)) (all : List WE),(∀ p ∈ L,p ∈ L0 ∨ ∃ (m : Nat) (x : WE),all[m]? = some x ∧ x.sl = some p) → pre → SemS P B B' L0 all o x) (hr : SemLS P B B' L ops pre' es rest) : SemLS P B B' L (o :: ops) (pre ∧ pre') (x :: es) rest:=fun L0 e0 all ha hL hp=>by
  obtain ⟨i1,i2⟩:=hr L0 (e0 ++ [x]) all (by rw [ha];simp) hL hp.2
  refine ⟨⟨by simpa using i1.1,by simpa using i1.2⟩,fun j y o' h1 h2=>?_⟩
  cases j with
  | zero=>cases h1;cases h2;exact h L0 all hL hp.1
  | succ j=>exact i2 j y o' (by simpa using h1) (by simpa using h2)
theorem SemLS.nil : SemLS P B B' L ops True [] ops:=fun L0 e0 all ha hL hp=>⟨⟨Nat.zero_le _,rfl⟩,fun j x o h=>by simp at h⟩
instance (priority:=100) RS1.stop : RS1 P B B' L ops True [] ops:=⟨.nil⟩
instance RS1.g {pre2 : Prop} [h : Op1 P L B op pre τ u] [h' : Op1 P L B' op pre2 τ u] [r : RS1 P B B' ((d,τ) :: L) ops pre' es rest] : RS1 P B B' L (⟨some d,op,ty,pos,aft,none⟩ :: ops) ((pre ∧ pre2) ∧ pre') (.g d τ u :: es) rest:=⟨.cons rfl (fun L0 all hL hp=>⟨rfl,rfl,L,pre,hL,hp.1,h,pre2,hp.2,h'⟩) r.r⟩
instance (priority:=500) RS0.g {pre2 : Prop} [h : Op1 P L B op pre τ u] [r : RS0 P B ((d,τ) :: L) ops pre' es B' rest] [h' : Op1 P L B' op pre2 τ u] : RS0 P B L (⟨some d,op,ty,pos,aft,none⟩ :: ops) ((pre ∧ pre2) ∧ pre') (.g d τ u :: es) B' rest:=⟨.cons rfl (fun L0 all hL hp=>⟨rfl,rfl,L,pre,hL,hp.1,h,pre2,hp.2,h'⟩) r.r⟩
instance RS0.s [h : Sto P L B t x y j τ pre u] [hb : BAt B j τ B'] [r : RS1 P B B' L ops pre' es rest] : RS0 P B L (⟨none,.store t x y,ty,pos,aft,none⟩ :: ops) (pre ∧ pre') (.o1 9998 u :: es) B' rest:=⟨.st (fun L0 all hL hp=>⟨rfl,rfl,L,t,x,y,j,τ,pre,hL,hp,rfl,h,hb⟩) r.r⟩
end
section
variable {P : Program} {B B' : List BX} {L L' : List (Nat × MT)} {pre : Prop} {es : List WE} {W0 : World} {G0 : Gh} {N : Nat} {a : Act} {w : World} {G : Gh} {Q : Exit → Act → World → Prop}
theorem W.d2 {id : Nat} {all rest : List Oper} [R : RS0 P B L all pre es B' rest] [fl : FinW es L L'] (hp : pre) (K : ∀ a w G, St W0 G0 N L' B' a w G → wpList P all.toArray Q rest a w) (hm : P.follows .mixedOrders = true)
    (hd : drawOkS all.toArray (es.map (pwW es)) (L.map (·.1)) N (posW WE.is1 0 es) = true) :
    St W0 G0 N L B a w G → (Code.region id all.toArray true).wp P Q a w:=fun S=>by
  obtain ⟨hlen,hsem⟩:=R.r L [] es rfl (fun p hp=>.inl hp) hp
  have hat : ∀ {i : Nat} {q : PcW},(es.map (pwW es))[i]? = some q → ∃ x o,es[i]? = some x ∧ q = pwW es x ∧ all.toArray.getD i default = o ∧ SemS P B B' L es o x:=fun {i q} hq=>by
    rw [List.getElem?_map] at hq
    cases hx : es[i]? with
    | none=>rw [hx] at hq;cases hq
    | some x =>
      rw [hx] at hq
      have hlt : i < all.length:=Nat.lt_of_lt_of_le (List.getElem?_eq_some_iff.1 hx).1 hlen.1
      have ho : all[i]? = some all[i]:=List.getElem?_eq_getElem hlt
      exact ⟨x,all[i],rfl,by simpa using hq.symm,by simp [hlt],hsem i x _ hx ho⟩
  refine S.drawnSt (B':=B') (es.map (pwW es)) hm hd ?_ ?_ fun a w G l hall S=>(by
    rw [List.length_map]
    simp only [List.toList_toArray]
    rw [hlen.2]
    refine K a w G ?_
    rw [fl.h]
    refine S.only fun p hp=>?_
    rcases fW_mem hp with h | ⟨j,x,hx,hs⟩
    · exact List.mem_append_right _ h
    · refine List.mem_append_left _ (faW_mem.2 ⟨j,pwW es x,p.2,by rw [List.getElem?_map,hx];rfl,hall j ?_,(pwW_ty hs).1,?_⟩)
      · rw [List.length_map];exact (List.getElem?_eq_some_iff.1 hx).1
      · rw [(pwW_ty hs).2])
  · intro i d τ dep hq BB hBB a2 w2 G2 S2
    obtain ⟨x,o,hx,he,ho,hs⟩:=hat hq
    rw [ho]
    cases x with
    | g d' τ' u =>
      cases he
      obtain ⟨_,hg,L1,pr,hL,hpr,h,pr2,hpr2,h'⟩:=hs
      rcases hBB with rfl | rfl
      · exact .of hg (h.ok rfl S2.ok (envW hL (fun p hp=>hp) S2) (S2.bok _) hpr)
      · exact .of hg (h'.ok rfl S2.ok (envW hL (fun p hp=>hp) S2) (S2.bok _) hpr2)
    | o0=>cases he
    | o1=>cases he
    | o2=>cases he
  · intro i d dep hq
    obtain ⟨x,o,hx,he,ho,hs⟩:=hat hq
    rw [ho]
    cases x with
    | g=>cases he
    | o0=>cases he
    | o2=>cases he
    | o1 d' u =>
      cases he
      obtain ⟨hdst,hg,L1,t,x,y,j,τ,pr,hL,hpr,hop,hst,hB⟩:=hs
      refine ⟨hg,fun L2 a w G K h1 S hK=>?_⟩
      obtain ⟨xb,hxb,hrun⟩:=hst.h
      obtain ⟨g1,g2,v0,hv,hs0,ht0⟩:=S.bx j xb hxb
      obtain ⟨v1,hs1,ht1,hwp⟩:=hrun (w:=w) hpr (envW hL h1 S) hv hs0 ht0
      obtain ⟨x2,hx2,hB2⟩:=hB.h
      rw [hxb] at hx2;cases hx2
      exact hwp _ _ hop hdst (hK _ _ _ (hB2 ▸ S.setVar j hxb hs1 ht1))
end
end Go.Proofs.YtjphllpnhjemjaaGreat
set_option linter.unusedVariables false
set_option linter.unusedSimpArgs false
set_option maxHeartbeats 4000000
set_option maxRecDepth 100000
set_option synthInstance.maxSize 100000
set_option synthInstance.maxHeartbeats 400000
namespace Go.Proofs.YtjphllpnhjemjaaGreat
open Go.RowKit (Below)
attribute [local irreducible] Go.Code.wp Go.wpList Go.bodyPost
private theorem gS_ {W0 : World} {G0 : Gh} {N : Nat} {L : List (Nat × MT)} {B : List BX} {a : Act} {w : World} {G : Gh} {q : Prop} (h : St W0 G0 N L B a w G → q) : St W0 G0 N L B a w G → q:=h
private theorem gL_ {p : Prop} {P : Program} {arr : Array Oper} {Q : Exit → Act → World → Prop} {l : List Oper} {a : Act} {w : World} (h : p → wpList P arr Q l a w) : p → wpList P arr Q l a w:=h
private theorem gC_ {p : Prop} {P : Program} {c : Code} {Q : Exit → Act → World → Prop} {a : Act} {w : World} (h : p → c.wp P Q a w) : p → c.wp P Q a w:=h
private theorem mixedOrders : Tryz.prog.follows .mixedOrders = true:=by kernel_rfl
theorem dfv : (default : FR).val = 0:=rfl
theorem add_dv {x : Rat} : x + (default : FR).val = x:=by rw [dfv,Rat.add_zero]
instance {n m : Nat} {x y : Rat} : Con Tryz.prog 47 [QC n x,QC m y] (n + m + 2 ≤ BIG) (QC (max n m) (mxQ x y)):=.o2 fun hok h1 h2 hp=>by
  refine St.enter (N:=15) Tryz.func47 rfl rfl rfl hok (enter2 h1 h2) fun a=>?_
  have q1 : qb (max n m) x:=h1.1.up (Nat.le_max_left _ _)
  have q2 : qb (max n m) y:=h2.1.up (Nat.le_max_right _ _)
  repeat' (first|((with_reducible refine gS_ ?_);first|((with_reducible refine gL_ ?_);first|refine W.run ?_ fun a w G=>?_|refine W.mv fun a w G=>?_|refine W.asg fun a w G=>?_|refine W.bx fun b a w G=>?_|(refine W.nn hK ?_;clear hK K)|refine W.nl ?_|refine W.al fun b a w G=>?_|refine W.st fun w=>?_|refine W.stp fun w=>?_|refine W.ste ?_ fun w=>?_)|((with_reducible refine gC_ ?_);first|with_reducible refine W.casth (x:=⟨_,_,_,QC _ (x + (default : FR).val)⟩) (τ':=QC (max n m) x) (fun h=>QC.eq (QC.re (by rw [add_dv];exact q1) h) add_dv) ?_|with_reducible refine W.casth (x:=⟨_,_,_,QC _ (y + (default : FR).val)⟩) (τ':=QC (max n m) y) (fun h=>QC.eq (QC.re (by rw [add_dv];exact q2) h) add_dv) ?_|refine W.reg fun K hK=>?_|refine W.reg1 ?_|refine W.sq fun K hK=>?_|refine W.ds ?_ (fun β a w G hu=>W.fin ?_ hu) mixedOrders (by kernel_rfl)|refine W.sk ?_|refine W.cd (fun hc=>?_) (fun hc=>?_)|refine W.cb (fun hc=>?_) (fun hc=>?_)|refine W.bl ?_|refine W.ex ?_|refine W.rt ?_)|((with_reducible refine W.kn hK ?_);clear hK K)|(with_reducible first|refine W.bn ?_|refine W.xt ?_|refine W.xb ?_|refine W.xo ?_|refine W.tr ?_|refine W.br ?_)|refine W.rt1 rfl ?_|refine W.rt2 rfl ?_ ?_|refine W.rt3 rfl ?_ ?_ ?_)|clear hK K|clear hu|exact True.intro|exact Nat.le_trans (by clear hp;omega) hp|exact Nat.le_trans (by clear hp;omega) hp.1|exact Nat.le_trans (by clear hp;omega) hp.2|(clear hp;omega)|apply And.intro|refine GI.i fun _=>?_|with_reducible rfl|decide|(simp only [List.length_cons,List.length_nil];omega))
  all_goals (try simp only [BIG] at *)
  all_goals first
    | omega
    | rfl
    | exact (if_pos (by assumption)).symm
    | exact (if_neg (by assumption)).symm
    | skip
abbrev WTN (w : WT) : MT:=PTS [(none,NT (wFr w)),(none,NT (wTo w)),(some 3,FX 128 w.2.2.1),(none,NT w.2.2.2.toNat)]
abbrev WNS (l : List WT) : MT:=LS (some 6) (l.map WTN)
abbrev BST (m : Nat) (x : BS) : MT:=PTS [(none,BT x.1),(some 3,QC m x.2)]
theorem wtn_mk {n : Nat} {w : WT} (h1 : okW n w) (h2 : 0 ≤ w.2.2.2) {v : Value} {G : Gh} (h : (WTX w).t v G) : (WTN w).t v G:=by
  obtain ⟨us,e1,g1,g2⟩:=h
  unfold okW at h1
  refine ⟨us,e1,g1,fun i p u hp hu=>?_⟩
  match i,hp with
  | 0,hp=>cases hp;obtain ⟨d1,d2⟩:=g2 0 _ u rfl hu;exact ⟨d1,nt_of h1.1 d2⟩
  | 1,hp=>cases hp;obtain ⟨d1,d2⟩:=g2 1 _ u rfl hu;exact ⟨d1,nt_of h1.2.2.1 d2⟩
  | 2,hp=>cases hp;exact g2 2 _ u rfl hu
  | 3,hp=>cases hp;obtain ⟨d1,d2⟩:=g2 3 _ u rfl hu;exact ⟨d1,nt_of h2 d2⟩
  | i + 4,hp=>cases hp
theorem WTS.wn {n : Nat} {l : List WT} (hl : OKL n l) (ht : ∀ j,j < l.length → 0 ≤ (l.getD j default).2.2.2) {v : Value} {G : Gh} (h : (WTS l).t v G) : (WNS l).t v G :=
  LS.convM (T:=WTX) (U:=WTN) (f:=fun w=>w) h (by simp) fun w hw v G hv=>by
    obtain ⟨j,hj,rfl⟩:=List.mem_iff_getElem.1 hw
    have e : l[j] = l.getD j default:=by rw [List.getD_eq_getElem?_getD,List.getElem?_eq_getElem hj];rfl
    rw [e] at hv ⊢
    exact wtn_mk (hl j hj) (ht j hj) hv
theorem bst_0 {m : Nat} {v : Value} {G : Gh} (h : (PTS [(none,BT false),(some 3,FX 1 default)]).t v G) : (BST (m + 1) (false,0)).t v G:=by
  obtain ⟨us,e1,g1,g2⟩:=h
  refine ⟨us,e1,g1,fun i p u hp hu=>?_⟩
  match i,hp with
  | 0,hp=>cases hp;exact g2 0 _ u rfl hu
  | 1,hp=>cases hp;obtain ⟨d1,d2⟩:=g2 1 _ u rfl hu;exact ⟨d1,(inferInstance : AsT (FX 1 default) (QC (m + 1)) 0).h d2⟩
  | i + 2,hp=>cases hp
instance {m : Nat} : AsT (PTS [(none,BT false),(some 3,FX 1 default)]) (BST (m + 1)) (false,0):=⟨bst_0⟩
instance : ZV ⟨some 4,.agg #[.bool false,.bool false,.slice none 0 0,.slice none 0 0],PTS [(none,BT false),(some 3,FX 1 default)]⟩:=ZV.pts [⟨none,.bool false,BT false⟩,⟨some 3,.agg #[.bool false,.slice none 0 0,.slice none 0 0],FX 1 default⟩] inferInstance rfl rfl rfl
theorem ixZ {n T f b k : Nat} : (((f : Nat) : Int) * ((n : Nat) : Int) + ((b : Nat) : Int)) * (((T : Nat) : Int) + 1) + ((k : Nat) : Int) = ((ixT n T f b k : Nat) : Int):=by
  unfold ixT
  simp only [Int.natCast_add,Int.natCast_mul,Int.natCast_one]
theorem ixZ2 {n T f b k c : Nat} : ((ixT n T f b k : Nat) : Int) + ((c : Nat) : Int) = ((ixT n T f b (k + c) : Nat) : Int):=by
  unfold ixT
  omega
theorem ix_bdI {n T f b k : Nat} (hf : f < n) (hb : b < n) (hk : k ≤ T) (hN : n * n * (T + 1) ≤ 10000) : 0 ≤ ((f : Nat) : Int) * ((n : Nat) : Int) ∧ ((f : Nat) : Int) * ((n : Nat) : Int) + ((b : Nat) : Int) ≤ 10000 ∧ 0 ≤ (((f : Nat) : Int) * ((n : Nat) : Int) + ((b : Nat) : Int)) * (((T : Nat) : Int) + 1) ∧ (((f : Nat) : Int) * ((n : Nat) : Int) + ((b : Nat) : Int)) * (((T : Nat) : Int) + 1) ≤ 10000 ∧ T ≤ 10000 ∧ ixT n T f b k < n * n * (T + 1):=by
  have h:=ixT_lt hf hb hk
  have h':=h
  unfold ixT at h'
  have h2 : f * n + b ≤ (f * n + b) * (T + 1):=Nat.le_mul_of_pos_right _ (Nat.succ_pos T)
  have e1 : ((f : Nat) : Int) * ((n : Nat) : Int) = ((f * n : Nat) : Int):=by simp
  have e2 : (((f : Nat) : Int) * ((n : Nat) : Int) + ((b : Nat) : Int)) * (((T : Nat) : Int) + 1) = (((f * n + b) * (T + 1) : Nat) : Int):=by simp
  have h3 : T + 1 ≤ n * n * (T + 1):=Nat.le_mul_of_pos_left _ (Nat.mul_pos (by omega) (by omega))
  rw [e2,e1]
  refine ⟨by omega,by omega,by omega,by omega,by omega,h⟩
section
variable {n T f i k : Nat} {l : List WT} {t o : List BS}
theorem rk_no (h : (!(t.getD (ixT n T f (wFr (l.getD i default)) k) default).1) = true) : rkF n T l t f i o (k + 1) = rkF n T l t f i o k:=by
  show rk1 n T l t f i k (rkF n T l t f i o k) = _
  unfold rk1
  rw [if_neg (by simpa using h)]
theorem rk_no2 (h0 : (!(t.getD (ixT n T f (wFr (l.getD i default)) k) default).1) = false) (h : (!((rkF n T l t f i o k).getD (ixT n T f (wTo (l.getD i default)) (k + (l.getD i default).2.2.2.toNat)) default).1 || decide (cmpQ ((t.getD (ixT n T f (wFr (l.getD i default)) k) default).2 + (l.getD i default).2.2.1.val) ((rkF n T l t f i o k).getD (ixT n T f (wTo (l.getD i default)) (k + (l.getD i default).2.2.2.toNat)) default).2 > 0)) = false) : rkF n T l t f i o (k + 1) = rkF n T l t f i o k:=by
  show rk1 n T l t f i k (rkF n T l t f i o k) = _
  unfold rk1 tuW
  rw [if_pos (by simpa using h0),if_neg (by rw [h];decide)]
theorem rk_yes (h0 : (!(t.getD (ixT n T f (wFr (l.getD i default)) k) default).1) = false) (h : (!((rkF n T l t f i o k).getD (ixT n T f (wTo (l.getD i default)) (k + (l.getD i default).2.2.2.toNat)) default).1 || decide (cmpQ ((t.getD (ixT n T f (wFr (l.getD i default)) k) default).2 + (l.getD i default).2.2.1.val) ((rkF n T l t f i o k).getD (ixT n T f (wTo (l.getD i default)) (k + (l.getD i default).2.2.2.toNat)) default).2 > 0)) = true) (hlen : ixT n T f (wTo (l.getD i default)) (k + (l.getD i default).2.2.2.toNat) < (rkF n T l t f i o k).length) {y : Rat} :
    ((rkF n T l t f i o k).set (ixT n T f (wTo (l.getD i default)) (k + (l.getD i default).2.2.2.toNat)) (true,y)).set (ixT n T f (wTo (l.getD i default)) (k + (l.getD i default).2.2.2.toNat)) ((((rkF n T l t f i o k).set (ixT n T f (wTo (l.getD i default)) (k + (l.getD i default).2.2.2.toNat)) (true,y)).getD (ixT n T f (wTo (l.getD i default)) (k + (l.getD i default).2.2.2.toNat)) default).1,(t.getD (ixT n T f (wFr (l.getD i default)) k) default).2 + (l.getD i default).2.2.1.val) = rkF n T l t f i o (k + 1):=by
  show _ = rk1 n T l t f i k (rkF n T l t f i o k)
  unfold rk1 tuW
  rw [if_pos (by simpa using h0),if_pos h,gsetB hlen,if_pos rfl,List.set_set]
theorem all_len (hl : OKL n l) (ht : TNN l) (hT : ∃ s,TI n T l s t) (hf : f < n) (hi : i < l.length) (hk : k ≤ T + 1 - tuW l i) : (rkF n T l t f i (riF n T l t f (rfF n T l t (List.replicate t.length (false,0)) f) i) k).length = n * n * (T + 1):=by
  obtain ⟨s,hT⟩:=hT
  have h0 : (List.replicate t.length ((false,0) : BS)).length = n * n * (T + 1):=by rw [List.length_replicate,hT.len]
  have h1:=(rfF_rp hl ht hT.snd h0 f (by omega)).1.len.trans h0
  have h2:=(riF_rp hl ht hT.snd hf h1 i (by omega)).1.len.trans h1
  exact (rkF_rp hl ht hT.snd hf hi h2 k hk).1.len.trans h2
end
instance {m : Nat} {a : Bool} {x : Rat} : AsT (PTS [(none,BT a),(some 3,QC m x)]) (BST m) (a,x):=⟨fun h=>h⟩
instance {n T m : Nat} {l : List WT} {t : List BS} : Con Tryz.prog 45 [NT n,NT T,WNS l,LS (some 4) (t.map (BST m))] (1 ≤ n ∧ OKL n l ∧ TNN l ∧ t.length = n * n * (T + 1) ∧ n * n * (T + 1) ≤ 10000 ∧ l.length ≤ 64 ∧ (∀ i,i < l.length → tuW l i ≤ T) ∧ m ≤ 100000 ∧ (∃ s,TI n T l s t)) (LS (some 4) ((raF n T l t).map (BST (m + 128 + 1)))):=.o4 fun hok h1 h2 h3 h4 hp=>by
  refine St.enter (N:=113) Tryz.func45 rfl rfl rfl hok (enter4 h1 h2 h3 h4) fun a=>?_
  obtain ⟨hp1,hp2,hp3,hp4,hp5,hp6,hp7,hp8,s0,hTI⟩:=hp
  have own18 : OwnAt 18:=⟨⟩
  repeat' (first|((with_reducible refine gS_ ?_);first|((with_reducible refine gL_ ?_);first|refine W.run ?_ fun a w G=>?_|refine W.mv fun a w G=>?_|refine W.asg fun a w G=>?_|refine W.bx fun b a w G=>?_|(refine W.nn hK ?_;clear hK K)|refine W.nl ?_|refine W.al fun b a w G=>?_|refine W.st fun w=>?_|refine W.stp fun w=>?_|refine W.ste ?_ fun w=>?_)|((with_reducible refine gC_ ?_);first|refine W.d2 ?_ (fun a w G=>?_) mixedOrders (by kernel_rfl)|refine W.reg fun K hK=>?_|refine W.reg1 ?_|refine W.sq fun K hK=>?_|refine W.ds ?_ (fun β a w G hu=>W.fin ?_ hu) mixedOrders (by kernel_rfl)|refine W.sk ?_|refine W.cd (fun hc=>?_) (fun hc=>?_)|refine W.cb (fun hc=>?_) (fun hc=>?_)|refine W.bl ?_|refine W.ex ?_|refine W.rt ?_)|((with_reducible refine W.kn hK ?_);clear hK K)|(with_reducible first|refine W.bn ?_|refine W.xt ?_|refine W.xb ?_|refine W.xo ?_|refine W.tr ?_|refine W.br ?_)|refine W.rt1 rfl ?_|refine W.rt2 rfl ?_ ?_|refine W.rt3 rfl ?_ ?_ ?_)|refine W.mk (mt:=PTS [(none,BT false),(some 3,FX 1 default)]) (BST (m + 128 + 1)) ((false,0):BS) ?_ fun b a w G=>?_|refine W.fz 8 ?_ fun G=>?_|refine W.lp 19 (α:=Nat) (fun f=>n - f) (fun f=>f ≤ n) [10,11,12,13,14,15,19,20,21,22,23,24,25,26,27,28,29,30,31,32,33,34,35,36,37,38,39,40,41,42,43,44,45,46,47,48,49,50,51,52,53,54,55,56,57,58,59,60,61,62,63,64,65,66,67,68,69,70,71,72,73,74,75,76,77,78,79,80,81,82,83,84,85,86,87,88,89,90,91,92,93,94,95,96,97,98,99,100,101,102,103,104,105,106,107,108,109,110,111] (fun f=>[(10,NT f)]) (fun f=>[(9,ROWS (some 4) ((rfF n T l t (List.replicate t.length (false,0)) f).map (BST (m + 128 + 1))))]) (0) ?_ ?_ ?_ fun f hf a w G=>?_|refine W.ag (x:=f) (f+1) ?_ ?_ ?_ ?_|refine W.lp 24 (α:=Nat) (fun i=>l.length - i) (fun i=>i ≤ l.length) [11,12,13,14,15,24,25,26,27,28,29,30,31,32,33,34,35,36,37,38,39,40,41,42,43,44,45,46,47,48,49,50,51,52,53,54,55,56,57,58,59,60,61,62,63,64,65,66,67,68,69,70,71,72,73,74,75,76,77,78,79,80,81,82,83,84,85,86,87,88,89,90,91,92,93,94,95,96,97,98,99,100,101,102,103,104,105,106,107,108,109,110,111] (fun i=>[(11,NT i)]) (fun i=>[(9,ROWS (some 4) ((riF n T l t f (rfF n T l t (List.replicate t.length (false,0)) f) i).map (BST (m + 128 + 1))))]) (0) ?_ ?_ ?_ fun i hi a w G=>?_|refine W.ag (x:=i) (i+1) ?_ ?_ ?_ ?_|refine W.lp 30 (α:=Nat) (fun k=>T + 1 - tuW l i - k) (fun k=>k ≤ T + 1 - tuW l i) [12,13,14,15,30,31,32,33,34,35,36,37,38,39,40,41,42,43,44,45,46,47,48,49,50,51,52,53,54,55,56,57,58,59,60,61,62,63,64,65,66,67,68,69,70,71,72,73,74,75,76,77,78,79,80,81,82,83,84,85,86,87,88,89,90,91,92,93,94,95,96,97,98,99,100,101,102,103,104,105,106,107,108,109,110,111] (fun k=>[(12,NT k)]) (fun k=>[(9,ROWS (some 4) ((rkF n T l t f i (riF n T l t f (rfF n T l t (List.replicate t.length (false,0)) f) i) k).map (BST (m + 128 + 1))))]) (0) ?_ ?_ ?_ fun k hk a w G=>?_|refine W.ag (x:=k) (k+1) ?_ ?_ ?_ ?_|clear hK K|clear hu|exact True.intro|exact Nat.le_trans (by clear hp;omega) hp|exact Nat.le_trans (by clear hp;omega) hp.1|exact Nat.le_trans (by clear hp;omega) hp.2|(clear hp;omega)|apply And.intro|refine GI.i fun _=>?_|with_reducible rfl|decide|(simp only [List.length_cons,List.length_nil];omega))
  all_goals (try simp only [BIG,LIM,List.length_replicate] at *)
  all_goals (try have hoi:=hp2 i (by omega))
  all_goals (try have hfr:=hoi.fr)
  all_goals (try have hto:=hoi.to)
  all_goals (try have hti:=hp7 i (by omega))
  all_goals (try have htn:=hp3 i (by omega))
  all_goals (try have hu0 : tuW l i = (l.getD i default).2.2.2.toNat:=rfl)
  all_goals (try have hbF:=ix_bdI (b:=wFr (l.getD i default)) (k:=k) (f:=f) (by omega) hfr (show k ≤ T by omega) hp5)
  all_goals (try have hbT:=ix_bdI (b:=wTo (l.getD i default)) (k:=k + (l.getD i default).2.2.2.toNat) (f:=f) (by omega) hto (show k + (l.getD i default).2.2.2.toNat ≤ T by omega) hp5)
  all_goals (try have hbT0:=ix_bdI (b:=wTo (l.getD i default)) (k:=k) (f:=f) (by omega) hto (show k ≤ T by omega) hp5)
  all_goals (try have hal:=all_len (f:=f) (i:=i) (k:=k) hp2 hp3 ⟨s0,hTI⟩ (by omega) (by omega) (by omega))
  all_goals (try have hTb : T + 1 ≤ n * n * (T + 1):=Nat.le_mul_of_pos_left _ (Nat.mul_pos (by omega) (by omega)))
  all_goals (try have hnb : n ≤ n * n * (T + 1):=Nat.le_trans (Nat.le_mul_of_pos_right n (by omega : 0 < n)) (Nat.le_mul_of_pos_right _ (Nat.succ_pos T)))
  all_goals (try simp only [ixZ,ixZ2,Int.toNat_natCast] at *)
  all_goals first
    | omega
    | rfl
    | (rw [hal];omega)
    | (rw [List.length_set,hal];omega)
    | exact (rk_no (by assumption)).symm
    | exact (rk_no2 (by assumption) (by assumption)).symm
    | exact rk_yes (by assumption) (by assumption) (by rw [hal];omega)
    | (have ek : k = T + 1 - tuW l i := by omega
       rw [ek];rfl)
    | (have ei : i = l.length := by omega
       rw [ei];rfl)
    | (have ef : f = n := by omega
       rw [ef];rfl)
    | exact ((rfF_rp hp2 hp3 hTI.snd (o:=List.replicate t.length (false,0)) (by rw [List.length_replicate,hp4]) f (by omega)).1.len.trans (List.length_replicate ..)).symm
    | skip
end Go.Proofs.YtjphllpnhjemjaaGreat
