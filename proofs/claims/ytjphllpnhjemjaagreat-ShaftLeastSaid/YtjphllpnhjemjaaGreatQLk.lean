import Derived.ChangeArms
import Derived.SizedLaws
import Derived.WideShapes
import Derived.Test.YtjphllpnhjemjaaGreatQLj
set_option linter.unusedVariables false
set_option linter.unusedSimpArgs false
set_option linter.unusedVariables false
set_option linter.unusedSimpArgs false
set_option maxHeartbeats 4000000
set_option maxRecDepth 100000
set_option synthInstance.maxSize 100000
set_option synthInstance.maxHeartbeats 400000
namespace Go.Proofs.YtjphllpnhjemjaaGreat
open Go.RowKit (Below)
attribute [local irreducible] Go.Code.wp Go.wpList Go.bodyPost
private theorem gS_ {W0 : World} {G0 : Gh} {N : Nat} {L : List (Nat × MT)} {B : List BX} {a : Act} {w : World} {G : Gh} {q : Prop} (h : St W0 G0 N L B a w G → q) : St W0 G0 N L B a w G → q:=h
private theorem gL_ {p : Prop} {P : Program} {arr : Array Oper} {Q : Exit → Act → World → Prop} {l : List Oper} {a : Act} {w : World} (h : p → wpList P arr Q l a w) : p → wpList P arr Q l a w:=h
private theorem gC_ {p : Prop} {P : Program} {c : Code} {Q : Exit → Act → World → Prop} {a : Act} {w : World} (h : p → c.wp P Q a w) : p → c.wp P Q a w:=h
private theorem mixedOrders : Tryz.prog.follows .mixedOrders = true:=by kernel_rfl
theorem nt_eq {z : Int} {m : Nat} (e : z = ((m : Nat) : Int)) {v : Value} {G : Gh} (h : (IT z).t v G) : (NT m).t v G:=by subst e;exact h
def bsF : Nat → Nat
  | 0=>1
  | s + 1=>bsF s + 128 + 1
theorem bsF_eq : ∀ s,bsF s = 129 * s + 1
  | 0=>rfl
  | s + 1=>by show bsF s + 128 + 1 = _;rw [bsF_eq s];omega
theorem ixZ0 {n T f b : Nat} : (((f : Nat) : Int) * ((n : Nat) : Int) + ((b : Nat) : Int)) * (((T : Nat) : Int) + 1) = ((ixT n T f b 0 : Nat) : Int):=by
  have h:=ixZ (n:=n) (T:=T) (f:=f) (b:=b) (k:=0)
  rw [show ((0 : Nat) : Int) = 0 from rfl,Int.add_zero] at h
  exact h
theorem in_z {n T : Nat} : ∀ m j,((inF n T m).getD j default).2 = 0
  | 0,j=>by
    rw [show inF n T 0 = List.replicate (n * n * (T + 1)) (false,0) from rfl,List.getD_eq_getElem?_getD,List.getElem?_replicate]
    split <;> rfl
  | m + 1,j=>by
    rw [show inF n T (m + 1) = (inF n T m).set ((m * n + m) * (T + 1)) (true,0) from rfl]
    by_cases h : (m * n + m) * (T + 1) < (inF n T m).length
    · rw [gsetB h]
      split
      · rfl
      · exact in_z m j
    · rw [List.set_eq_of_length_le (by omega)];exact in_z m j
theorem in_go {n T e : Nat} : (inF n T e).set (ixT n T e e 0) (true,((inF n T e).getD (ixT n T e e 0) default).2) = inF n T (e + 1):=by
  rw [in_z];rfl
theorem tb_cast {n T q : Nat} {l : List WT} (e : q = n) {v : Value} {G : Gh} (h : (LS (some 4) ((inF n T q).map (BST 1))).t v G) : (LS (some 4) ((tbF n T l 0).map (BST (bsF 0)))).t v G:=by subst e;exact h
theorem tn_bd {n : Nat} {l : List WT} (hn : 1 ≤ n ∧ n ≤ 6) (ht : ∀ j,j < l.length → 0 ≤ (l.getD j default).2.2.2 ∧ (l.getD j default).2.2.2 ≤ 8) : tmF n l ≤ 48 ∧ n * n * (tmF n l + 1) ≤ 1764 ∧ 0 ≤ mxF l l.length ∧ mxF l l.length ≤ 8 ∧ (∀ i,i < l.length → tuW l i ≤ tmF n l):=by
  have h0:=mxF_nn (l:=l) l.length
  have h1:=mxF_le (l:=l) (M:=8) (by decide) l.length fun i hi=>(ht i hi).2
  have h2:=tmF_int (n:=n) (l:=l)
  have h3 : mxF l l.length * (n : Int) ≤ 8 * 6:=Int.mul_le_mul h1 (by omega) (by omega) (by decide)
  have h4 : n * n ≤ 36:=Nat.mul_le_mul hn.2 hn.2
  have h5 : tmF n l ≤ 48:=by omega
  refine ⟨h5,Nat.mul_le_mul h4 (by omega : tmF n l + 1 ≤ 49),h0,h1,fun i hi=>?_⟩
  have h6:=mxF_ge (l:=l) l.length i hi
  have h8 : mxF l l.length * 1 = mxF l l.length:=Int.mul_one _
  have h9:=ht i hi
  have h7 : mxF l l.length * 1 ≤ mxF l l.length * (n : Int):=Int.mul_le_mul_of_nonneg_left (by omega) h0
  unfold tuW
  omega
theorem pk_no {per : Rat} {x : BS} {k : Nat} (h : (!x.1) = true) : pkV per x k = per:=by
  unfold pkV;rw [if_neg];intro h2;rw [h2.1] at h;cases h
theorem pk_0 {per : Rat} {x : BS} : pkV per x 0 = per:=by unfold pkV;rw [if_neg];intro h2;exact h2.2 rfl
theorem pk_y {per : Rat} {x : BS} {k : Nat} (h : (!x.1) = false) (hk : k ≠ 0) : pkV per x k = mxQ per (x.2 / (((k : Nat) : Int) : Rat)):=by
  unfold pkV;rw [if_pos ⟨by simpa using h,hk⟩]
theorem mx_go {l : List WT} {j : Nat} (h : 0 ≤ (l.getD j default).2.2.2) : max (mxF l j) (((l.getD j default).2.2.2.toNat : Nat) : Int) = mxF l (j + 1):=by rw [Int.toNat_of_nonneg h];rfl
def nbF (n T : Nat) (l : List WT) (s e : Nat) : Prop:=((tbF n T l (s + 1)).getD (ixT n T e e 0) default).1 = true → ¬ 0 < ((tbF n T l (s + 1)).getD (ixT n T e e 0) default).2
theorem lsP_0 {n : Nat} {l : List WT} (h : lsE n l = 16) : lsP n l = 0:=if_neg (by rw [h];decide)
theorem sg_pos {x : Rat} (h : x.num.sign > 0) : 0 < x:=by
  have h8:=num_sg x
  by_cases e : x < 0
  · have:=h8.2.2.2 e;omega
  · by_cases e2 : x = 0
    · have:=h8.2.1.2 e2;omega
    · grind
theorem sg_npos {x : Rat} (h : ¬ x.num.sign > 0) : ¬ 0 < x:=fun h2=>by
  have:=(num_sg x).1.2 h2;omega
instance (priority:=2000) {n T s : Nat} {l : List WT} : Con Tryz.prog 45 [NT n,NT T,WNS l,LS (some 4) ((tbF n T l s).map (BST (bsF s)))] (1 ≤ n ∧ OKL n l ∧ TNN l ∧ n * n * (T + 1) ≤ 10000 ∧ l.length ≤ 64 ∧ (∀ i,i < l.length → tuW l i ≤ T) ∧ bsF s ≤ 100000) (LS (some 4) ((tbF n T l (s + 1)).map (BST (bsF (s + 1))))):=.o4 fun hok h1 h2 h3 h4 hp =>
  (inferInstance : Con Tryz.prog 45 [NT n,NT T,WNS l,LS (some 4) ((tbF n T l s).map (BST (bsF s)))] _ (LS (some 4) ((raF n T l (tbF n T l s)).map (BST (bsF s + 128 + 1))))).c4 hok h1 h2 h3 h4 ⟨hp.1,hp.2.1,hp.2.2.1,(TI.tb hp.2.1 hp.2.2.1 s).len,hp.2.2.2.1,hp.2.2.2.2.1,hp.2.2.2.2.2.1,hp.2.2.2.2.2.2,s,TI.tb hp.2.1 hp.2.2.1 s⟩
theorem ps_s {n T s : Nat} {l : List WT} : psF n T l (s + 1) = peF n T (tbF n T l (s + 1)) (psF n T l s) n:=rfl
theorem ps_0 {n T : Nat} {l : List WT} : psF n T l 0 = 0:=rfl
theorem pe_s {n T e : Nat} {t : List BS} {per : Rat} : peF n T t per (e + 1) = pkF n T t e (peF n T t per e) (T + 1):=rfl
theorem pe_0 {n T : Nat} {t : List BS} {per : Rat} : peF n T t per 0 = per:=rfl
theorem pk_s {n T e k : Nat} {t : List BS} {per : Rat} : pkF n T t e per (k + 1) = pkV (pkF n T t e per k) (t.getD (ixT n T e e k) default) k:=rfl
theorem pk_z {n T e : Nat} {t : List BS} {per : Rat} : pkF n T t e per 0 = per:=rfl
theorem in_0 {n T : Nat} : inF n T 0 = List.replicate (n * n * (T + 1)) (false,0):=rfl
theorem tb_len {n T s : Nat} {l : List WT} (hl : OKL n l) (ht : TNN l) : (tbF n T l s).length = n * n * (T + 1):=(TI.tb hl ht s).len
theorem mx_0 {l : List WT} : mxF l 0 = 0:=rfl
section
variable {n T s e k : Nat} {l : List WT}
theorem nb_no (h : (!((tbF n T l (s + 1)).getD (ixT n T e e k) default).1) = true) (hk : 0 < k → nbF n T l s e) : 0 < k + 1 → nbF n T l s e:=fun _=>by
  rcases Nat.eq_zero_or_pos k with e0 | e0
  · subst e0;intro h1;rw [h1] at h;cases h
  · exact hk e0
theorem nb_0 (h0 : k = 0) (h : ¬ ((tbF n T l (s + 1)).getD (ixT n T e e k) default).2.num.sign > 0) : 0 < k + 1 → nbF n T l s e:=fun _=>by
  subst h0;intro _;exact sg_npos h
theorem nb_e (h : ∀ e2,e2 < e → nbF n T l s e2) (h2 : nbF n T l s e) : ∀ e2,e2 < e + 1 → nbF n T l s e2:=fun e2 h3=>by
  rcases Nat.lt_or_eq_of_le (Nat.le_of_lt_succ h3) with e0 | e0
  · exact h e2 e0
  · subst e0;exact h2
theorem nb_s (h : ∀ s2 e,s2 < s → e < n → nbF n T l s2 e) (h2 : ∀ e,e < n → nbF n T l s e) : ∀ s2 e,s2 < s + 1 → e < n → nbF n T l s2 e:=fun s2 e h3 h4=>by
  rcases Nat.lt_or_eq_of_le (Nat.le_of_lt_succ h3) with e0 | e0
  · exact h s2 e e0 h4
  · subst e0;exact h2 e h4
theorem k_ne (h : k ≠ 0) : (((k : Nat) : Int) : Rat) ≠ 0:=fun h1=>by
  have : ((k : Nat) : Int) = 0:=by exact_mod_cast h1
  omega
theorem bad_E (hl : OKL n l) (ht : TNN l) (hn : 0 < n) (he : e < n) (h0 : k = 0) (h1 : (!((tbF n (tmF n l) l (s + 1)).getD (ixT n (tmF n l) e e k) default).1) = false) (h2 : ((tbF n (tmF n l) l (s + 1)).getD (ixT n (tmF n l) e e k) default).2.num.sign > 0) : lsE n l = 16:=by
  subst h0
  exact per_bad hl ht hn he (by simpa using h1) (sg_pos h2)
theorem okk_E (hl : OKL n l) (ht : TNN l) (hn : 0 < n) (h : ∀ s2 e,s2 < n → e < n → nbF n (tmF n l) l s2 e) : lsE n l = 0 ∧ lsP n l = psF n (tmF n l) l n:=per_ok hl ht hn h
end
attribute [local irreducible] tbF raF bsF pkF peF psF inF ixT tmF lsE lsP mxF pkV nbF
instance {n : Nat} {l : List WT} : Con Tryz.prog 19 [NT n,WNS l] (1 ≤ n ∧ n ≤ 6 ∧ OKL n l ∧ (∀ j,j < l.length → 0 ≤ (l.getD j default).2.2.2 ∧ (l.getD j default).2.2.2 ≤ 8) ∧ l.length ≤ 64) (MT.tup2 (QC 2200 (lsP n l)) (IT (lsE n l))):=.o2 fun hok h1 h2 hp=>by
  refine St.enter (N:=112) Tryz.func19 rfl rfl rfl hok (enter2 h1 h2) fun a=>?_
  obtain ⟨hp1,hp2,hp3,hp4,hp5⟩:=hp
  have htn : TNN l:=fun i hi=>(hp4 i hi).1
  obtain ⟨hT1,hT2,hT3,hT4,hT5⟩:=tn_bd (n:=n) (l:=l) ⟨hp1,hp2⟩ hp4
  have hlim:=LS.lenM h2
  simp only [LIM] at hlim
  have own39 : OwnAt 39:=⟨⟩
  repeat' (first|((with_reducible refine gS_ ?_);first|((with_reducible refine gL_ ?_);first|refine W.run ?_ fun a w G=>?_|refine W.mv fun a w G=>?_|refine W.asg fun a w G=>?_|refine W.bx fun b a w G=>?_|(refine W.nn hK ?_;clear hK K)|refine W.nl ?_|refine W.al fun b a w G=>?_|refine W.st fun w=>?_|refine W.stp fun w=>?_|refine W.ste ?_ fun w=>?_)|((with_reducible refine gC_ ?_);first|((have hjl : j = l.length:=by omega);subst hjl)|with_reducible refine W.cast (t:=6) (τ:=IT (mxF l l.length * ((n : Nat) : Int))) (τ':=NT (tmF n l)) (nt_eq tmF_int.symm) ?_|refine W.reg fun K hK=>?_|refine W.reg1 ?_|refine W.sq fun K hK=>?_|refine W.ds ?_ (fun β a w G hu=>W.fin ?_ hu) mixedOrders (by kernel_rfl)|refine W.sk ?_|refine W.cd (fun hc=>?_) (fun hc=>?_)|refine W.cb (fun hc=>?_) (fun hc=>?_)|refine W.bl ?_|refine W.ex ?_|refine W.rt ?_)|((with_reducible refine W.kn hK ?_);clear hK K)|(with_reducible first|refine W.bn ?_|refine W.xt ?_|refine W.xb ?_|refine W.xo ?_|refine W.tr ?_|refine W.br ?_)|refine W.rt1 rfl ?_|refine W.rt2 rfl ?_ ?_|refine W.rt3 rfl ?_ ?_ ?_)|refine W.mk (mt:=PTS [(none,BT false),(some 3,FX 1 default)]) (BST 1) ((false,0):BS) ?_ fun bt a w G=>?_|((fail_if_success (have h9:=bt));refine W.cast (t:=38) (τ:=IT (((n : Nat) : Int) * ((n : Nat) : Int) * (((tmF n l : Nat) : Int) + 1))) (τ':=NT (n * n * (tmF n l + 1))) (nt_eq (by simp only [Int.natCast_add,Int.natCast_mul,Int.natCast_one])) ?_)|((have h9 : q = n:=by omega);refine W.fz 8 ?_ fun G=>?_)|with_reducible refine W.cast (t:=8) (τ:=LS (some 4) ((inF n (tmF n l) q).map (BST 1))) (τ':=LS (some 4) ((tbF n (tmF n l) l 0).map (BST (bsF 0)))) (tb_cast (by omega)) ?_|refine W.lp 17 (α:=Nat) (fun j=>l.length - j) (fun j=>j ≤ l.length) [6,7,17,18,19,20,21,22,23,24,25,26,27,28,29] (fun j=>[(7,NT j),(6,IT (mxF l j))]) (fun j=>[]) (0) ?_ ?_ ?_ fun j hj a w G=>?_|refine W.ag (x:=j) (j+1) ?_ ?_ ?_ ?_|refine W.lp 40 (α:=Nat) (fun q=>n - q) (fun q=>q ≤ n) [9,40,41,42,43,44,45,46,47,48,49,50,51,52,53,54,55] (fun q=>[(9,NT q)]) (fun q=>[(8,ROWS (some 4) ((inF n (tmF n l) q).map (BST 1)))]) (0) ?_ ?_ ?_ fun q hq a w G=>?_|refine W.ag (x:=q) (q+1) ?_ ?_ ?_ ?_|refine W.lp 57 (α:=Nat) (fun s=>n - s) (fun s=>s ≤ n ∧ ∀ s2 e,s2 < s → e < n → nbF n (tmF n l) l s2 e) [5,8,11,12,13,14,15,16,57,58,59,60,61,62,63,64,65,66,67,68,69,70,71,72,73,74,75,76,77,78,79,80,81,82,83,84,85,86,87,88,89,90,91,92,93,94,95,96,97,98,99,100,101,102,103,104,105,106,107,108,109,110] (fun s=>[(11,NT s),(8,LS (some 4) ((tbF n (tmF n l) l s).map (BST (bsF s))))]) (fun s=>[(10,QC 1000 (psF n (tmF n l) l s))]) (0) ?_ ?_ ?_ fun s hs a w G=>?_|refine W.ag (x:=s) (s+1) ?_ ?_ ?_ ?_|refine W.lp 67 (α:=Nat) (fun e=>n - e) (fun e=>e ≤ n ∧ ∀ e2,e2 < e → nbF n (tmF n l) l s e2) [5,12,13,14,15,16,67,68,69,70,71,72,73,74,75,76,77,78,79,80,81,82,83,84,85,86,87,88,89,90,91,92,93,94,95,96,97,98,99,100,101,102,103,104,105,106,107,108,109,110] (fun e=>[(12,NT e)]) (fun e=>[(10,QC 1000 (peF n (tmF n l) (tbF n (tmF n l) l (s + 1)) (psF n (tmF n l) l s) e))]) (0) ?_ ?_ ?_ fun e he a w G=>?_|refine W.ag (x:=e) (e+1) ?_ ?_ ?_ ?_|refine W.lp 72 (α:=Nat) (fun k=>tmF n l + 1 - k) (fun k=>k ≤ tmF n l + 1 ∧ (0 < k → nbF n (tmF n l) l s e)) [5,13,14,15,16,72,73,74,75,76,77,78,79,80,81,82,83,84,85,86,87,88,89,90,91,92,93,94,95,96,97,98,99,100,101,102,103,104,105,106,107,108,109,110] (fun k=>[(13,NT k)]) (fun k=>[(10,QC 1000 (pkF n (tmF n l) (tbF n (tmF n l) l (s + 1)) e (peF n (tmF n l) (tbF n (tmF n l) l (s + 1)) (psF n (tmF n l) l s) e) k))]) (0) ?_ ?_ ?_ fun k hk a w G=>?_|refine W.ag (x:=k) (k+1) ?_ ?_ ?_ ?_|clear hK K|clear hu|exact True.intro|exact Nat.le_trans (by clear hp;omega) hp|exact Nat.le_trans (by clear hp;omega) hp.1|exact Nat.le_trans (by clear hp;omega) hp.2|(clear hp;omega)|apply And.intro|refine GI.i fun _=>?_|with_reducible rfl|decide|(simp only [List.length_cons,List.length_nil];omega))
  all_goals (try simp only [ixZ,ixZ0,ixZ2,Nat.zero_add,Int.toNat_natCast,BIG,LIM,List.length_replicate] at *)
  all_goals (try have hlq:=in_len (n:=n) (T:=tmF n l) q)
  all_goals (try have hbq:=ix_bdI (n:=n) (T:=tmF n l) (f:=q) (b:=q) (k:=0) (by omega) (by omega) (by omega) (by omega))
  all_goals (try have hbe:=ix_bdI (n:=n) (T:=tmF n l) (f:=e) (b:=e) (k:=k) (by omega) (by omega) (by omega) (by omega))
  all_goals (try have hms : mxF l l.length * ((n : Nat) : Int) = ((tmF n l : Nat) : Int):=tmF_int.symm)
  all_goals (try have hnn1 : ((n : Nat) : Int) * ((n : Nat) : Int) = ((n * n : Nat) : Int):=(Int.natCast_mul n n).symm)
  all_goals (try have hnn2 : ((n : Nat) : Int) * ((n : Nat) : Int) * (((tmF n l : Nat) : Int) + 1) = ((n * n * (tmF n l + 1) : Nat) : Int):=by simp only [Int.natCast_add,Int.natCast_mul,Int.natCast_one])
  all_goals (try have hnn3 : n * n ≤ n * n * (tmF n l + 1):=Nat.le_mul_of_pos_right _ (Nat.succ_pos _))
  all_goals (try have hb1:=bsF_eq s)
  all_goals (try have hb2:=bsF_eq (s + 1))
  all_goals (try have htl:=tb_len (n:=n) (T:=tmF n l) (s:=s + 1) hp3 htn)
  all_goals (try have hbz:=ix_bdI (n:=n) (T:=tmF n l) (f:=e) (b:=e) (k:=0) (by omega) (by omega) (by omega) (by omega))
  all_goals (try have hbd:=bad_E (s:=s) (e:=e) (k:=k) hp3 htn (by omega) (by omega) (by omega) (by assumption) (by assumption))
  all_goals (try have hpk:=pk_s (n:=n) (T:=tmF n l) (e:=e) (k:=k) (t:=tbF n (tmF n l) l (s + 1)) (per:=peF n (tmF n l) (tbF n (tmF n l) l (s + 1)) (psF n (tmF n l) l s) e))
  all_goals first
    | omega
    | rfl
    | exact mx_go (hp4 j (by omega)).1
    | exact mx_0.symm
    | (rw [htl];omega)
    | exact nb_no (by assumption) hk.2
    | exact nb_0 (by omega) (by assumption)
    | exact fun _=>hk.2 (by omega)
    | (rw [hpk,pk_no (by assumption)];done)
    | (have ek : k = 0 := by omega
       rw [hpk,ek,pk_0];done)
    | exact hbd.symm
    | exact lsP_0 hbd
    | exact k_ne (by omega)
    | (rw [hpk,pk_y (by assumption) (by omega)];done)
    | exact nb_e he.2 (hk.2 (by omega))
    | (have ek : k = tmF n l + 1 := by omega
       rw [ek];exact pe_s.symm)
    | exact nb_s hs.2 fun e2 h9=>he.2 e2 (by omega)
    | (have ee : e = n := by omega
       rw [ee];exact ps_s.symm)
    | (have es : s = n := by omega
       subst es;exact (okk_E hp3 htn (by omega) hs.2).2.symm)
    | (have es : s = n := by omega
       subst es;exact (okk_E hp3 htn (by omega) hs.2).1.symm)
    | (rw [hms];omega)
    | (rw [hnn2];omega)
    | (rw [hnn1];omega)
    | (rw [hlq];exact hbq.2.2.2.2.2)
    | exact in_0.symm
    | exact in_0
    | exact ps_0
    | exact ps_0.symm
    | exact pe_0.symm
    | exact pk_z.symm
    | exact in_go
    | exact in_go.symm
    | (rw [hlq];done)
    | exact hlq.symm
    | skip
end Go.Proofs.YtjphllpnhjemjaaGreat
set_option linter.unusedVariables false
set_option linter.unusedSimpArgs false
set_option maxHeartbeats 4000000
set_option maxRecDepth 100000
set_option synthInstance.maxSize 100000
set_option synthInstance.maxHeartbeats 400000
namespace Go.Proofs.YtjphllpnhjemjaaGreat
open Go.RowKit (Below)
attribute [local irreducible] Go.Code.wp Go.wpList Go.bodyPost
instance NS.l4 {k : Option Nat} {xs : List FR} : NS (LS k (xs.map RX)) (LS k (xs.map (FX 128))) (∀ r ∈ xs,lgR r = false):=⟨fun e h =>
  LS.convM (T:=RX) (U:=FX 128) (f:=fun r=>r) h (by simp) fun x hx v G hv=>RX.toFX4 hv (e x hx)⟩
theorem lrg_b {l : List WT} (h : lrg l = false) (h2 : ¬ l.length ≤ 16) : 64 < l.length:=by
  rw [lrg_1 (by omega),Bool.or_eq_false_iff,decide_eq_false_iff_not,decide_eq_false_iff_not] at h
  omega
instance {n : Int} {l : List WT} {per : FR} {st : List FR} {lo : List Int} {m : Nat} : Con Tryz.prog 21 [IT n,WRS l,SCX m per st lo] (64 < l.length) (MT.tup2 (BT (vrB n l per st lo)) (.ex (errV 59 (vlC n l per st lo)))):=.o3 fun hok h1 h2 h3 hp=>by
  refine St.enter (N:=126) Tryz.func21 rfl rfl rfl hok (enter3 h1 h2 h3) fun a=>?_
  have hb:=ch_big (n:=n) hp
  have hs:=vl_c (per:=per) (st:=st) (lo:=lo) hb
  repeat' (first|((with_reducible refine gS_ ?_);first|((with_reducible refine gL_ ?_);first|refine W.run ?_ fun a w G=>?_|refine W.mv fun a w G=>?_|refine W.asg fun a w G=>?_|refine W.bx fun b a w G=>?_|(refine W.nn hK ?_;clear hK K)|refine W.nl ?_|refine W.al fun b a w G=>?_|refine W.st fun w=>?_|refine W.stp fun w=>?_|refine W.ste ?_ fun w=>?_)|((with_reducible refine gC_ ?_);first|refine W.reg fun K hK=>?_|refine W.reg1 ?_|refine W.sq fun K hK=>?_|refine W.ds ?_ (fun β a w G hu=>W.fin ?_ hu) mixedOrders (by kernel_rfl)|refine W.sk ?_|refine W.cd (fun hc=>?_) (fun hc=>?_)|refine W.cb (fun hc=>?_) (fun hc=>?_)|refine W.bl ?_|refine W.ex ?_|refine W.rt ?_)|((with_reducible refine W.kn hK ?_);clear hK K)|(with_reducible first|refine W.bn ?_|refine W.xt ?_|refine W.xb ?_|refine W.xo ?_|refine W.tr ?_|refine W.br ?_)|refine W.rt1 rfl ?_|refine W.rt2 rfl ?_ ?_|refine W.rt3 rfl ?_ ?_ ?_)|clear hK K|clear hu|exact True.intro|exact Nat.le_trans (by clear hp;omega) hp|exact Nat.le_trans (by clear hp;omega) hp.1|exact Nat.le_trans (by clear hp;omega) hp.2|(clear hp;omega)|apply And.intro|refine GI.i fun _=>?_|with_reducible rfl|decide|(simp only [List.length_cons,List.length_nil];omega))
  all_goals first
    | omega
    | exact hs.1.symm
    | exact hs.2.symm
    | skip
instance gTH11_5_2 : GcT 5 2 false 5 [6,11,12,13,14,15,16,17,18,19,20,21,22,23,24,25,26,27,28,29,30,31,32,33]:=⟨⟩
instance gTH11_5_3 : GcT 5 3 false 6 [11,12,13,14,15,16,17,18,19,20,21,22,23,24,25,26,27,28,29,30,31,32,33]:=⟨⟩
instance gTH11_5_7 : GcT 5 7 false 35 [36,37,38,39,42,43,44,45,46,47]:=⟨⟩
instance gTH11_5_9 : GcT 5 9 false 48 [49,50,51,52,53,54]:=⟨⟩
instance gTH11_5_13 : GcT 5 13 false 5 [55,56,57,58,59,64,65]:=⟨⟩
instance gTH11_5_14 : GcT 5 14 false 10 [55,56,57,58,59,64,65]:=⟨⟩
end Go.Proofs.YtjphllpnhjemjaaGreat
set_option linter.unusedVariables false
set_option linter.unusedSimpArgs false
set_option maxHeartbeats 4000000
set_option maxRecDepth 100000
set_option synthInstance.maxSize 100000
set_option synthInstance.maxHeartbeats 400000
namespace Go.Proofs.YtjphllpnhjemjaaGreat
open Go.RowKit (Below)
attribute [local irreducible] Go.Code.wp Go.wpList Go.bodyPost
theorem of_0 : FR.of 0 = default:=by decide +kernel
theorem mofv {s : List Rat} : (s.map FR.of).map FR.val = s:=by
  rw [List.map_map]
  conv=>rhs;rw [← List.map_id s]
  apply List.map_congr_left
  intro x _
  exact FR.of_val x
theorem nn_of {x : Rat} (h : 0 ≤ x) : nnR (FR.of x) = true:=by unfold nnR;rw [FR.of_ok,FR.of_val,decide_eq_true h];rfl
theorem getD_of4 {s : List Rat} {j : Nat} (h : j < s.length) : (s.map FR.of).getD j default = FR.of (s.getD j default):=by
  rw [List.getD_eq_getElem?_getD,List.getD_eq_getElem?_getD,List.getElem?_map,List.getElem?_eq_getElem h];rfl
theorem least_ok {n : Int} {l : List WT} (h : chW n l = 0) (hE : lsE n.toNat l = 0) : vlC n l (FR.of (lcP n l)) ((lcS n l).map FR.of) (lcL n l) = 0 ∧ vrB n l (FR.of (lcP n l)) ((lcS n l).map FR.of) (lcL n l) = true ∧ vfB l (lcP n l) (lcS n l) (lcL n l) = true ∧ INL l (lcL n l) ∧ (lcS n l).length = n.toNat ∧ (lcL n l).length ≤ 16 ∧ lcP n l = lsP n.toNat l ∧ lcS n l = rsF n.toNat l (lsP n.toNat l) (n.toNat + 1) 0 ∧ rsC n.toNat l (lsP n.toNat l) = 0:=by
  have hz:=nnz h
  have hl:=hz.2.2.2.2.1
  have ht:=tnn_of h
  have hn:=hz.2.1
  have hjs:=js_ok hl ht hn
  have hx : (rxF n.toNat l (itF n.toNat l (jsF n.toNat l)).1 (n.toNat + 1) 0).1 ≠ []:=fun e=>by
    unfold lsE at hE;rw [if_pos e] at hE;exact absurd hE (by decide)
  have eP : lcP n l = (itF n.toNat l (jsF n.toNat l)).1:=by unfold lcP lsP;rw [if_pos h,if_pos hE]
  have eP2 : lcP n l = lsP n.toNat l:=by unfold lcP;rw [if_pos h]
  have eS : lcS n l = (rxF n.toNat l (itF n.toNat l (jsF n.toNat l)).1 (n.toNat + 1) 0).1:=by unfold lcS lsS;rw [if_pos h,if_pos hE]
  have eL : lcL n l = (itF n.toNat l (jsF n.toNat l)).2:=by unfold lcL lsL;rw [if_pos h,if_pos hE]
  rw [rx_rs hl] at hx eS
  obtain ⟨k,hk,hla,_⟩:=rs_fea hl _ _ hx
  have hlen : (lcS n l).length = n.toNat:=by rw [eS,hk,roF_len.1]
  have hP0 : 0 ≤ lcP n l:=by rw [eP];exact it_nn hl ht hn _ hjs.2
  have hloop : INL l (lcL n l) ∧ (lcL n l).length ≤ 16 ∧ (lcP n l = 0 → (lcL n l).length = 0) ∧ (¬ lcP n l = 0 → LPD l (lcL n l) ∧ 0 < (lcL n l).length ∧ 0 < tuF l (lcL n l) (lcL n l).length ∧ tiF l (lcL n l) (lcL n l).length = lcP n l * (tuF l (lcL n l) (lcL n l).length : Rat)):=by
    rw [eL,eP]
    rcases Nat.eq_zero_or_pos (jsF n.toNat l) with e | e
    · rw [e]
      exact ⟨fun q hq=>absurd hq (Nat.not_lt_zero q),Nat.zero_le _,fun _=>rfl,fun h9=>absurd rfl h9⟩
    · obtain ⟨i,hi⟩ : ∃ i,jsF n.toNat l = i + 1:=⟨jsF n.toNat l - 1,by omega⟩
      have hup:=it_up hl ht hn (hjs.2 i (by omega))
      have hii:=it_nn hl ht hn i fun q hq=>hjs.2 q (by omega)
      rw [hi]
      obtain ⟨c1,_,d1,d2,d3,d4,d5⟩:=hup
      refine ⟨d1,by omega,fun h9=>?_,fun _=>⟨rx_lpd hl hn,by omega,?_,?_⟩⟩
      · rw [h9] at c1;grind
      · rw [ti_all.2];exact d4
      · rw [ti_all.1,ti_all.2];exact d5
  have hv := vl_0 (n := n) (l := l) (per := FR.of (lcP n l)) (st := (lcS n l).map FR.of) (lo := lcL n l) h (by rw [List.length_map, hlen]; omega) (nn_cons (nn_of hP0) fun v hv => by
      rw [List.length_map] at hv
      rw [getD_of4 hv]
      refine nn_of ?_
      rw [eS,hk]
      exact (sl_tight hl hla (by rw [← hlen];exact hv)).1) (fun q hq=>by
      have:=hloop.1 q hq
      unfold inB
      rw [decide_eq_true this.1,decide_eq_true this.2];rfl)
  have hvf : vfB l (lcP n l) (lcS n l) (lcL n l) = true:=by
    have hsl : slB l (lcP n l) (lcS n l) = true:=slB_y fun q hq=>by
      rw [eS,hk,eP]
      exact sl_nn (la_still hl hla).2 hq
    unfold vfB
    rw [hsl,Bool.true_and]
    by_cases h0 : lcP n l = 0
    · rw [if_pos h0];exact decide_eq_true (hloop.2.2.1 h0)
    · obtain ⟨e1,e2,e3,e4⟩:=hloop.2.2.2 h0
      rw [if_neg h0,lpB_y e1,decide_eq_true e2,decide_eq_true e3,decide_eq_true e4];rfl
  refine ⟨hv.1,?_,hvf,hloop.1,hlen,hloop.2.1,eP2,?_,?_⟩
  · rw [hv.2.1,FR.of_val,mofv];exact hvf
  · rw [eS,← eP2,eP]
  · rw [← eP2,eP];exact rsC_y hx
theorem sch_x {p : Rat} {s : List Rat} {lo : List Int} {v : Value} {G : Gh} (h : (SCH p s lo).t v G) : (SCX NB (FR.of p) (s.map FR.of) lo).t v G:=by
  obtain ⟨us,e1,g1,g2⟩:=h
  refine ⟨us,e1,g1,fun i q u hp hu=>?_⟩
  match i,hp with
  | 0,hp=>cases hp;obtain ⟨d1,d2⟩:=g2 0 _ u rfl hu;exact ⟨d1,FX.up (QC.toFX d2 (one_le_of_lt p.den_nz d2.1.2)) (by decide)⟩
  | 1,hp=>cases hp;obtain ⟨d1,d2⟩:=g2 1 _ u rfl hu;exact ⟨d1,LS.convM (T:=QC NB) (U:=FX NB) (f:=FR.of) d2 (by simp) fun x hx v G hv=>QC.toFX hv (one_le_of_lt x.den_nz hv.1.2)⟩
  | 2,hp=>cases hp;exact g2 2 _ u rfl hu
  | i + 3,hp=>cases hp
instance {n : Int} {l : List WT} {p : Rat} {s : List Rat} {lo : List Int} : Con Tryz.prog 21 [IT n,WTS l,SCH p s lo] (s.length ≤ 60 ∧ lo.length ≤ 60) (MT.tup2 (BT (vrB n l (FR.of p) (s.map FR.of) lo)) (.ex (errV 59 (vlC n l (FR.of p) (s.map FR.of) lo)))):=.o3 fun hok h1 h2 h3 hp=>(inferInstance : Con Tryz.prog 21 [IT n,WTS l,SCX NB (FR.of p) (s.map FR.of) lo] _ _).c3 hok h1 h2 (sch_x h3) ⟨Nat.le_refl _,by rw [List.length_map];exact hp.1,hp.2⟩
instance {n : Int} {l : List WT} {p : Rat} {s : List Rat} {lo : List Int} : Con Tryz.prog 22 [IT n,WTS l,SCH p s lo] (chW n l = 0 ∧ s.length ≤ 60 ∧ lo.length ≤ 60) (IT (vlC n l (FR.of p) (s.map FR.of) lo)):=.o3 fun hok h1 h2 h3 hp=>(inferInstance : Con Tryz.prog 22 [IT n,WTS l,SCX NB (FR.of p) (s.map FR.of) lo] _ _).c3 hok h1 h2 (sch_x h3) ⟨hp.1,Nat.le_refl _,by rw [List.length_map];exact hp.2.1,hp.2.2⟩
instance {l : List WT} {p : Rat} {s : List Rat} {lo : List Int} : Con Tryz.prog 23 [WTS l,SCH p s lo] (OKL s.length l ∧ INL l lo ∧ (∀ j,j < l.length → 0 ≤ (l.getD j default).2.2.2 ∧ (l.getD j default).2.2.2 ≤ 8) ∧ l.length ≤ 64 ∧ s.length ≤ 60 ∧ lo.length ≤ 60) (BT (vfB l p s lo)):=.o2 fun hok h1 h2 hp=>by
  have h:=(inferInstance : Con Tryz.prog 23 [WTS l,SCX NB (FR.of p) (s.map FR.of) lo] _ _).c2 hok h1 (sch_x h2) ⟨by rw [List.length_map];exact hp.1,hp.2.1,hp.2.2.1,Nat.le_refl _,hp.2.2.2.1,by rw [List.length_map];exact hp.2.2.2.2.1,hp.2.2.2.2.2⟩
  rwa [FR.of_val,mofv] at h
instance {n : Int} {l : List WT} {p : Rat} : Con Tryz.prog 14 [IT n,WTS l,QC 2200 p] (chW n l = 0) (MT.tup2 (QNS NB (rsF n.toNat l p (n.toNat + 1) 0)) (IT (rsC n.toNat l p))):=.o3 fun hok h1 h2 h3 hp=>by
  have hz:=nnz hp
  exact (inferInstance : Con Tryz.prog 14 [NT n.toNat,WTS l,QC 2200 p] _ _).c3 hok (nt_of (by omega) h1) h2 h3 ⟨hz.2.1,hz.2.2.1,hz.2.2.2.1,hz.2.2.2.2.1,hz.2.2.2.2.2⟩
instance {n : Int} {l : List WT} : Con Tryz.prog 19 [IT n,WTS l] (chW n l = 0 ∧ n ≤ 6) (MT.tup2 (QC 2200 (lsP n.toNat l)) (IT (lsE n.toNat l))):=.o2 fun hok h1 h2 hp=>by
  have hz:=nnz hp.1
  exact (inferInstance : Con Tryz.prog 19 [NT n.toNat,WNS l] _ _).c2 hok (nt_of (by omega) h1) (WTS.wn hz.2.2.2.2.1 (fun j hj=>(hz.2.2.2.2.2 j hj).1) h2) ⟨hz.2.1,by omega,hz.2.2.2.2.1,hz.2.2.2.2.2,hz.2.2.2.1⟩
instance {n : Int} {l : List WT} : Con Tryz.prog 18 [IT n,WRS l] (64 < l.length) (MT.tup2 (SCH (lcP n l) (lcS n l) (lcL n l)) (.ex (errV 59 (lcE n l)))):=.o2 fun hok h1 h2 hp=>by
  refine St.enter (N:=59) Tryz.func18 rfl rfl rfl hok (enter2 h1 h2) fun a=>?_
  have hb:=ch_big (n:=n) hp
  have hs:=ls_e hb
  repeat' (first|((with_reducible refine gS_ ?_);first|((with_reducible refine gL_ ?_);first|refine W.run ?_ fun a w G=>?_|refine W.mv fun a w G=>?_|refine W.asg fun a w G=>?_|refine W.bx fun b a w G=>?_|(refine W.nn hK ?_;clear hK K)|refine W.nl ?_|refine W.al fun b a w G=>?_|refine W.st fun w=>?_|refine W.stp fun w=>?_|refine W.ste ?_ fun w=>?_)|((with_reducible refine gC_ ?_);first|refine W.reg fun K hK=>?_|refine W.reg1 ?_|refine W.sq fun K hK=>?_|refine W.ds ?_ (fun β a w G hu=>W.fin ?_ hu) mixedOrders (by kernel_rfl)|refine W.sk ?_|refine W.cd (fun hc=>?_) (fun hc=>?_)|refine W.cb (fun hc=>?_) (fun hc=>?_)|refine W.bl ?_|refine W.ex ?_|refine W.rt ?_)|((with_reducible refine W.kn hK ?_);clear hK K)|(with_reducible first|refine W.bn ?_|refine W.xt ?_|refine W.xb ?_|refine W.xo ?_|refine W.tr ?_|refine W.br ?_)|refine W.rt1 rfl ?_|refine W.rt2 rfl ?_ ?_|refine W.rt3 rfl ?_ ?_ ?_)|clear hK K|clear hu|exact True.intro|exact Nat.le_trans (by clear hp;omega) hp|exact Nat.le_trans (by clear hp;omega) hp.1|exact Nat.le_trans (by clear hp;omega) hp.2|(clear hp;omega)|apply And.intro|refine GI.i fun _=>?_|with_reducible rfl|decide|(simp only [List.length_cons,List.length_nil];omega))
  all_goals first
    | omega
    | exact hs.1.symm
    | exact hs.2.1
    | exact hs.2.2.1
    | exact hs.2.2.2
    | exact hs.2.1.symm
    | exact hs.2.2.1.symm
    | exact hs.2.2.2.symm
    | skip
attribute [local irreducible] tbF raF bsF pkF peF psF inF ixT tmF lsE lsP mxF pkV nbF lcE lcP lcS lcL vlC vrB vfB rsF rsC
theorem longShaftLeast {n : Int} {l : List WT} : Con Tryz.prog 4 [IT n,WRS l] (((!true || lrg l) || (decide (n > 6) && decide (n ≤ 16))) = true) (BT true):=.o2 fun hok h1 h2 hp=>by
  refine St.enter (N:=120) Tryz.func4 rfl rfl rfl hok (enter2 h1 h2) fun a=>?_
  repeat' (first|((with_reducible refine gS_ ?_);first|((with_reducible refine gL_ ?_);first|refine W.run ?_ fun a w G=>?_|refine W.mv fun a w G=>?_|refine W.asg fun a w G=>?_|refine W.bx fun b a w G=>?_|(refine W.nn hK ?_;clear hK K)|refine W.nl ?_|refine W.al fun b a w G=>?_|refine W.st fun w=>?_|refine W.stp fun w=>?_|refine W.ste ?_ fun w=>?_)|((with_reducible refine gC_ ?_);first|refine W.cbt hp ?_|refine W.reg fun K hK=>?_|refine W.reg1 ?_|refine W.sq fun K hK=>?_|refine W.ds ?_ (fun β a w G hu=>W.fin ?_ hu) mixedOrders (by kernel_rfl)|refine W.sk ?_|refine W.cd (fun hc=>?_) (fun hc=>?_)|refine W.cb (fun hc=>?_) (fun hc=>?_)|refine W.bl ?_|refine W.ex ?_|refine W.rt ?_)|((with_reducible refine W.kn hK ?_);clear hK K)|(with_reducible first|refine W.bn ?_|refine W.xt ?_|refine W.xb ?_|refine W.xo ?_|refine W.tr ?_|refine W.br ?_)|refine W.rt1 rfl ?_|refine W.rt2 rfl ?_ ?_|refine W.rt3 rfl ?_ ?_ ?_)|clear hK K|clear hu|exact True.intro|exact Nat.le_trans (by clear hp;omega) hp|exact Nat.le_trans (by clear hp;omega) hp.1|exact Nat.le_trans (by clear hp;omega) hp.2|(clear hp;omega)|apply And.intro|refine GI.i fun _=>?_|with_reducible rfl|decide|(simp only [List.length_cons,List.length_nil];omega))
  all_goals first | rfl | skip
instance gTH17_4_2 : GcT 4 2 false 4 [12,13,14,15,16,17,18,19,20,21,22,23,24,25]:=⟨⟩
instance gTH17_4_3 : GcT 4 3 false 4 [12,13,14,15,16,17,18,19,20,21,22,23,24,25]:=⟨⟩
instance gTH17_4_4 : GcT 4 4 false 27 [28,29,30,31,32]:=⟨⟩
instance gTH17_4_8 : GcT 4 8 false 33 [34,35,36,37,38]:=⟨⟩
instance gTH17_4_11 : GcT 4 11 false 7 [45,46,69,70,71,72,73,74,75]:=⟨⟩
instance gTH17_4_12 : GcT 4 12 false 5 [6,8,9,10,76,77,78,79,80,81,82,83,84,85,86,87,88,89,90,91,92,93,94,95]:=⟨⟩
instance gTH17_4_13 : GcT 4 13 false 6 [8,9,10,76,77,78,79,80,81,82,83,84,85,86,87,88,89,90,91,92,93,94,95]:=⟨⟩
instance gTH17_4_14 : GcT 4 14 false 96 [97,98,99,100,101,102]:=⟨⟩
theorem shortShaftLeastD {n : Int} {l : List WT} : Con Tryz.prog 4 [IT n,WRS l] (((!true || lrg l) || (decide (n > 6) && decide (n ≤ 16))) = false ∧ 64 < l.length) (BT true):=.o2 fun hok h1 h2 hp=>by
  refine St.enter (N:=120) Tryz.func4 rfl rfl rfl hok (enter2 h1 h2) fun a=>?_
  have e0:=hp.1
  have e1:=ch_big (n:=n) hp.2
  have e2:=(ls_e e1).1
  have e3:=(ls_e e1).2.1
  have e4:=(ls_e e1).2.2.1
  have e5:=(ls_e e1).2.2.2
  repeat' (first|((with_reducible refine gS_ ?_);first|((with_reducible refine gL_ ?_);first|refine W.run ?_ fun a w G=>?_|refine W.mv fun a w G=>?_|refine W.asg fun a w G=>?_|refine W.bx fun b a w G=>?_|(refine W.nn hK ?_;clear hK K)|refine W.nl ?_|refine W.al fun b a w G=>?_|refine W.st fun w=>?_|refine W.stp fun w=>?_|refine W.ste ?_ fun w=>?_)|((with_reducible refine gC_ ?_);first|with_reducible refine W.cbt (by first|assumption|(simp [e0,e1,e2,e3,e4,e5,of_0];done)|fail) ?_|with_reducible refine W.cbf (by first|assumption|(simp [e0,e1,e2,e3,e4,e5,of_0];done)|fail) ?_|with_reducible refine W.gcc 4 ?_|with_reducible refine W.gcd 4 ?_|refine W.reg fun K hK=>?_|refine W.reg1 ?_|refine W.sq fun K hK=>?_|refine W.ds ?_ (fun β a w G hu=>W.fin ?_ hu) mixedOrders (by kernel_rfl)|refine W.sk ?_|refine W.cd (fun hc=>?_) (fun hc=>?_)|refine W.cb (fun hc=>?_) (fun hc=>?_)|refine W.bl ?_|refine W.ex ?_|refine W.rt ?_)|((with_reducible refine W.kn hK ?_);clear hK K)|(with_reducible first|refine W.bn ?_|refine W.xt ?_|refine W.xb ?_|refine W.xo ?_|refine W.tr ?_|refine W.br ?_)|refine W.rt1 rfl ?_|refine W.rt2 rfl ?_ ?_|refine W.rt3 rfl ?_ ?_ ?_)|clear hK K|clear hu|exact True.intro|exact Nat.le_trans (by clear hp;omega) hp|exact Nat.le_trans (by clear hp;omega) hp.1|exact Nat.le_trans (by clear hp;omega) hp.2|(clear hp;omega)|apply And.intro|refine GI.i fun _=>?_|with_reducible rfl|decide|(simp only [List.length_cons,List.length_nil];omega))
  all_goals first
    | omega
    | (simp [e0,e1,e2,e3,e4,e5,of_0];done)
    | exact hp.2
    | skip
theorem shortShaftLeastA {n : Int} {l : List WT} : Con Tryz.prog 4 [IT n,WTS l] (((!true || lrg l) || (decide (n > 6) && decide (n ≤ 16))) = false ∧ ¬ chW n l = 0) (BT true):=.o2 fun hok h1 h2 hp=>by
  refine St.enter (N:=120) Tryz.func4 rfl rfl rfl hok (enter2 h1 h2) fun a=>?_
  have e0:=hp.1
  have e1:=hp.2
  have e2:=(ls_e e1).1
  have e3:=(ls_e e1).2.1
  have e4:=(ls_e e1).2.2.1
  have e5:=(ls_e e1).2.2.2
  repeat' (first|((with_reducible refine gS_ ?_);first|((with_reducible refine gL_ ?_);first|refine W.run ?_ fun a w G=>?_|refine W.mv fun a w G=>?_|refine W.asg fun a w G=>?_|refine W.bx fun b a w G=>?_|(refine W.nn hK ?_;clear hK K)|refine W.nl ?_|refine W.al fun b a w G=>?_|refine W.st fun w=>?_|refine W.stp fun w=>?_|refine W.ste ?_ fun w=>?_)|((with_reducible refine gC_ ?_);first|with_reducible refine W.cbt (by first|assumption|(simp [e0,e1,e2,e3,e4,e5,of_0];done)|fail) ?_|with_reducible refine W.cbf (by first|assumption|(simp [e0,e1,e2,e3,e4,e5,of_0];done)|fail) ?_|with_reducible refine W.gcc 4 ?_|with_reducible refine W.gcd 4 ?_|refine W.reg fun K hK=>?_|refine W.reg1 ?_|refine W.sq fun K hK=>?_|refine W.ds ?_ (fun β a w G hu=>W.fin ?_ hu) mixedOrders (by kernel_rfl)|refine W.sk ?_|refine W.cd (fun hc=>?_) (fun hc=>?_)|refine W.cb (fun hc=>?_) (fun hc=>?_)|refine W.bl ?_|refine W.ex ?_|refine W.rt ?_)|((with_reducible refine W.kn hK ?_);clear hK K)|(with_reducible first|refine W.bn ?_|refine W.xt ?_|refine W.xb ?_|refine W.xo ?_|refine W.tr ?_|refine W.br ?_)|refine W.rt1 rfl ?_|refine W.rt2 rfl ?_ ?_|refine W.rt3 rfl ?_ ?_ ?_)|clear hK K|clear hu|exact True.intro|exact Nat.le_trans (by clear hp;omega) hp|exact Nat.le_trans (by clear hp;omega) hp.1|exact Nat.le_trans (by clear hp;omega) hp.2|(clear hp;omega)|apply And.intro|refine GI.i fun _=>?_|with_reducible rfl|decide|(simp only [List.length_cons,List.length_nil];omega))
  all_goals first
    | omega
    | (simp [e0,e1,e2,e3,e4,e5,of_0];done)
    | skip
theorem lc_16 {n : Int} {l : List WT} (h : chW n l = 0) (h2 : ¬ lsE n.toNat l = 0) : lcE n l = lsE n.toNat l ∧ lcP n l = 0 ∧ lcS n l = [] ∧ lcL n l = [] ∧ lsP n.toNat l = 0:=by
  unfold lcE lcP lcS lcL lsP lsS lsL
  rw [if_pos h,if_pos h,if_pos h,if_pos h,if_neg h2,if_neg h2,if_neg h2]
  exact ⟨rfl,rfl,rfl,rfl,rfl⟩
theorem lc_0 {n : Int} {l : List WT} (h : chW n l = 0) (h2 : lsE n.toNat l = 0) : lcE n l = 0:=by unfold lcE;rw [if_pos h];exact h2
theorem gl6 {n : Int} {l : List WT} (h : ((!true || lrg l) || (decide (n > 6) && decide (n ≤ 16))) = false) (hc : chW n l = 0) : lrg l = false ∧ n ≤ 6:=by
  have hz:=ch_ok hc
  simp only [Bool.not_true,Bool.false_or,Bool.or_eq_false_iff,Bool.and_eq_false_iff,decide_eq_false_iff_not] at h
  exact ⟨h.1,by rcases h.2 with h3 | h3 <;> omega⟩
theorem shortShaftLeastB {n : Int} {l : List WT} : Con Tryz.prog 4 [IT n,WTS l] (((!true || lrg l) || (decide (n > 6) && decide (n ≤ 16))) = false ∧ chW n l = 0 ∧ ¬ lsE n.toNat l = 0) (BT true):=.o2 fun hok h1 h2 hp=>by
  refine St.enter (N:=120) Tryz.func4 rfl rfl rfl hok (enter2 h1 h2) fun a=>?_
  have e0:=hp.1
  have e1:=hp.2.1
  have e2:=hp.2.2
  have e9:=gl6 e0 e1
  have e3:=(lc_16 e1 e2).1
  have e4:=(lc_16 e1 e2).2.1
  have e5:=(lc_16 e1 e2).2.2.1
  have e6:=(lc_16 e1 e2).2.2.2.1
  have e7:=(lc_16 e1 e2).2.2.2.2
  repeat' (first|((with_reducible refine gS_ ?_);first|((with_reducible refine gL_ ?_);first|refine W.run ?_ fun a w G=>?_|refine W.mv fun a w G=>?_|refine W.asg fun a w G=>?_|refine W.bx fun b a w G=>?_|(refine W.nn hK ?_;clear hK K)|refine W.nl ?_|refine W.al fun b a w G=>?_|refine W.st fun w=>?_|refine W.stp fun w=>?_|refine W.ste ?_ fun w=>?_)|((with_reducible refine gC_ ?_);first|with_reducible refine W.cbt (by first|assumption|(simp [e0,e1,e2,e3,e4,e5,e6,e7,of_0];done)|fail) ?_|with_reducible refine W.cbf (by first|assumption|(simp [e0,e1,e2,e3,e4,e5,e6,e7,of_0];done)|fail) ?_|with_reducible refine W.gcc 4 ?_|with_reducible refine W.gcd 4 ?_|refine W.reg fun K hK=>?_|refine W.reg1 ?_|refine W.sq fun K hK=>?_|refine W.ds ?_ (fun β a w G hu=>W.fin ?_ hu) mixedOrders (by kernel_rfl)|refine W.sk ?_|refine W.cd (fun hc=>?_) (fun hc=>?_)|refine W.cb (fun hc=>?_) (fun hc=>?_)|refine W.bl ?_|refine W.ex ?_|refine W.rt ?_)|((with_reducible refine W.kn hK ?_);clear hK K)|(with_reducible first|refine W.bn ?_|refine W.xt ?_|refine W.xb ?_|refine W.xo ?_|refine W.tr ?_|refine W.br ?_)|refine W.rt1 rfl ?_|refine W.rt2 rfl ?_ ?_|refine W.rt3 rfl ?_ ?_ ?_)|clear hK K|clear hu|exact True.intro|exact Nat.le_trans (by clear hp;omega) hp|exact Nat.le_trans (by clear hp;omega) hp.1|exact Nat.le_trans (by clear hp;omega) hp.2|(clear hp;omega)|apply And.intro|refine GI.i fun _=>?_|with_reducible rfl|decide|(simp only [List.length_cons,List.length_nil];omega))
  all_goals first
    | omega
    | (simp [e0,e1,e2,e3,e4,e5,e6,e7,of_0];done)
    | exact e9.2
    | skip
theorem shortShaftLeastC {n : Int} {l : List WT} : Con Tryz.prog 4 [IT n,WTS l] (((!true || lrg l) || (decide (n > 6) && decide (n ≤ 16))) = false ∧ chW n l = 0 ∧ lsE n.toNat l = 0) (BT true):=.o2 fun hok h1 h2 hp=>by
  refine St.enter (N:=120) Tryz.func4 rfl rfl rfl hok (enter2 h1 h2) fun a=>?_
  have e0:=hp.1
  have e1:=hp.2.1
  have e2:=hp.2.2
  have e9:=gl6 e0 e1
  have hz:=nnz e1
  have e3:=lc_0 e1 e2
  obtain ⟨k1,k2,k3,k4,k5,k6,k7,k8,k9⟩:=least_ok e1 e2
  repeat' (first|((with_reducible refine gS_ ?_);first|((with_reducible refine gL_ ?_);first|refine W.run ?_ fun a w G=>?_|refine W.mv fun a w G=>?_|refine W.asg fun a w G=>?_|refine W.bx fun b a w G=>?_|(refine W.nn hK ?_;clear hK K)|refine W.nl ?_|refine W.al fun b a w G=>?_|refine W.st fun w=>?_|refine W.stp fun w=>?_|refine W.ste ?_ fun w=>?_)|((with_reducible refine gC_ ?_);first|with_reducible refine W.cbt (by first|assumption|(simp [e0,e1,e2,e3,k1,k2,k3,k7,k8,k9];done)|fail) ?_|with_reducible refine W.cbf (by first|assumption|(simp [e0,e1,e2,e3,k1,k2,k3,k7,k8,k9];done)|fail) ?_|with_reducible refine W.gcc 4 ?_|with_reducible refine W.gcd 4 ?_|refine W.reg fun K hK=>?_|refine W.reg1 ?_|refine W.sq fun K hK=>?_|refine W.ds ?_ (fun β a w G hu=>W.fin ?_ hu) mixedOrders (by kernel_rfl)|refine W.sk ?_|refine W.cd (fun hc=>?_) (fun hc=>?_)|refine W.cb (fun hc=>?_) (fun hc=>?_)|refine W.bl ?_|refine W.ex ?_|refine W.rt ?_)|((with_reducible refine W.kn hK ?_);clear hK K)|(with_reducible first|refine W.bn ?_|refine W.xt ?_|refine W.xb ?_|refine W.xo ?_|refine W.tr ?_|refine W.br ?_)|refine W.rt1 rfl ?_|refine W.rt2 rfl ?_ ?_|refine W.rt3 rfl ?_ ?_ ?_)|clear hK K|clear hu|exact True.intro|exact Nat.le_trans (by clear hp;omega) hp|exact Nat.le_trans (by clear hp;omega) hp.1|exact Nat.le_trans (by clear hp;omega) hp.2|(clear hp;omega)|apply And.intro|refine GI.i fun _=>?_|with_reducible rfl|decide|(simp only [List.length_cons,List.length_nil];omega))
  all_goals first
    | omega
    | (simp [e0,e1,e2,e3,k1,k2,k3,k7,k8,k9];done)
    | exact e9.2
    | (rw [k5];omega)
    | (rw [k5];exact hz.2.2.2.2.1)
    | exact k4
    | exact hz.2.2.2.2.2
    | exact k7
    | exact k8
    | (rw [k1,k2,k3];rfl)
    | skip
theorem lawShaftLeast {n : Int} {l : List WT} {w : World} {G : Gh} {v1 v2 : Value} (hok : Gok w G) (h1 : (IT n).t v1 G) (h2 : (WRS l).t v2 G) : Calls Tryz.prog 4 #[v1,v2] w (Ret w G (BT true)):=by
  cases hs : ((!true || lrg l) || (decide (n > 6) && decide (n ≤ 16))) with
  | true=>exact longShaftLeast.c2 hok h1 h2 hs
  | false =>
    have hl0 : lrg l = false:=by
      have h9:=hs
      simp only [Bool.not_true,Bool.false_or,Bool.or_eq_false_iff] at h9
      exact h9.1
    by_cases hl : l.length ≤ 16
    · have h2':=WRS.to h2 (lrg_s hl0 hl)
      by_cases hc : chW n l = 0
      · by_cases he : lsE n.toNat l = 0
        · exact shortShaftLeastC.c2 hok h1 h2' ⟨hs,hc,he⟩
        · exact shortShaftLeastB.c2 hok h1 h2' ⟨hs,hc,he⟩
      · exact shortShaftLeastA.c2 hok h1 h2' ⟨hs,hc⟩
    · exact shortShaftLeastD.c2 hok h1 h2 ⟨hs,lrg_b hl0 hl⟩
end Go.Proofs.YtjphllpnhjemjaaGreat
namespace Go.Proofs.YtjphllpnhjemjaaGreat
open Go.RowKit (Below)
def G0of (W : World) : Gh:=fun b=>W.heap[b]?
theorem G0of_ok (W : World) : Gok W (G0of W):=fun _ _ h=>h
theorem Gc_G0 {W : World} {b i : Nat} : Gc (G0of W) b i = W.cell? ⟨b,i,none⟩:=by
  unfold Gc G0of World.cell?;cases W.heap[b]? with
  | none=>rfl
  | some o=>cases o <;> rfl
def RdA (P : Program) (W : World) (t : TypeId) (k : Option Nat) (A : MT → Prop) : Prop:=∀ (H : Type) (enc : TypeId × Value → H) (fuel : Nat) (cs : List Value) (x : DataW H × List MemPlace),
  DataW.trod enc P W 0 (fun _=>true) true fuel t cs = some x → (x.1.weights P t).all (· ≤ reachBytes) = true → ∃ (v : Value) (τ : MT),A τ ∧ v.cells.toList = cs ∧ Shaped k v ∧ τ.t v (G0of W)
section
variable {P : Program} {W : World} {t e : TypeId} {k : Option Nat} {A A' : MT → Prop}
theorem RdA.mono (h : RdA P W t k A) (hA : ∀ τ v,A τ → τ.t v (G0of W) → ∃ σ,A' σ ∧ σ.t v (G0of W)) : RdA P W t k A':=fun H enc fuel cs x hx hw=>by
  obtain ⟨v,τ,h1,h2,h3,h4⟩:=h H enc fuel cs x hx hw
  obtain ⟨σ,h5,h6⟩:=hA τ v h1 h4
  exact ⟨v,σ,h5,h2,h3,h6⟩
theorem rd_bool (ht : P.underlying t = some .bool) : RdA P W t none (fun τ=>∃ b,τ = .ex (.bool b)):=fun H enc fuel cs x hx hw=>by
  obtain ⟨b,rfl,rfl⟩:=DataW.trod_bool ht hx
  exact ⟨.bool b,_,⟨b,rfl⟩,rfl,⟨rfl,rfl⟩,rfl⟩
theorem rd_int {kk : IntKind} (ht : P.underlying t = some (.int kk)) : RdA P W t none (fun τ=>∃ z,(Lit.int kk z).wf = true ∧ τ = .ex (.int kk z)):=fun H enc fuel cs x hx hw=>by
  obtain ⟨z,rfl,rfl,h⟩:=DataW.trod_int ht hx
  exact ⟨.int kk z,_,⟨z,h,rfl⟩,rfl,⟨rfl,rfl⟩,rfl⟩
theorem rd_i64 (ht : P.underlying t = some (.int .i64)) : RdA P W t none (fun τ=>∃ z : Int,τ = .ex (.int .i64 z)):=(rd_int ht).mono fun τ v ⟨z,_,e⟩ hv=>⟨τ,⟨z,e⟩,hv⟩
theorem cells_get {a : Addr} {n : Nat} {L : List Value} (h : W.cells? 0 a n = some L) : L.length = n ∧ ∀ j,j < n → W.cell? (a.add j) = L[j]?:=by
  unfold World.cells? at h
  rw [if_pos (Nat.zero_le _)] at h
  exact ⟨by simpa using mapM_some_length h,fun j hj=>mapM_some_get h j j (by simp [hj])⟩
theorem weightsAll_mem {H : Type} {es : List (DataW H)} {d : DataW H} {i : Nat} (hi : es[i]? = some d) : ∀ n ∈ d.weights P e,n ∈ DataW.weightsAll P e es:=by
  induction es generalizing i with
  | nil=>simp at hi
  | cons x r ih =>
    intro n hn
    rw [DataW.weightsAll,List.mem_append]
    cases i with
    | zero=>simp at hi;subst hi;exact .inl hn
    | succ j=>exact .inr (ih (by simpa using hi) n hn)
theorem rd_sliceB (ht : P.underlying t = some (.slice e)) (hc : P.cellsOf e = k.getD 1) (hc0 : 0 < k.getD 1) (hb : 4 ≤ P.bytesOf e) (h : RdA P W e k A) : RdA P W t none (fun τ=>∃ τs,(∀ σ ∈ τs,A σ) ∧ τs.length * P.bytesOf e ≤ 140737488351232 ∧ τ = LS k τs):=fun H enc fuel cs x hx hw=>by
  rcases DataW.trod_slice ht hx with ⟨rfl,rfl⟩ | ⟨a,len,cap,elems,rest,n,rfl,rfl,rfl,hb0,hlc,hcm,hel,hE,_,_⟩
  · exact ⟨.slice none 0 0,LS k [],⟨[],by simp,by simp,rfl⟩,rfl,⟨rfl,rfl⟩,LS.nil⟩
  · simp only [DataW.weights,ht,List.all_cons,List.all_append,Bool.and_eq_true,decide_eq_true_eq] at hw
    obtain ⟨hw1,hw2,_⟩:=hw
    have hlim : len ≤ LIM:=by
      have h1 : len * 4 ≤ ((elems.map (·.1)).length + (rest.map (·.1)).length) * P.bytesOf e:=Nat.mul_le_mul (by simp;omega) hb
      have h2 : reachBytes = 140737488351232:=rfl
      simp only [LIM];omega
    have hby : len * P.bytesOf e ≤ 140737488351232:=by
      have h1 : len * P.bytesOf e ≤ ((elems.map (·.1)).length + (rest.map (·.1)).length) * P.bytesOf e:=Nat.mul_le_mul_right _ (by simp;omega)
      have h2 : reachBytes = 140737488351232:=rfl
      omega
    have each : ∀ i,∃ (v : Value) (τ : MT),i < len → W.cells? 0 (a.add (i * k.getD 1)) (k.getD 1) = some v.cells.toList ∧ A τ ∧ Shaped k v ∧ τ.t v (G0of W):=fun i=>by
      by_cases hi : i < len
      · have h1:=hE i hi
        rw [List.getElem?_eq_getElem (by omega),Option.bind_eq_some_iff,hc] at h1
        obtain ⟨cs',h2,h3⟩:=h1
        obtain ⟨v,τ,h4,h5,h6,h7⟩:=h H enc n cs' _ h3 (List.all_eq_true.2 fun m hm=>List.all_eq_true.1 hw2 m (weightsAll_mem (i:=i) (by rw [List.getElem?_map,List.getElem?_eq_getElem (by omega)];rfl) m hm))
        exact ⟨v,τ,fun _=>⟨by rw [h5];exact h2,h4,h6,h7⟩⟩
      · exact ⟨undef,.ex undef,fun h=>absurd h hi⟩
    obtain ⟨f,g,hfg⟩ : ∃ (f : Nat → Value) (g : Nat → MT),∀ i,i < len → W.cells? 0 (a.add (i * k.getD 1)) (k.getD 1) = some (f i).cells.toList ∧ A (g i) ∧ Shaped k (f i) ∧ (g i).t (f i) (G0of W):=⟨fun i=>(each i).choose,fun i=>(each i).choose_spec.choose,fun i=>(each i).choose_spec.choose_spec⟩
    refine ⟨.slice (some a) len cap,LS k ((List.range len).map g),⟨_,fun σ hσ=>?_,by simpa using hby,rfl⟩,rfl,⟨rfl,rfl⟩,LS.of_vals (us:=(List.range len).map f) (A:=some a) (c:=cap) (by simp) (by simpa using hlc) (by simpa using hlim) ⟨by simp,fun i τ u hi hu=>?_⟩ fun i u hu=>?_⟩
    · obtain ⟨i,hi,rfl⟩:=List.mem_map.1 hσ
      exact (hfg i (by simpa using hi)).2.1
    · have hlt : i < len:=by have:=(List.getElem?_eq_some_iff.1 hi).1;simpa using this
      simp [List.getElem?_range hlt] at hi hu
      subst hi;subst hu
      exact (hfg i hlt).2.2
    · have hlt : i < len:=by have:=(List.getElem?_eq_some_iff.1 hu).1;simpa using this
      simp [List.getElem?_range hlt] at hu
      subst hu
      obtain ⟨h1,h2,h3,h4⟩:=hfg i hlt
      obtain ⟨h5,h6⟩:=cells_get h1
      obtain ⟨g5,g6⟩:=cells_get (hfg 0 (by omega)).1
      obtain ⟨b,off,spot⟩:=a
      have h7:=g6 0 hc0
      rw [List.getElem?_eq_getElem (by omega)] at h7
      have hs : spot = none:=by simpa [Addr.add] using World.cell?_spot h7
      subst hs
      refine ⟨b,off,rfl,fun j x hj=>?_⟩
      have hjl : j < k.getD 1:=by have:=(Array.getElem?_eq_some_iff.1 hj).1;rw [← h5,Array.length_toList];exact this
      have h8:=h6 j hjl
      rw [Gc_G0]
      rw [addr_add,addr_add,Array.getElem?_toList,hj] at h8
      exact h8
theorem rd_slice (ht : P.underlying t = some (.slice e)) (hc : P.cellsOf e = k.getD 1) (hc0 : 0 < k.getD 1) (hb : 4 ≤ P.bytesOf e) (h : RdA P W e k A) : RdA P W t none (fun τ=>∃ τs,(∀ σ ∈ τs,A σ) ∧ τ = LS k τs) :=
  (rd_sliceB ht hc hc0 hb h).mono fun τ v ⟨τs,h1,_,h2⟩ hv=>⟨τ,⟨τs,h1,h2⟩,hv⟩
theorem forall_map {α : Type} {T : α → MT} {τs : List MT} (h : ∀ σ ∈ τs,∃ x,σ = T x) : ∃ xs : List α,τs = xs.map T:=by
  induction τs with
  | nil=>exact ⟨[],rfl⟩
  | cons a r ih =>
    obtain ⟨l,rfl⟩:=ih fun σ h'=>h σ (List.mem_cons_of_mem _ h')
    obtain ⟨x,rfl⟩:=h a (List.mem_cons_self ..)
    exact ⟨x :: l,rfl⟩
theorem forall_map' {α : Type} {T : α → MT} {p : α → Prop} {τs : List MT} (h : ∀ σ ∈ τs,∃ x,p x ∧ σ = T x) : ∃ xs : List α,τs = xs.map T ∧ ∀ x ∈ xs,p x:=by
  induction τs with
  | nil=>exact ⟨[],rfl,by simp⟩
  | cons a r ih =>
    obtain ⟨l,rfl,hl⟩:=ih fun σ h'=>h σ (List.mem_cons_of_mem _ h')
    obtain ⟨x,hx,rfl⟩:=h a (List.mem_cons_self ..)
    exact ⟨x :: l,rfl,by simpa using ⟨hx,hl⟩⟩
theorem rd_words (ht : P.underlying t = some (.slice e)) (hu : P.underlying e = some (.int .u32)) (hc : P.cellsOf e = 1) (hb : 4 ≤ P.bytesOf e) : RdA P W t none (fun τ=>∃ l,τ = SL l):=by
  have h1 : RdA P W e none (fun τ=>∃ x : Nat,x < 4294967296 ∧ τ = .ex (u32 x)):=(rd_int hu).mono fun τ v ⟨z,hz,hτ⟩ hv=>by
    subst hτ
    have hm : IntKind.u32.min = 0:=by decide
    have hM : IntKind.u32.max = 4294967295:=by decide
    simp [Lit.wf,hm,hM] at hz
    exact ⟨_,⟨z.toNat,by omega,rfl⟩,by
      have : (z.toNat : Int) = z:=by omega
      show v = .int .u32 (z.toNat : Int);rw [this];exact hv⟩
  refine (rd_slice (k:=none) ht hc (by decide) hb h1).mono fun τ v ⟨τs,hσ,hτ⟩ hv=>?_
  subst hτ
  obtain ⟨l,hl,hlt⟩:=forall_map' hσ
  subst hl
  obtain ⟨A,c,us,h2,h3,h4,h5,h6⟩:=LS.vals hv
  rw [List.length_map] at h2 h3 h4
  refine ⟨_,⟨l,rfl⟩,A,c,h2,h3,h4,hlt,fun i x hi=>?_⟩
  have hil:=(List.getElem?_eq_some_iff.1 hi).1
  have hul : i < us.length:=by rw [h5.1,List.length_map];exact hil
  have hui : us[i]? = some us[i]:=by rw [List.getElem?_eq_getElem hul]
  have h7:=(h5.2 i (.ex (u32 x)) us[i] (by rw [List.getElem?_map,hi];rfl) hui).2
  obtain ⟨b,off,e1,h8⟩:=h6 i us[i] hui
  refine ⟨b,off,e1,?_⟩
  have h9 : us[i] = u32 x:=h7
  rw [h9] at h8
  simpa using h8 0 (u32 x) rfl
def FldOk (P : Program) (W : World) : Nat → List Field → List (Option Nat × (MT → Prop)) → Prop
  | _,[],[]=>True
  | off,f :: fs,a :: As=>f.offset = off ∧ P.cellsOf f.type = a.1.getD 1 ∧ RdA P W f.type a.1 a.2 ∧ FldOk P W (off + a.1.getD 1) fs As
  | _,_,_=>False
def Mt : List (Option Nat × (MT → Prop)) → List (Option Nat × MT) → Prop
  | [],[]=>True
  | a :: As,f :: F=>f.1 = a.1 ∧ a.2 f.2 ∧ Mt As F
  | _,_=>False
def tot (As : List (Option Nat × (MT → Prop))) : Nat:=(As.map fun a=>a.1.getD 1).sum
theorem Mt.tot : ∀ {As : List (Option Nat × (MT → Prop))} {F : List (Option Nat × MT)},Mt As F → (F.map fun f=>f.1.getD 1).sum = Go.Proofs.YtjphllpnhjemjaaGreat.tot As
  | [],[],_=>rfl
  | a :: As,f :: F,h=>by
    have:=Mt.tot h.2.2
    simp only [Go.Proofs.YtjphllpnhjemjaaGreat.tot,List.map_cons,List.sum_cons,h.1] at this ⊢
    rw [this]
  | [],_ :: _,h=>h.elim
  | _ :: _,[],h=>h.elim
theorem rd_fields {H : Type} {enc : TypeId × Value → H} {n : Nat} {cs : List Value} : ∀ (fs : List Field) (As : List (Option Nat × (MT → Prop))) (xs : List (DataW H × List MemPlace)) (off : Nat), FldOk P W off fs As → xs.length = fs.length →
    (∀ (i : Nat) (f : Field),fs[i]? = some f → DataW.trod enc P W 0 (fun _=>true) true n f.type ((cs.drop f.offset).take (P.cellsOf f.type)) = xs[i]?) → (DataW.weightsEach P (fs.map (·.type)) (xs.map (·.1))).all (· ≤ reachBytes) = true → cs.length = off + tot As →
    ∃ us F,Mt As F ∧ flat us = cs.drop off ∧ us.length = F.length ∧ ∀ (i : Nat) (f : Option Nat × MT) (u : Value),F[i]? = some f → us[i]? = some u → Shaped f.1 u ∧ f.2.t u (G0of W)
  | [],[],xs,off,_,_,_,_,hl=>⟨[],[],trivial,by rw [List.drop_eq_nil_of_le (by rw [hl];simp [tot])];rfl,rfl,fun i f u h=>by simp at h⟩
  | f :: fs,a :: As,[],off,_,hx,_,_,_=>by simp at hx
  | f :: fs,a :: As,x :: xs,off,hF,hx,hT,hw,hl=>by
    obtain ⟨h1,h2,h3,h4⟩:=hF
    simp only [List.map_cons,DataW.weightsEach,List.all_append,Bool.and_eq_true] at hw
    obtain ⟨v,τ,h5,h6,h7,h8⟩:=h3 H enc n _ x (hT 0 f rfl) hw.1
    obtain ⟨us,F,g1,g2,g3,g4⟩:=rd_fields fs As xs (off + a.1.getD 1) h4 (by simpa using hx) (fun i g hg=>by simpa using hT (i + 1) g (by simpa using hg)) hw.2 (by rw [hl];simp [tot];omega)
    refine ⟨v :: us,(a.1,τ) :: F,⟨rfl,h5,g1⟩,?_,by simp [g3],fun i f' u hf hu=>?_⟩
    · rw [flat_cons,h6,g2,h1,h2,← List.drop_drop,List.take_append_drop]
    · cases i with
      | zero=>simp at hf hu;subst hf;subst hu;exact ⟨h7,h8⟩
      | succ i=>exact g4 i f' u (by simpa using hf) (by simpa using hu)
  | [],_ :: _,_,_,h,_,_,_,_=>h.elim
  | _ :: _,[],_,_,h,_,_,_,_=>h.elim
theorem rd_struct {fs : Array Field} {As : List (Option Nat × (MT → Prop))} {n : Nat} (ht : P.underlying t = some (.struct fs)) (hn : P.cellsOf t = n) (hnA : tot As = n) (hF : FldOk P W 0 fs.toList As) : RdA P W t (some n) (fun τ=>∃ F,Mt As F ∧ τ = PTS F):=fun H enc fuel cs x hx hw=>by
  obtain ⟨xs,m,rfl,rfl,hl,hxl,hT⟩:=DataW.trod_struct ht hx
  simp only [DataW.weights,ht] at hw
  obtain ⟨us,F,h1,h2,h3,h4⟩:=rd_fields fs.toList As xs 0 hF (by simpa using hxl) (fun i f hf=>hT i f (by simpa using hf)) hw (by omega)
  have hP : (PTS F).t (.agg (flat us).toArray) (G0of W):=⟨us,rfl,h3,h4⟩
  refine ⟨.agg (flat us).toArray,PTS F,⟨F,h1,rfl⟩,by rw [h2];rfl,PTS.shaped (by unfold offs;rw [List.take_length,h1.tot,hnA]) hP,hP⟩
theorem shaped1 {u : Value} (h : Shaped none u) : u.cells = #[u]:=h.1
theorem PTS.toQR {s : Bool} {p q : List Nat} {v : Value} {G : Gh} (h : (PTS [(none,.ex (.bool s)),(none,SL p),(none,SL q)]).t v G) : (QR s p q).t v G:=by
  obtain ⟨us,rfl,hl,h⟩:=h
  match us,hl,h with
  | [u0,u1,u2],_,h =>
    obtain ⟨a0,b0⟩:=h 0 _ u0 rfl rfl
    obtain ⟨a1,b1⟩:=h 1 _ u1 rfl rfl
    obtain ⟨a2,b2⟩:=h 2 _ u2 rfl rfl
    refine ⟨u1,u2,?_,b1,b2⟩
    have e0 : u0 = .bool s:=b0
    simp only [flat,List.flatMap_cons,List.flatMap_nil,shaped1 a0,shaped1 a1,shaped1 a2]
    rw [e0];rfl
theorem rd_frac {fs : Array Field} {f0 f1 f2 : Field} {tw : TypeId} (ht : P.underlying t = some (.struct fs)) (hf : fs.toList = [f0, f1, f2]) (hn : P.cellsOf t = 3) (h0 : f0.offset = 0 ∧ P.cellsOf f0.type = 1 ∧ P.underlying f0.type = some .bool) (h1 : f1.offset = 1 ∧ f1.type = tw) (h2 : f2.offset = 2 ∧ f2.type = tw)
    (hw : P.underlying tw = some (.slice e) ∧ P.cellsOf tw = 1) (he : P.underlying e = some (.int .u32) ∧ P.cellsOf e = 1 ∧ 4 ≤ P.bytesOf e) : RdA P W t (some 3) (fun τ=>∃ r : FR,τ = QR r.s r.p r.q):=by
  have hW : RdA P W tw none (fun τ=>∃ l,τ = SL l):=rd_words hw.1 he.1 he.2.1 he.2.2
  refine (rd_struct (As:=[(none,fun τ=>∃ b,τ = .ex (.bool b)),(none,fun τ=>∃ l,τ = SL l),(none,fun τ=>∃ l,τ = SL l)]) ht hn rfl (by
    rw [hf];exact ⟨h0.1,h0.2.1,rd_bool h0.2.2,h1.1,by rw [h1.2];exact hw.2,by rw [h1.2];exact hW,h2.1,by rw [h2.2];exact hw.2,by rw [h2.2];exact hW,trivial⟩)).mono fun τ v ⟨F,hM,hτ⟩ hv=>?_
  subst hτ
  match F,hM with
  | [a,b,c],⟨a1,⟨s,a2⟩,b1,⟨p,b2⟩,c1,⟨q,c2⟩,_⟩ =>
    obtain ⟨a0,a'⟩:=a;obtain ⟨b0,b'⟩:=b;obtain ⟨c0,c'⟩:=c
    simp only at a1 a2 b1 b2 c1 c2
    subst a1;subst a2;subst b1;subst b2;subst c1;subst c2
    exact ⟨_,⟨⟨s,p,q⟩,rfl⟩,PTS.toQR hv⟩
theorem rd_list {α : Type} {T : α → MT} (ht : P.underlying t = some (.slice e)) (hc : P.cellsOf e = k.getD 1) (hc0 : 0 < k.getD 1) (hb : 4 ≤ P.bytesOf e) (h : RdA P W e k (fun τ=>∃ x,τ = T x)) : RdA P W t none (fun τ=>∃ xs : List α,τ = LS k (xs.map T)) :=
  (rd_slice ht hc hc0 hb h).mono fun τ v ⟨τs,hσ,hτ⟩ hv=>by
    obtain ⟨xs,rfl⟩:=forall_map hσ
    subst hτ
    exact ⟨_,⟨xs,rfl⟩,hv⟩
theorem rd_arg {H : Type} {enc : TypeId × Value → H} {v : Value} {d : DataW H} {ps : List MemPlace} (h : RdA P W t k A) (hd : DataW.Trod enc P W 0 (fun _ => true) true t v d ps) (hw : (d.weights P t).all (· ≤ reachBytes) = true)
    (hv : match k with | none=>v.cells = #[v] | some _=>∃ cs,v = .agg cs) : ∃ τ,A τ ∧ Shaped k v ∧ τ.t v (G0of W):=by
  obtain ⟨fuel,hf⟩:=hd
  obtain ⟨u,τ,h1,h2,h3,h4⟩:=h H enc fuel _ _ hf hw
  have : u = v:=by
    cases k with
    | none =>
      have h5 : u.cells = #[u]:=h3.1
      rw [h5,hv] at h2
      simpa using h2
    | some n =>
      obtain ⟨cs,rfl⟩:=hv
      obtain ⟨cs',rfl,_⟩:=h3
      have : cs'.toList = cs.toList:=h2
      rw [Array.toList_inj.1 this]
  subst this
  exact ⟨τ,h1,h3,h4⟩
end
end Go.Proofs.YtjphllpnhjemjaaGreat
