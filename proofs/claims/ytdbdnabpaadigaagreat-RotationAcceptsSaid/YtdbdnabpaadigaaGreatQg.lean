import Derived.Test.YtdbdnabpaadigaaGreatQf
set_option linter.unusedVariables false
set_option linter.unusedSimpArgs false
set_option linter.unusedVariables false
set_option linter.unusedSimpArgs false
set_option maxHeartbeats 4000000
set_option maxRecDepth 100000
set_option synthInstance.maxSize 100000
set_option synthInstance.maxHeartbeats 400000
namespace Go.Proofs.YtdbdnabpaadigaaGreat
open Go.RowKit (Below)
attribute [local irreducible] Go.Code.wp Go.wpList Go.bodyPost
private theorem gS_ {W0 : World} {G0 : Gh} {N : Nat} {L : List (Nat × MT)} {B : List BX} {a : Act} {w : World} {G : Gh} {q : Prop} (h : St W0 G0 N L B a w G → q) : St W0 G0 N L B a w G → q:=h
private theorem gL_ {p : Prop} {P : Program} {arr : Array Oper} {Q : Exit → Act → World → Prop} {l : List Oper} {a : Act} {w : World} (h : p → wpList P arr Q l a w) : p → wpList P arr Q l a w:=h
private theorem gC_ {p : Prop} {P : Program} {c : Code} {Q : Exit → Act → World → Prop} {a : Act} {w : World} (h : p → c.wp P Q a w) : p → c.wp P Q a w:=h
private theorem mixedOrders : Tryz.prog.follows .mixedOrders = true:=by kernel_rfl
theorem sB_s {k n r : Nat} : sB (k + 1) n r = sB k (tB (k + 1) (n + n) r) r:=rfl
attribute [local irreducible] plusF minusF joinF levI lev PW RLN tB sB timesF stepF tmF normF shoF TOK
theorem TOK.rl {rs : List (List Rat)} (h : TOK rs) : RLN rs ∧ rs.length ≤ 5:=by unfold TOK at h;exact ⟨h.2.1,h.1⟩
theorem sg_facts {kk n r : Nat} {rs : List (List Rat)} {l : List Rat} (p1 : kk ≤ rs.length) (p2 : TOK rs) (p3 : PW kk l) (p4 : 1 ≤ n) (p5 : 1 ≤ r) (p6 : sB kk (n + r) r ≤ BIG) (h0 : ¬ (((shoF l).length : Nat) : Int) = 0) (h1 : ¬ (((shoF l).length : Nat) : Int) = 1) :
    kk ≠ 0 ∧ ∃ j,j + 1 ≤ kk ∧ (shoF l).length = 2 ^ (j + 1) ∧ lev (shoF l).length - 1 = j ∧ PW (kk - 1) ((shoF l).take ((shoF l).length / 2)) ∧ PW (kk - 1) ((shoF l).drop ((shoF l).length / 2)) ∧ ((shoF l).length / 2 ≤ (shoF l).length ∧ (shoF l).length ≤ 32) ∧ (0 ≤ levI (shoF l).length - 1 ∧ levI (shoF l).length - 1 < (rs.length : Int)) ∧
    rs.getD (levI (shoF l).length - 1).toNat default = rs.getD j [] ∧ PW (kk - 1) (rs.getD j []) ∧ PW (kk - 1) (normF rs (shoF l)) ∧ tB (j + 1) (n + n) r ≤ BIG ∧ sB (kk - 1) (n + r) r ≤ BIG ∧ sB (kk - 1) (r + r) r ≤ BIG ∧ sB (kk - 1) (tB (j + 1) (n + n) r + r) r ≤ BIG ∧ 1 ≤ tB (j + 1) (n + n) r:=by
  obtain ⟨p7,p8⟩:=p2.rl
  obtain ⟨s1,s2,s3,s4⟩:=sho_ok (by omega) p3
  have hj : ∃ j,j < kk ∧ (shoF l).length = 2 ^ (j + 1):=by
    unfold PW at s2
    rcases s2 with h | ⟨i,hi,h⟩
    · omega
    · cases i with
      | zero=>simp at h;omega
      | succ j=>exact ⟨j,by omega,h⟩
  obtain ⟨j,hj,hl⟩:=hj
  obtain ⟨f1,⟨f2,f3,f3'⟩,f4,f5,f6,f7,f8,f9,f10,f11,f12,f13⟩:=nm_facts p8 p7 (by omega : j < rs.length) hl
  have hn:=norm_ok p7 (by omega : j < rs.length) hl
  obtain ⟨i,rfl⟩ : ∃ i,kk = i + 1:=⟨kk - 1,by omega⟩
  have hs : sB (i + 1) (n + r) r = sB i (tB (i + 1) (n + r + (n + r)) r) r:=sB_s
  have hle : tB (j + 1) (n + n) r + r ≤ tB (i + 1) (n + r + (n + r)) r:=by
    have h1:=tB_up (r:=r) (n:=n + n) (show j + 1 ≤ i + 1 by omega)
    have h2:=tB_add (r:=r) (k:=i + 1) (n:=n + n) (m:=r + r)
    rw [show n + n + (r + r) = n + r + (n + r) by omega] at h2
    omega
  have hbig:=tB_le (r:=r) (k:=i + 1) (n:=n + r + (n + r))
  have hS:=sB_le (r:=r) (k:=i) (n:=tB (i + 1) (n + r + (n + r)) r)
  have m1:=sB_mono (r:=r) (k:=i) hle
  have m2:=sB_mono (r:=r) (k:=i) (n:=n + r) (m:=tB (i + 1) (n + r + (n + r)) r) (by omega)
  have m3:=sB_mono (r:=r) (k:=i) (n:=r + r) (m:=tB (i + 1) (n + r + (n + r)) r) (by omega)
  have hb1:=tB_le (r:=r) (k:=j + 1) (n:=n + n)
  rw [Nat.add_sub_cancel]
  exact ⟨Nat.succ_ne_zero _,j,hj,hl,by rw [hl,lev_pow];rfl,f7.mono (by omega),f8.mono (by omega),⟨by omega,by omega⟩,f11,f12.trans f13,PW.rt p7 (by omega) (by omega),hn.2.mono (by omega),by omega,by omega,by omega,by omega,by omega⟩
theorem sg_short {kk : Nat} {rs : List (List Rat)} {l : List Rat} (p1 : kk ≤ rs.length) (p2 : TOK rs) (p3 : PW kk l) : sgL rs l = sgL rs (shoF l):=(sgL_short (by have:=p2.rl.2;omega) p3).symm
theorem sgStep {kk : Nat} (ih : ∀ {n r : Nat} {rs : List (List Rat)} {l : List Rat},Con Tryz.prog 115 [TWR r rs,NM n l] (kk ≠ 0 ∧ (kk - 1) ≤ rs.length ∧ TOK rs ∧ PW (kk - 1) l ∧ 1 ≤ n ∧ 1 ≤ r ∧ sB (kk - 1) (n + r) r ≤ BIG) (IT (sgL rs l))) {n r : Nat} {rs : List (List Rat)} {l : List Rat} : Con Tryz.prog 115 [TWR r rs,NM n l] (kk ≤ rs.length ∧ TOK rs ∧ PW kk l ∧ 1 ≤ n ∧ 1 ≤ r ∧ sB kk (n + r) r ≤ BIG) (IT (sgL rs l)):=.o2 fun hok h1 h2 hp=>by
  refine St.enter (N:=64) Tryz.func115 rfl rfl rfl hok (enter2 h1 h2) fun a=>?_
  repeat' (first|((with_reducible refine gS_ ?_);first|((with_reducible refine gL_ ?_);first|refine W.run ?_ fun a w G=>?_|refine W.mv fun a w G=>?_|refine W.asg fun a w G=>?_|refine W.bx fun b a w G=>?_|(refine W.nn hK ?_;clear hK K)|refine W.nl ?_|refine W.al fun b a w G=>?_|refine W.st fun w=>?_|refine W.stp fun w=>?_|refine W.ste ?_ fun w=>?_)|((with_reducible refine gC_ ?_);first|refine W.reg fun K hK=>?_|refine W.reg1 ?_|refine W.sq fun K hK=>?_|refine W.ds ?_ (fun β a w G hu=>W.fin ?_ hu) mixedOrders (by kernel_rfl)|refine W.sk ?_|refine W.cd (fun hc=>?_) (fun hc=>?_)|refine W.cb (fun hc=>?_) (fun hc=>?_)|refine W.bl ?_|refine W.ex ?_|refine W.rt ?_)|((with_reducible refine W.kn hK ?_);clear hK K)|(with_reducible first|refine W.bn ?_|refine W.xt ?_|refine W.xb ?_|refine W.xo ?_|refine W.tr ?_|refine W.br ?_)|refine W.rt1 rfl ?_|refine W.rt2 rfl ?_ ?_|refine W.rt3 rfl ?_ ?_ ?_)|clear hK K|clear hu|exact True.intro|exact Nat.le_trans (by clear hp;omega) hp|exact Nat.le_trans (by clear hp;omega) hp.1|exact Nat.le_trans (by clear hp;omega) hp.2|(clear hp;omega)|apply And.intro|refine GI.i fun _=>?_|with_reducible rfl|decide|(simp only [List.length_cons,List.length_nil];omega))
  all_goals obtain ⟨p1,p2,p3,p4,p5,p6⟩:=hp
  all_goals have hn:=sB_le (r:=r) (k:=kk) (n:=n + r)
  all_goals have hl32:=p3.l32 (by have:=p2.rl.2;omega)
  all_goals have e0:=sg_short p1 p2 p3
  all_goals have hsl : (shoF l).length ≤ l.length:=(sho_ok (by have:=p2.rl.2;omega) p3).2.2.2
  all_goals first
    | omega
    | (have h0 : (((shoF l).length : Nat) : Int) = 0 := by assumption
       rw [e0,List.length_eq_zero_iff.1 (show (shoF l).length = 0 by omega),sgL_nil])
    | (have h1 : (((shoF l).length : Nat) : Int) = 1 := by assumption
       rw [e0,sgL_one (by omega)];rfl)
    | (obtain ⟨g1, j, g2, g3, g4, g5, g6, ⟨g7, g7'⟩, g8, g9, g10, g11, g12, g13, g14, g15, g16⟩ := sg_facts p1 p2 p3 p4 p5 p6 (by assumption) (by assumption)
       have g17:=p2.rl
       have g18:=sgL_step p2 (by omega : j < rs.length) g3
       have g19:=sgL_mul_bd rs ((shoF l).take ((shoF l).length / 2)) (normF rs (shoF l))
       (try simp only [g9] at *)
       (try rw [g4])
       first
       | omega
       | assumption
       | exact g17.1
       | exact g19.1
       | exact g19.2
       | (rw [e0,g18];simp only [Bool.or_eq_true,Bool.or_eq_false_iff,decide_eq_true_eq,decide_eq_false_iff_not] at *;grind)
       | skip)
    | skip
theorem sgK : ∀ (kk : Nat) {n r : Nat} {rs : List (List Rat)} {l : List Rat},Con Tryz.prog 115 [TWR r rs,NM n l] (kk ≤ rs.length ∧ TOK rs ∧ PW kk l ∧ 1 ≤ n ∧ 1 ≤ r ∧ sB kk (n + r) r ≤ BIG) (IT (sgL rs l)):=fun kk=>by
  induction kk with
  | zero=>exact sgStep (kk:=0) ⟨fun _ _ hp=>absurd rfl hp.1⟩
  | succ kk ih=>exact sgStep (kk:=kk + 1) ⟨fun hok ha hp=>ih.h hok ha hp.2⟩
instance {n r : Nat} {rs : List (List Rat)} {l : List Rat} {τ1 : MT} [j1 : NU τ1 (TWR r rs)] {τ2 : MT} [j2 : NU τ2 (NM n l)] : Con Tryz.prog 115 [τ1,τ2] (TOK rs ∧ PW rs.length l ∧ 1 ≤ n ∧ 1 ≤ r ∧ sB rs.length (n + r) r ≤ BIG) (IT (sgL rs l)):=.o2 fun hok h1 h2 hp=>(sgK rs.length).c2 hok (j1.h h1) (j2.h h2) ⟨Nat.le_refl _,hp.1,hp.2.1,hp.2.2.1,hp.2.2.2.1,hp.2.2.2.2⟩
theorem num_f {K : Nat} {l : List Rat} {z : Int} (h : PW K l) (hz : z = K) (hl : 0 < l.length) (hc : (decide (levI l.length < 0) || decide (levI l.length > z)) = true) : False:=by
  have key : ∃ j : Nat,j ≤ K ∧ levI l.length = j:=by
    unfold PW at h
    rcases h with h | ⟨j,hj,h⟩
    · omega
    · exact ⟨j,hj,by rw [h,levI_pow]⟩
  obtain ⟨j,hj,e⟩:=key
  rw [e] at hc
  simp only [Bool.or_eq_true,decide_eq_true_eq] at hc
  omega
theorem w169 {n r : Nat} {rs : List (List Rat)} {l : List Rat} : Con Tryz.prog 169 [TWR r rs,NM n l] (n ≤ BIG ∧ rs.length ≤ 5 ∧ PW rs.length l) (.ex (errV 69 (0))):=.o2 fun hok h1 h2 hp=>by
  refine St.enter (N:=34) Tryz.func169 rfl rfl rfl hok (enter2 h1 h2) fun a=>?_
  have hl32:=hp.2.2.l32 hp.2.1
  repeat' (first|((with_reducible refine gS_ ?_);first|((with_reducible refine gL_ ?_);first|refine W.run ?_ fun a w G=>?_|refine W.mv fun a w G=>?_|refine W.asg fun a w G=>?_|refine W.bx fun b a w G=>?_|(refine W.nn hK ?_;clear hK K)|refine W.nl ?_|refine W.al fun b a w G=>?_|refine W.st fun w=>?_|refine W.stp fun w=>?_|refine W.ste ?_ fun w=>?_)|((with_reducible refine gC_ ?_);first|refine W.reg fun K hK=>?_|refine W.reg1 ?_|refine W.sq fun K hK=>?_|refine W.ds ?_ (fun β a w G hu=>W.fin ?_ hu) mixedOrders (by kernel_rfl)|refine W.sk ?_|refine W.cd (fun hc=>?_) (fun hc=>?_)|refine W.cb (fun hc=>?_) (fun hc=>?_)|refine W.bl ?_|refine W.ex ?_|refine W.rt ?_)|((with_reducible refine W.kn hK ?_);clear hK K)|(with_reducible first|refine W.bn ?_|refine W.xt ?_|refine W.xb ?_|refine W.xo ?_|refine W.tr ?_|refine W.br ?_)|refine W.rt1 rfl ?_|refine W.rt2 rfl ?_ ?_|refine W.rt3 rfl ?_ ?_ ?_)|refine W.lp 26 (α:=Nat) (fun j=>l.length - j) (fun j=>j ≤ l.length) [4,7,25,26,27,28,29,30,31,32,33] (fun j=>[(25,NT j)]) (fun j=>[]) (0) ?_ ?_ ?_ fun j hj a w G=>?_|refine W.ag (x:=j) (j+1) ?_ ?_ ?_ ?_|clear hK K|clear hu|exact True.intro|exact Nat.le_trans (by clear hp;omega) hp|exact Nat.le_trans (by clear hp;omega) hp.1|exact Nat.le_trans (by clear hp;omega) hp.2|(clear hp;omega)|apply And.intro|refine GI.i fun _=>?_|with_reducible rfl|decide|(simp only [List.length_cons,List.length_nil];omega))
  all_goals first
    | omega
    | (exfalso;exact num_f hp.2.2 rfl (by omega) (by assumption))
    | (exfalso;rw [FR.of_ok] at *;contradiction)
    | (exfalso;simp only [FR.of_ok,Bool.not_true] at *;contradiction)
    | skip
instance {n r : Nat} {rs : List (List Rat)} {l : List Rat} {τ1 : MT} [j1 : NU τ1 (TWR r rs)] {τ2 : MT} [j2 : NU τ2 (NM n l)] : Con Tryz.prog 169 [τ1,τ2] (n ≤ BIG ∧ rs.length ≤ 5 ∧ PW rs.length l) (.ex (errV 69 (0))):=.o2 fun hok h1 h2 hp=>w169.c2 hok (j1.h h1) (j2.h h2) hp
theorem w168 {r : Nat} {rs : List (List Rat)} : Con Tryz.prog 168 [TWR r rs] (TOK rs ∧ 1 ≤ r ∧ sB rs.length (r + r) r ≤ BIG) (.ex (errV 69 (0))):=.o1 fun hok h1 hp=>by
  refine St.enter (N:=43) Tryz.func168 rfl rfl rfl hok (enter1 h1) fun a=>?_
  have h5:=hp.1.rl
  have hbg:=sB_le (r:=r) (k:=rs.length) (n:=r + r)
  repeat' (first|((with_reducible refine gS_ ?_);first|((with_reducible refine gL_ ?_);first|refine W.run ?_ fun a w G=>?_|refine W.mv fun a w G=>?_|refine W.asg fun a w G=>?_|refine W.bx fun b a w G=>?_|(refine W.nn hK ?_;clear hK K)|refine W.nl ?_|refine W.al fun b a w G=>?_|refine W.st fun w=>?_|refine W.stp fun w=>?_|refine W.ste ?_ fun w=>?_)|((with_reducible refine gC_ ?_);first|refine W.reg fun K hK=>?_|refine W.reg1 ?_|refine W.sq fun K hK=>?_|refine W.ds ?_ (fun β a w G hu=>W.fin ?_ hu) mixedOrders (by kernel_rfl)|refine W.sk ?_|refine W.cd (fun hc=>?_) (fun hc=>?_)|refine W.cb (fun hc=>?_) (fun hc=>?_)|refine W.bl ?_|refine W.ex ?_|refine W.rt ?_)|((with_reducible refine W.kn hK ?_);clear hK K)|(with_reducible first|refine W.bn ?_|refine W.xt ?_|refine W.xb ?_|refine W.xo ?_|refine W.tr ?_|refine W.br ?_)|refine W.rt1 rfl ?_|refine W.rt2 rfl ?_ ?_|refine W.rt3 rfl ?_ ?_ ?_)|refine W.lp 16 (α:=Nat) (fun j=>rs.length - j) (fun j=>j ≤ rs.length) [2,3,4,5,6,15,16,17,18,19,20,21,22,23,24,25,26,27,28,29,30,31,32,33,34,35,36,37,38,39,40,41,42] (fun j=>[(15,NT j)]) (fun j=>[]) (0) ?_ ?_ ?_ fun j hj a w G=>?_|refine W.ag (x:=j) (j+1) ?_ ?_ ?_ ?_|clear hK K|clear hu|exact True.intro|exact Nat.le_trans (by clear hp;omega) hp|exact Nat.le_trans (by clear hp;omega) hp.1|exact Nat.le_trans (by clear hp;omega) hp.2|(clear hp;omega)|apply And.intro|refine GI.i fun _=>?_|with_reducible rfl|decide|(simp only [List.length_cons,List.length_nil];omega))
  all_goals first
    | omega
    | (have ht := hp.1.take j
       have hl:=h5.1.at (show j < rs.length by omega)
       have hs:=sB_ups (r:=r) (n:=r + r) (show (rs.take j).length ≤ rs.length by rw [List.length_take];omega)
       have hlt : (rs.take j).length = j:=by rw [List.length_take];omega
       have hpw : PW (rs.take j).length (rs.getD j []):=by rw [hlt];exact PW.pow hl
       have hj5 : 2 ^ j ≤ 2 ^ 5:=Nat.pow_le_pow_right (by decide) (by omega)
       have hnn:=hp.1.nn (show j < rs.length by omega)
       rw [← ht.2 _ hpw] at hnn
       first
       | omega
       | exact ht.1
       | exact hpw
       | (exfalso;have hd : (rs.getD j default).length = 2 ^ j:=hl;omega)
       | (exfalso;have hd : 0 ≤ sgL (List.take j rs) (rs.getD j default):=hnn;omega)
       | skip)
    | skip
instance {r : Nat} {rs : List (List Rat)} {τ1 : MT} [j1 : NU τ1 (TWR r rs)] : Con Tryz.prog 168 [τ1] (TOK rs ∧ 1 ≤ r ∧ sB rs.length (r + r) r ≤ BIG) (.ex (errV 69 (0))):=.o1 fun hok h1 hp=>w168.c1 hok (j1.h h1) hp
theorem getD_mem {l : List (List Rat)} {j : Nat} (h : j < l.length) : l.getD j default ∈ l:=by rw [List.getD_eq_getElem?_getD,List.getElem?_eq_getElem h];exact List.getElem_mem h
theorem w114 {r n : Nat} {rs ls : List (List Rat)} : Con Tryz.prog 114 [TWR r rs,RTS n ls] (TOK rs ∧ 1 ≤ r ∧ n ≤ BIG ∧ sB rs.length (r + r) r ≤ BIG ∧ ls.length ≤ 8 ∧ ∀ x ∈ ls,PW rs.length x) (.ex (errV 69 (0))):=.o2 fun hok h1 h2 hp=>by
  refine St.enter (N:=27) Tryz.func114 rfl rfl rfl hok (enter2 h1 h2) fun a=>?_
  have h5:=hp.1.rl
  repeat' (first|((with_reducible refine gS_ ?_);first|((with_reducible refine gL_ ?_);first|refine W.run ?_ fun a w G=>?_|refine W.mv fun a w G=>?_|refine W.asg fun a w G=>?_|refine W.bx fun b a w G=>?_|(refine W.nn hK ?_;clear hK K)|refine W.nl ?_|refine W.al fun b a w G=>?_|refine W.st fun w=>?_|refine W.stp fun w=>?_|refine W.ste ?_ fun w=>?_)|((with_reducible refine gC_ ?_);first|refine W.reg fun K hK=>?_|refine W.reg1 ?_|refine W.sq fun K hK=>?_|refine W.ds ?_ (fun β a w G hu=>W.fin ?_ hu) mixedOrders (by kernel_rfl)|refine W.sk ?_|refine W.cd (fun hc=>?_) (fun hc=>?_)|refine W.cb (fun hc=>?_) (fun hc=>?_)|refine W.bl ?_|refine W.ex ?_|refine W.rt ?_)|((with_reducible refine W.kn hK ?_);clear hK K)|(with_reducible first|refine W.bn ?_|refine W.xt ?_|refine W.xb ?_|refine W.xo ?_|refine W.tr ?_|refine W.br ?_)|refine W.rt1 rfl ?_|refine W.rt2 rfl ?_ ?_|refine W.rt3 rfl ?_ ?_ ?_)|refine W.lp 17 (α:=Nat) (fun j=>ls.length - j) (fun j=>j ≤ ls.length) [4,7,8,16,17,18,19,20,21,22,23,24,25,26] (fun j=>[(16,NT j)]) (fun j=>[]) (0) ?_ ?_ ?_ fun j hj a w G=>?_|refine W.ag (x:=j) (j+1) ?_ ?_ ?_ ?_|clear hK K|clear hu|exact True.intro|exact Nat.le_trans (by clear hp;omega) hp|exact Nat.le_trans (by clear hp;omega) hp.1|exact Nat.le_trans (by clear hp;omega) hp.2|(clear hp;omega)|apply And.intro|refine GI.i fun _=>?_|with_reducible rfl|decide|(simp only [List.length_cons,List.length_nil];omega))
  all_goals first
    | omega
    | exact hp.1
    | exact hp.2.2.2.2.2 _ (getD_mem (by omega))
    | skip
instance {r n : Nat} {rs ls : List (List Rat)} {τ1 : MT} [j1 : NU τ1 (TWR r rs)] {τ2 : MT} [j2 : NU τ2 (RTS n ls)] : Con Tryz.prog 114 [τ1,τ2] (TOK rs ∧ 1 ≤ r ∧ n ≤ BIG ∧ sB rs.length (r + r) r ≤ BIG ∧ ls.length ≤ 8 ∧ ∀ x ∈ ls,PW rs.length x) (.ex (errV 69 (0))):=.o2 fun hok h1 h2 hp=>w114.c2 hok (j1.h h1) (j2.h h2) hp
theorem w50 {n r : Nat} {rs : List (List Rat)} {l : List Rat} : Con Tryz.prog 50 [TWR r rs,NM n l] (TOK rs ∧ PW rs.length l ∧ 1 ≤ r ∧ 1 ≤ n ∧ sB rs.length (n + r) r ≤ BIG ∧ sB rs.length (r + r) r ≤ BIG) (MT.tup2 (IT (sgL rs l)) (.ex (errV 69 (0)))):=.o2 fun hok h1 h2 hp=>by
  refine St.enter (N:=17) Tryz.func50 rfl rfl rfl hok (enter2 h1 h2) fun a=>?_
  have h5:=hp.1.rl
  have hbg:=sB_le (r:=r) (k:=rs.length) (n:=n + r)
  repeat' (first|((with_reducible refine gS_ ?_);first|((with_reducible refine gL_ ?_);first|refine W.run ?_ fun a w G=>?_|refine W.mv fun a w G=>?_|refine W.asg fun a w G=>?_|refine W.bx fun b a w G=>?_|(refine W.nn hK ?_;clear hK K)|refine W.nl ?_|refine W.al fun b a w G=>?_|refine W.st fun w=>?_|refine W.stp fun w=>?_|refine W.ste ?_ fun w=>?_)|((with_reducible refine gC_ ?_);first|refine W.reg fun K hK=>?_|refine W.reg1 ?_|refine W.sq fun K hK=>?_|refine W.ds ?_ (fun β a w G hu=>W.fin ?_ hu) mixedOrders (by kernel_rfl)|refine W.sk ?_|refine W.cd (fun hc=>?_) (fun hc=>?_)|refine W.cb (fun hc=>?_) (fun hc=>?_)|refine W.bl ?_|refine W.ex ?_|refine W.rt ?_)|((with_reducible refine W.kn hK ?_);clear hK K)|(with_reducible first|refine W.bn ?_|refine W.xt ?_|refine W.xb ?_|refine W.xo ?_|refine W.tr ?_|refine W.br ?_)|refine W.rt1 rfl ?_|refine W.rt2 rfl ?_ ?_|refine W.rt3 rfl ?_ ?_ ?_)|clear hK K|clear hu|exact True.intro|exact Nat.le_trans (by clear hp;omega) hp|exact Nat.le_trans (by clear hp;omega) hp.1|exact Nat.le_trans (by clear hp;omega) hp.2|(clear hp;omega)|apply And.intro|refine GI.i fun _=>?_|with_reducible rfl|decide|(simp only [List.length_cons,List.length_nil];omega))
  all_goals first
    | omega
    | exact hp.1
    | exact hp.2.1
    | (intro x hx;simp only [List.mem_cons,List.not_mem_nil,or_false] at hx;subst hx;exact hp.2.1)
    | (simp;done)
    | skip
instance {n r : Nat} {rs : List (List Rat)} {l : List Rat} {τ1 : MT} [j1 : NU τ1 (TWR r rs)] {τ2 : MT} [j2 : NU τ2 (NM n l)] : Con Tryz.prog 50 [τ1,τ2] (TOK rs ∧ PW rs.length l ∧ 1 ≤ r ∧ 1 ≤ n ∧ sB rs.length (n + r) r ≤ BIG ∧ sB rs.length (r + r) r ≤ BIG) (MT.tup2 (IT (sgL rs l)) (.ex (errV 69 (0)))):=.o2 fun hok h1 h2 hp=>w50.c2 hok (j1.h h1) (j2.h h2) hp
theorem w51 {n m r : Nat} {rs : List (List Rat)} {l k : List Rat} : Con Tryz.prog 51 [TWR r rs,NM n l,NM m k] (TOK rs ∧ PW rs.length l ∧ PW rs.length k ∧ 1 ≤ r ∧ 1 ≤ n ∧ 1 ≤ m ∧ sB rs.length (n + m + 1 + r) r ≤ BIG ∧ sB rs.length (r + r) r ≤ BIG) (MT.tup2 (IT (sgL rs (plusF l (minusF k)))) (.ex (errV 69 (0)))):=.o3 fun hok h1 h2 h3 hp=>by
  refine St.enter (N:=23) Tryz.func51 rfl rfl rfl hok (enter3 h1 h2 h3) fun a=>?_
  have h5:=hp.1.rl
  have hbg:=sB_le (r:=r) (k:=rs.length) (n:=n + m + 1 + r)
  have l1:=hp.2.1.l32 h5.2
  have l2:=hp.2.2.1.l32 h5.2
  have l3:=hp.2.2.1.minus.l32 h5.2
  repeat' (first|((with_reducible refine gS_ ?_);first|((with_reducible refine gL_ ?_);first|refine W.run ?_ fun a w G=>?_|refine W.mv fun a w G=>?_|refine W.asg fun a w G=>?_|refine W.bx fun b a w G=>?_|(refine W.nn hK ?_;clear hK K)|refine W.nl ?_|refine W.al fun b a w G=>?_|refine W.st fun w=>?_|refine W.stp fun w=>?_|refine W.ste ?_ fun w=>?_)|((with_reducible refine gC_ ?_);first|refine W.reg fun K hK=>?_|refine W.reg1 ?_|refine W.sq fun K hK=>?_|refine W.ds ?_ (fun β a w G hu=>W.fin ?_ hu) mixedOrders (by kernel_rfl)|refine W.sk ?_|refine W.cd (fun hc=>?_) (fun hc=>?_)|refine W.cb (fun hc=>?_) (fun hc=>?_)|refine W.bl ?_|refine W.ex ?_|refine W.rt ?_)|((with_reducible refine W.kn hK ?_);clear hK K)|(with_reducible first|refine W.bn ?_|refine W.xt ?_|refine W.xb ?_|refine W.xo ?_|refine W.tr ?_|refine W.br ?_)|refine W.rt1 rfl ?_|refine W.rt2 rfl ?_ ?_|refine W.rt3 rfl ?_ ?_ ?_)|clear hK K|clear hu|exact True.intro|exact Nat.le_trans (by clear hp;omega) hp|exact Nat.le_trans (by clear hp;omega) hp.1|exact Nat.le_trans (by clear hp;omega) hp.2|(clear hp;omega)|apply And.intro|refine GI.i fun _=>?_|with_reducible rfl|decide|(simp only [List.length_cons,List.length_nil];omega))
  all_goals first
    | omega
    | exact hp.1
    | exact hp.2.1.plus hp.2.2.1.minus
    | (intro x hx;simp only [List.mem_cons,List.not_mem_nil,or_false] at hx;rcases hx with hx | hx <;> subst hx <;> first | exact hp.2.1 | exact hp.2.2.1)
    | (simp;done)
    | skip
instance {n m r : Nat} {rs : List (List Rat)} {l k : List Rat} {τ1 : MT} [j1 : NU τ1 (TWR r rs)] {τ2 : MT} [j2 : NU τ2 (NM n l)] {τ3 : MT} [j3 : NU τ3 (NM m k)] : Con Tryz.prog 51 [τ1,τ2,τ3] (TOK rs ∧ PW rs.length l ∧ PW rs.length k ∧ 1 ≤ r ∧ 1 ≤ n ∧ 1 ≤ m ∧ sB rs.length (n + m + 1 + r) r ≤ BIG ∧ sB rs.length (r + r) r ≤ BIG) (MT.tup2 (IT (sgL rs (plusF l (minusF k)))) (.ex (errV 69 (0)))):=.o3 fun hok h1 h2 h3 hp=>w51.c3 hok (j1.h h1) (j2.h h2) (j3.h h3) hp
theorem zv0' : (default : FR).val = 0:=rfl
theorem w75 {n : Nat} {x : Rat} : Con Tryz.prog 75 [QV n x] (n + 2 ≤ BIG) (NM (n + 2) (shoF [x])):=.o1 fun hok h1 hp=>by
  refine St.enter (N:=8) Tryz.func75 rfl rfl rfl hok (enter1 h1) fun a=>?_
  repeat' (first|((with_reducible refine gS_ ?_);first|((with_reducible refine gL_ ?_);first|refine W.run ?_ fun a w G=>?_|refine W.mv fun a w G=>?_|refine W.asg fun a w G=>?_|refine W.bx fun b a w G=>?_|(refine W.nn hK ?_;clear hK K)|refine W.nl ?_|refine W.al fun b a w G=>?_|refine W.st fun w=>?_|refine W.stp fun w=>?_|refine W.ste ?_ fun w=>?_)|((with_reducible refine gC_ ?_);first|refine W.reg fun K hK=>?_|refine W.reg1 ?_|refine W.sq fun K hK=>?_|refine W.ds ?_ (fun β a w G hu=>W.fin ?_ hu) mixedOrders (by kernel_rfl)|refine W.sk ?_|refine W.cd (fun hc=>?_) (fun hc=>?_)|refine W.cb (fun hc=>?_) (fun hc=>?_)|refine W.bl ?_|refine W.ex ?_|refine W.rt ?_)|((with_reducible refine W.kn hK ?_);clear hK K)|(with_reducible first|refine W.bn ?_|refine W.xt ?_|refine W.xb ?_|refine W.xo ?_|refine W.tr ?_|refine W.br ?_)|refine W.rt1 rfl ?_|refine W.rt2 rfl ?_ ?_|refine W.rt3 rfl ?_ ?_ ?_)|clear hK K|clear hu|exact True.intro|exact Nat.le_trans (by clear hp;omega) hp|exact Nat.le_trans (by clear hp;omega) hp.1|exact Nat.le_trans (by clear hp;omega) hp.2|(clear hp;omega)|apply And.intro|refine GI.i fun _=>?_|with_reducible rfl|decide|(simp only [List.length_cons,List.length_nil];omega))
  all_goals first
    | omega
    | (simp;done)
    | (congr 1;grind [zv0'])
    | skip
instance {n : Nat} {x : Rat} {τ1 : MT} [j1 : NQ τ1 (QV n x)] : Con Tryz.prog 75 [τ1] (n + 2 ≤ BIG) (NM (n + 2) (shoF [x])):=.o1 fun hok h1 hp=>w75.c1 hok (j1.h h1) hp
end Go.Proofs.YtdbdnabpaadigaaGreat
set_option linter.unusedVariables false
set_option linter.unusedSimpArgs false
set_option maxHeartbeats 4000000
set_option maxRecDepth 100000
set_option synthInstance.maxSize 100000
set_option synthInstance.maxHeartbeats 400000
namespace Go.Proofs.YtdbdnabpaadigaaGreat
open Go.RowKit (Below)
attribute [local irreducible] Go.Code.wp Go.wpList Go.bodyPost
theorem vl2 {p s x y z u : Rat} : vlL [[p],[s,0]] [x,y,z,u] = (RR.of x + RR.of y * rt p) + (RR.of z + RR.of u * rt p) * rt s:=by
  rw [El.vl_at (k:=2) (l:=[x,y,z,u]) (by decide) (Nat.le_refl 4)]
  show (RR.of x + RR.of y * (RR.of p).sq) + (RR.of z + RR.of u * (RR.of p).sq) * (RR.of s + RR.of 0 * (RR.of p).sq).sq = _
  rw [show RR.of 0 = (0 : RR) from rfl,RR.zero_mul,RR.add_zero];rfl
theorem sg2 {p s x y z : Rat} (hp : 0 ≤ p) (hs : 0 ≤ s) : sgL [[p],[s,0]] [x,y,z,0] = surdsF x y p z s:=by
  unfold sgL
  rw [vl2,surds_sg hp hs,show RR.of 0 = (0 : RR) from rfl,RR.zero_mul,RR.add_zero]
theorem sg2p {p s x y u : Rat} (hp : 0 ≤ p) (hs : 0 ≤ s) : sgL [[p],[s,0]] [x,y,0,u] = surdsF x y p u (p * s):=by
  unfold sgL
  rw [vl2,surds_sg hp (Rat.mul_nonneg hp hs),rt_mul hp hs,show RR.of 0 = (0 : RR) from rfl,RR.add_comm 0,RR.add_zero,RR.mul_assoc]
theorem tok2 {p s : Rat} (hp : 0 ≤ p) (hs : 0 ≤ s) : TOK [[p],[s,0]]:=by
  refine ⟨show 2 ≤ 5 by decide,fun j hj=>?_,fun j hj=>?_⟩
  · match j,hj with
    | 0,_=>rfl
    | 1,_=>rfl
  · match j,hj with
    | 0,_ =>
      show 0 ≤ vlL [[p],[s,0]] [p]
      rw [El.vl_at (k:=0) (l:=[p]) (by decide) (Nat.le_refl 1)]
      exact RR.of_le (p:=0) |>.2 hp
    | 1,_ =>
      show 0 ≤ vlL [[p],[s,0]] [s,0]
      rw [El.vl_at (k:=1) (l:=[s,0]) (by decide) (Nat.le_refl 2)]
      show 0 ≤ RR.of s + RR.of 0 * (RR.of p).sq
      rw [show RR.of 0 = (0 : RR) from rfl,RR.zero_mul,RR.add_zero]
      exact RR.of_le (p:=0) |>.2 hs
theorem pw4 {x y z u : Rat} : PW 2 [x,y,z,u]:=.inr ⟨2,Nat.le_refl _,rfl⟩
theorem sB2 {x r : Nat} : sB 2 x r = 48 * x + 25 * r + 21:=by simp only [sB,tB];omega
def nearF (g a b c : FR) (k : Rat) : Int:=surdsF (g.val + a.val - (b.val + c.val)) (-(2 * k)) (a.val * g.val) 2 (b.val * c.val)
def farF (g a b c : FR) (k : Rat) : Int:=surdsF (b.val + c.val - (g.val + a.val)) (2 * k) (a.val * g.val) 2 (b.val * c.val)
def gapC (g a b c k : FR) : Int:=if chkF [g,a,b,c] = 0 then (if k.ok then (if 1 < k.val ∨ k.val < -1 then 3 else 0) else 2) else chkF [g,a,b,c]
def fullF (g a b c : FR) : Bool:=decide (chkF [g,a,b,c] = 0) && decide (0 ≤ nearF g a b c 1) && decide (0 ≤ farF g a b c (-1))
theorem pos_nn {g a b c : FR} (h : [g,a,b,c].all posR = true) : 0 ≤ a.val * g.val ∧ 0 ≤ b.val * c.val:=by
  simp only [List.all_cons,List.all_nil,Bool.and_true,Bool.and_eq_true] at h
  have h1:=posR_val h.1;have h2:=posR_val h.2.1;have h3:=posR_val h.2.2.1;have h4:=posR_val h.2.2.2
  exact ⟨Rat.mul_nonneg (by grind) (by grind),Rat.mul_nonneg (by grind) (by grind)⟩
theorem near_sg {g a b c : FR} {k : Rat} (h : [g,a,b,c].all posR = true) : sgL [[a.val * g.val],[b.val * c.val,0]] [g.val + a.val - (b.val + c.val),-(2 * k),2,0] = nearF g a b c k:=sg2 (pos_nn h).1 (pos_nn h).2
theorem far_sg {g a b c : FR} {k : Rat} (h : [g,a,b,c].all posR = true) : sgL [[a.val * g.val],[b.val * c.val,0]] [b.val + c.val - (g.val + a.val),2 * k,2,0] = farF g a b c k:=sg2 (pos_nn h).1 (pos_nn h).2
theorem gapC_0 {g a b c k : FR} (h : chkF [g,a,b,c] ≠ 0) : gapC g a b c k = chkF [g,a,b,c]:=by unfold gapC;rw [if_neg h]
theorem gapC_2 {g a b c k : FR} (h : ¬ chkF [g,a,b,c] ≠ 0) (h2 : (!k.ok) = true) : gapC g a b c k = 2:=by unfold gapC;rw [if_pos (by omega),if_neg (by simpa using h2)]
theorem gapC_3 {g a b c k : FR} (h : ¬ chkF [g,a,b,c] ≠ 0) (h2 : (!k.ok) = false) (h3 : (decide (cmpQ k.val 1 > 0) || decide (cmpQ k.val (-1) < 0)) = true) : gapC g a b c k = 3:=by
  unfold gapC;rw [if_pos (by omega),if_pos (by simpa using h2),if_pos]
  rw [Bool.or_eq_true,decide_eq_true_eq,decide_eq_true_eq,cmpQ_gt0,cmpQ_lt0] at h3;exact h3
theorem gapC_n {g a b c k : FR} (h : ¬ chkF [g,a,b,c] ≠ 0) (h2 : (!k.ok) = false) (h3 : (decide (cmpQ k.val 1 > 0) || decide (cmpQ k.val (-1) < 0)) = false) : gapC g a b c k = 0:=by
  unfold gapC;rw [if_pos (by omega),if_pos (by simpa using h2),if_neg]
  rw [Bool.or_eq_false_iff,decide_eq_false_iff_not,decide_eq_false_iff_not,cmpQ_gt0,cmpQ_lt0] at h3;exact fun e=>e.elim h3.1 h3.2
theorem full_bad {g a b c : FR} (h : chkF [g,a,b,c] ≠ 0) : fullF g a b c = false:=by unfold fullF;rw [decide_eq_false h];rfl
theorem full_ok {g a b c : FR} (h : ¬ chkF [g,a,b,c] ≠ 0) : fullF g a b c = (decide (nearF g a b c 1 ≥ 0) && decide (farF g a b c (-1) ≥ 0)):=by unfold fullF;rw [decide_eq_true (show chkF [g,a,b,c] = 0 by omega),Bool.true_and]
instance NU.qc {τ : MT} {n : Nat} {x : Rat} [h : Rdn τ QC n x] : NU τ (QC n x):=⟨fun hv=>h.h hv⟩
attribute [local irreducible] plusF minusF joinF levI lev PW RLN tB sB timesF stepF tmF normF shoF TOK sgL surdsF chkF
theorem w159 {n : Nat} {rg ra rb rc : FR} : Con Tryz.prog 159 [QUD n rg ra rb rc] (1000 * n + 100000 ≤ BIG) (TWR (n + n) [[ra.val * rg.val],[rb.val * rc.val,0]]):=.o1 fun hok h1 hp=>by
  refine St.enter (N:=18) Tryz.func159 rfl rfl rfl hok (enter1 h1) fun a=>?_
  have hn1:=qud_pos h1
  repeat' (first|((with_reducible refine gS_ ?_);first|((with_reducible refine gL_ ?_);first|refine W.run ?_ fun a w G=>?_|refine W.mv fun a w G=>?_|refine W.asg fun a w G=>?_|refine W.bx fun b a w G=>?_|(refine W.nn hK ?_;clear hK K)|refine W.nl ?_|refine W.al fun b a w G=>?_|refine W.st fun w=>?_|refine W.stp fun w=>?_|refine W.ste ?_ fun w=>?_)|((with_reducible refine gC_ ?_);first|refine W.reg fun K hK=>?_|refine W.reg1 ?_|refine W.sq fun K hK=>?_|refine W.ds ?_ (fun β a w G hu=>W.fin ?_ hu) mixedOrders (by kernel_rfl)|refine W.sk ?_|refine W.cd (fun hc=>?_) (fun hc=>?_)|refine W.cb (fun hc=>?_) (fun hc=>?_)|refine W.bl ?_|refine W.ex ?_|refine W.rt ?_)|((with_reducible refine W.kn hK ?_);clear hK K)|(with_reducible first|refine W.bn ?_|refine W.xt ?_|refine W.xb ?_|refine W.xo ?_|refine W.tr ?_|refine W.br ?_)|refine W.rt1 rfl ?_|refine W.rt2 rfl ?_ ?_|refine W.rt3 rfl ?_ ?_ ?_)|clear hK K|clear hu|exact True.intro|exact Nat.le_trans (by clear hp;omega) hp|exact Nat.le_trans (by clear hp;omega) hp.1|exact Nat.le_trans (by clear hp;omega) hp.2|(clear hp;omega)|apply And.intro|refine GI.i fun _=>?_|with_reducible rfl|decide|(simp only [List.length_cons,List.length_nil];omega))
instance {n : Nat} {rg ra rb rc : FR} {τ1 : MT} [j1 : NF τ1 (QUD n rg ra rb rc)] : Con Tryz.prog 159 [τ1] (1000 * n + 100000 ≤ BIG) (TWR (n + n) [[ra.val * rg.val],[rb.val * rc.val,0]]):=.o1 fun hok h1 hp=>w159.c1 hok (j1.h h1) hp
theorem w160 {n m k l : Nat} {x y z u : Rat} : Con Tryz.prog 160 [QC n x,QC m y,QC k z,QC l u] (True) (NM (max n (max m (max k l))) [x,y,z,u]):=.o4 fun hok h1 h2 h3 h4 hp=>by
  refine St.enter (N:=14) Tryz.func160 rfl rfl rfl hok (enter4 h1 h2 h3 h4) fun a=>?_
  repeat' (first|((with_reducible refine gS_ ?_);first|((with_reducible refine gL_ ?_);first|refine W.run ?_ fun a w G=>?_|refine W.mv fun a w G=>?_|refine W.asg fun a w G=>?_|refine W.bx fun b a w G=>?_|(refine W.nn hK ?_;clear hK K)|refine W.nl ?_|refine W.al fun b a w G=>?_|refine W.st fun w=>?_|refine W.stp fun w=>?_|refine W.ste ?_ fun w=>?_)|((with_reducible refine gC_ ?_);first|refine W.reg fun K hK=>?_|refine W.reg1 ?_|refine W.sq fun K hK=>?_|refine W.ds ?_ (fun β a w G hu=>W.fin ?_ hu) mixedOrders (by kernel_rfl)|refine W.sk ?_|refine W.cd (fun hc=>?_) (fun hc=>?_)|refine W.cb (fun hc=>?_) (fun hc=>?_)|refine W.bl ?_|refine W.ex ?_|refine W.rt ?_)|((with_reducible refine W.kn hK ?_);clear hK K)|(with_reducible first|refine W.bn ?_|refine W.xt ?_|refine W.xb ?_|refine W.xo ?_|refine W.tr ?_|refine W.br ?_)|refine W.rt1 rfl ?_|refine W.rt2 rfl ?_ ?_|refine W.rt3 rfl ?_ ?_ ?_)|clear hK K|clear hu|exact True.intro|exact Nat.le_trans (by clear hp;omega) hp|exact Nat.le_trans (by clear hp;omega) hp.1|exact Nat.le_trans (by clear hp;omega) hp.2|(clear hp;omega)|apply And.intro|refine GI.i fun _=>?_|with_reducible rfl|decide|(simp only [List.length_cons,List.length_nil];omega))
instance {n m k l : Nat} {x y z u : Rat} {τ1 : MT} [j1 : NU τ1 (QC n x)] {τ2 : MT} [j2 : NU τ2 (QC m y)] {τ3 : MT} [j3 : NU τ3 (QC k z)] {τ4 : MT} [j4 : NU τ4 (QC l u)] : Con Tryz.prog 160 [τ1,τ2,τ3,τ4] (True) (NM (max n (max m (max k l))) [x,y,z,u]):=.o4 fun hok h1 h2 h3 h4 hp=>w160.c4 hok (j1.h h1) (j2.h h2) (j3.h h3) (j4.h h4) hp
theorem w161 {n m : Nat} {rg ra rb rc : FR} {k : Rat} : Con Tryz.prog 161 [QUD n rg ra rb rc,QV m k] (1000 * n + 1000 * m + 200000 ≤ BIG) (NM (4 * n + m + 70) [rg.val + ra.val - (rb.val + rc.val),-(2 * k),2,0]):=.o2 fun hok h1 h2 hp=>by
  refine St.enter (N:=27) Tryz.func161 rfl rfl rfl hok (enter2 h1 h2) fun a=>?_
  repeat' (first|((with_reducible refine gS_ ?_);first|((with_reducible refine gL_ ?_);first|refine W.run ?_ fun a w G=>?_|refine W.mv fun a w G=>?_|refine W.asg fun a w G=>?_|refine W.bx fun b a w G=>?_|(refine W.nn hK ?_;clear hK K)|refine W.nl ?_|refine W.al fun b a w G=>?_|refine W.st fun w=>?_|refine W.stp fun w=>?_|refine W.ste ?_ fun w=>?_)|((with_reducible refine gC_ ?_);first|refine W.reg fun K hK=>?_|refine W.reg1 ?_|refine W.sq fun K hK=>?_|refine W.ds ?_ (fun β a w G hu=>W.fin ?_ hu) mixedOrders (by kernel_rfl)|refine W.sk ?_|refine W.cd (fun hc=>?_) (fun hc=>?_)|refine W.cb (fun hc=>?_) (fun hc=>?_)|refine W.bl ?_|refine W.ex ?_|refine W.rt ?_)|((with_reducible refine W.kn hK ?_);clear hK K)|(with_reducible first|refine W.bn ?_|refine W.xt ?_|refine W.xb ?_|refine W.xo ?_|refine W.tr ?_|refine W.br ?_)|refine W.rt1 rfl ?_|refine W.rt2 rfl ?_ ?_|refine W.rt3 rfl ?_ ?_ ?_)|clear hK K|clear hu|exact True.intro|exact Nat.le_trans (by clear hp;omega) hp|exact Nat.le_trans (by clear hp;omega) hp.1|exact Nat.le_trans (by clear hp;omega) hp.2|(clear hp;omega)|apply And.intro|refine GI.i fun _=>?_|with_reducible rfl|decide|(simp only [List.length_cons,List.length_nil];omega))
instance {n m : Nat} {rg ra rb rc : FR} {k : Rat} {τ1 : MT} [j1 : NF τ1 (QUD n rg ra rb rc)] {τ2 : MT} [j2 : NQ τ2 (QV m k)] : Con Tryz.prog 161 [τ1,τ2] (1000 * n + 1000 * m + 200000 ≤ BIG) (NM (4 * n + m + 70) [rg.val + ra.val - (rb.val + rc.val),-(2 * k),2,0]):=.o2 fun hok h1 h2 hp=>w161.c2 hok (j1.h h1) (j2.h h2) hp
theorem w162 {n m : Nat} {rg ra rb rc : FR} {k : Rat} : Con Tryz.prog 162 [QUD n rg ra rb rc,QV m k] (1000 * n + 1000 * m + 200000 ≤ BIG) (NM (4 * n + m + 70) [rb.val + rc.val - (rg.val + ra.val),2 * k,2,0]):=.o2 fun hok h1 h2 hp=>by
  refine St.enter (N:=26) Tryz.func162 rfl rfl rfl hok (enter2 h1 h2) fun a=>?_
  repeat' (first|((with_reducible refine gS_ ?_);first|((with_reducible refine gL_ ?_);first|refine W.run ?_ fun a w G=>?_|refine W.mv fun a w G=>?_|refine W.asg fun a w G=>?_|refine W.bx fun b a w G=>?_|(refine W.nn hK ?_;clear hK K)|refine W.nl ?_|refine W.al fun b a w G=>?_|refine W.st fun w=>?_|refine W.stp fun w=>?_|refine W.ste ?_ fun w=>?_)|((with_reducible refine gC_ ?_);first|refine W.reg fun K hK=>?_|refine W.reg1 ?_|refine W.sq fun K hK=>?_|refine W.ds ?_ (fun β a w G hu=>W.fin ?_ hu) mixedOrders (by kernel_rfl)|refine W.sk ?_|refine W.cd (fun hc=>?_) (fun hc=>?_)|refine W.cb (fun hc=>?_) (fun hc=>?_)|refine W.bl ?_|refine W.ex ?_|refine W.rt ?_)|((with_reducible refine W.kn hK ?_);clear hK K)|(with_reducible first|refine W.bn ?_|refine W.xt ?_|refine W.xb ?_|refine W.xo ?_|refine W.tr ?_|refine W.br ?_)|refine W.rt1 rfl ?_|refine W.rt2 rfl ?_ ?_|refine W.rt3 rfl ?_ ?_ ?_)|clear hK K|clear hu|exact True.intro|exact Nat.le_trans (by clear hp;omega) hp|exact Nat.le_trans (by clear hp;omega) hp.1|exact Nat.le_trans (by clear hp;omega) hp.2|(clear hp;omega)|apply And.intro|refine GI.i fun _=>?_|with_reducible rfl|decide|(simp only [List.length_cons,List.length_nil];omega))
instance {n m : Nat} {rg ra rb rc : FR} {k : Rat} {τ1 : MT} [j1 : NF τ1 (QUD n rg ra rb rc)] {τ2 : MT} [j2 : NQ τ2 (QV m k)] : Con Tryz.prog 162 [τ1,τ2] (1000 * n + 1000 * m + 200000 ≤ BIG) (NM (4 * n + m + 70) [rb.val + rc.val - (rg.val + ra.val),2 * k,2,0]):=.o2 fun hok h1 h2 hp=>w162.c2 hok (j1.h h1) (j2.h h2) hp
theorem w113 {n m : Nat} {rg ra rb rc : FR} {k : Rat} : Con Tryz.prog 113 [QUD n rg ra rb rc,QV m k] (1000 * n + 1000 * m + 200000 ≤ BIG ∧ [rg,ra,rb,rc].all posR = true) (MT.tup3 (IT (nearF rg ra rb rc k)) (IT (farF rg ra rb rc k)) (.ex (errV 69 (0)))):=.o2 fun hok h1 h2 hp=>by
  refine St.enter (N:=37) Tryz.func113 rfl rfl rfl hok (enter2 h1 h2) fun a=>?_
  have hn1:=qud_pos h1
  repeat' (first|((with_reducible refine gS_ ?_);first|((with_reducible refine gL_ ?_);first|refine W.run ?_ fun a w G=>?_|refine W.mv fun a w G=>?_|refine W.asg fun a w G=>?_|refine W.bx fun b a w G=>?_|(refine W.nn hK ?_;clear hK K)|refine W.nl ?_|refine W.al fun b a w G=>?_|refine W.st fun w=>?_|refine W.stp fun w=>?_|refine W.ste ?_ fun w=>?_)|((with_reducible refine gC_ ?_);first|refine W.reg fun K hK=>?_|refine W.reg1 ?_|refine W.sq fun K hK=>?_|refine W.ds ?_ (fun β a w G hu=>W.fin ?_ hu) mixedOrders (by kernel_rfl)|refine W.sk ?_|refine W.cd (fun hc=>?_) (fun hc=>?_)|refine W.cb (fun hc=>?_) (fun hc=>?_)|refine W.bl ?_|refine W.ex ?_|refine W.rt ?_)|((with_reducible refine W.kn hK ?_);clear hK K)|(with_reducible first|refine W.bn ?_|refine W.xt ?_|refine W.xb ?_|refine W.xo ?_|refine W.tr ?_|refine W.br ?_)|refine W.rt1 rfl ?_|refine W.rt2 rfl ?_ ?_|refine W.rt3 rfl ?_ ?_ ?_)|clear hK K|clear hu|exact True.intro|exact Nat.le_trans (by clear hp;omega) hp|exact Nat.le_trans (by clear hp;omega) hp.1|exact Nat.le_trans (by clear hp;omega) hp.2|(clear hp;omega)|apply And.intro|refine GI.i fun _=>?_|with_reducible rfl|decide|(simp only [List.length_cons,List.length_nil];omega))
  all_goals first
    | omega
    | exact (near_sg hp.2)
    | exact (far_sg hp.2)
    | exact tok2 (pos_nn hp.2).1 (pos_nn hp.2).2
    | exact pw4
    | (show sB 2 _ _ ≤ BIG;rw [sB2];omega)
    | skip
instance {n m : Nat} {rg ra rb rc : FR} {k : Rat} {τ1 : MT} [j1 : NF τ1 (QUD n rg ra rb rc)] {τ2 : MT} [j2 : NQ τ2 (QV m k)] : Con Tryz.prog 113 [τ1,τ2] (1000 * n + 1000 * m + 200000 ≤ BIG ∧ [rg,ra,rb,rc].all posR = true) (MT.tup3 (IT (nearF rg ra rb rc k)) (IT (farF rg ra rb rc k)) (.ex (errV 69 (0)))):=.o2 fun hok h1 h2 hp=>w113.c2 hok (j1.h h1) (j2.h h2) hp
theorem w49 {n m : Nat} {rg ra rb rc rk : FR} : Con Tryz.prog 49 [QUD n rg ra rb rc,FX m rk] (1000 * n + 1000 * m + 200000 ≤ BIG) (MT.tup3 (IT (if gapC rg ra rb rc rk = 0 then nearF rg ra rb rc rk.val else 0)) (IT (if gapC rg ra rb rc rk = 0 then farF rg ra rb rc rk.val else 0)) (.ex (errV 69 (gapC rg ra rb rc rk)))):=.o2 fun hok h1 h2 hp=>by
  refine St.enter (N:=37) Tryz.func49 rfl rfl rfl hok (enter2 h1 h2) fun a=>?_
  have hn1:=qud_pos h1
  repeat' (first|((with_reducible refine gS_ ?_);first|((with_reducible refine gL_ ?_);first|refine W.run ?_ fun a w G=>?_|refine W.mv fun a w G=>?_|refine W.asg fun a w G=>?_|refine W.bx fun b a w G=>?_|(refine W.nn hK ?_;clear hK K)|refine W.nl ?_|refine W.al fun b a w G=>?_|refine W.st fun w=>?_|refine W.stp fun w=>?_|refine W.ste ?_ fun w=>?_)|((with_reducible refine gC_ ?_);first|refine W.reg fun K hK=>?_|refine W.reg1 ?_|refine W.sq fun K hK=>?_|refine W.ds ?_ (fun β a w G hu=>W.fin ?_ hu) mixedOrders (by kernel_rfl)|refine W.sk ?_|refine W.cd (fun hc=>?_) (fun hc=>?_)|refine W.cb (fun hc=>?_) (fun hc=>?_)|refine W.bl ?_|refine W.ex ?_|refine W.rt ?_)|((with_reducible refine W.kn hK ?_);clear hK K)|(with_reducible first|refine W.bn ?_|refine W.xt ?_|refine W.xb ?_|refine W.xo ?_|refine W.tr ?_|refine W.br ?_)|refine W.rt1 rfl ?_|refine W.rt2 rfl ?_ ?_|refine W.rt3 rfl ?_ ?_ ?_)|clear hK K|clear hu|exact True.intro|exact Nat.le_trans (by clear hp;omega) hp|exact Nat.le_trans (by clear hp;omega) hp.1|exact Nat.le_trans (by clear hp;omega) hp.2|(clear hp;omega)|apply And.intro|refine GI.i fun _=>?_|with_reducible rfl|decide|(simp only [List.length_cons,List.length_nil];omega))
  all_goals first
    | omega
    | exact chk_pos (by omega)
    | (rw [gapC_0 (by assumption)];first | rfl | (rw [if_neg (by assumption)]))
    | (rw [gapC_2 (by assumption) (by assumption)];rfl)
    | (rw [gapC_3 (by assumption) (by assumption) (by assumption)];rfl)
    | (rw [gapC_n (by assumption) (by assumption) (by assumption)];rfl)
    | exact (gapC_0 (by assumption)).symm
    | exact (gapC_2 (by assumption) (by assumption)).symm
    | exact (gapC_3 (by assumption) (by assumption) (by assumption)).symm
    | exact (gapC_n (by assumption) (by assumption) (by assumption)).symm
    | skip
instance {n m : Nat} {rg ra rb rc rk : FR} {τ1 : MT} [j1 : NF τ1 (QUD n rg ra rb rc)] {τ2 : MT} [j2 : NF τ2 (FX m rk)] : Con Tryz.prog 49 [τ1,τ2] (1000 * n + 1000 * m + 200000 ≤ BIG) (MT.tup3 (IT (if gapC rg ra rb rc rk = 0 then nearF rg ra rb rc rk.val else 0)) (IT (if gapC rg ra rb rc rk = 0 then farF rg ra rb rc rk.val else 0)) (.ex (errV 69 (gapC rg ra rb rc rk)))):=.o2 fun hok h1 h2 hp=>w49.c2 hok (j1.h h1) (j2.h h2) hp
theorem w52 {n : Nat} {rg ra rb rc : FR} : Con Tryz.prog 52 [QUD n rg ra rb rc] (1000 * n + 300000 ≤ BIG) (MT.tup2 (BT (fullF rg ra rb rc)) (.ex (errV 69 (chkF [rg,ra,rb,rc])))):=.o1 fun hok h1 hp=>by
  refine St.enter (N:=43) Tryz.func52 rfl rfl rfl hok (enter1 h1) fun a=>?_
  have hn1:=qud_pos h1
  repeat' (first|((with_reducible refine gS_ ?_);first|((with_reducible refine gL_ ?_);first|refine W.run ?_ fun a w G=>?_|refine W.mv fun a w G=>?_|refine W.asg fun a w G=>?_|refine W.bx fun b a w G=>?_|(refine W.nn hK ?_;clear hK K)|refine W.nl ?_|refine W.al fun b a w G=>?_|refine W.st fun w=>?_|refine W.stp fun w=>?_|refine W.ste ?_ fun w=>?_)|((with_reducible refine gC_ ?_);first|refine W.reg fun K hK=>?_|refine W.reg1 ?_|refine W.sq fun K hK=>?_|refine W.ds ?_ (fun β a w G hu=>W.fin ?_ hu) mixedOrders (by kernel_rfl)|refine W.sk ?_|refine W.cd (fun hc=>?_) (fun hc=>?_)|refine W.cb (fun hc=>?_) (fun hc=>?_)|refine W.bl ?_|refine W.ex ?_|refine W.rt ?_)|((with_reducible refine W.kn hK ?_);clear hK K)|(with_reducible first|refine W.bn ?_|refine W.xt ?_|refine W.xb ?_|refine W.xo ?_|refine W.tr ?_|refine W.br ?_)|refine W.rt1 rfl ?_|refine W.rt2 rfl ?_ ?_|refine W.rt3 rfl ?_ ?_ ?_)|clear hK K|clear hu|exact True.intro|exact Nat.le_trans (by clear hp;omega) hp|exact Nat.le_trans (by clear hp;omega) hp.1|exact Nat.le_trans (by clear hp;omega) hp.2|(clear hp;omega)|apply And.intro|refine GI.i fun _=>?_|with_reducible rfl|decide|(simp only [List.length_cons,List.length_nil];omega))
  all_goals first
    | omega
    | exact chk_pos (by omega)
    | exact (full_bad (by assumption)).symm
    | (rw [full_ok (by assumption)];rfl)
    | skip
instance {n : Nat} {rg ra rb rc : FR} {τ1 : MT} [j1 : NF τ1 (QUD n rg ra rb rc)] : Con Tryz.prog 52 [τ1] (1000 * n + 300000 ≤ BIG) (MT.tup2 (BT (fullF rg ra rb rc)) (.ex (errV 69 (chkF [rg,ra,rb,rc])))):=.o1 fun hok h1 hp=>w52.c1 hok (j1.h h1) hp
end Go.Proofs.YtdbdnabpaadigaaGreat
set_option linter.unusedVariables false
set_option linter.unusedSimpArgs false
set_option maxHeartbeats 4000000
set_option maxRecDepth 100000
set_option synthInstance.maxSize 100000
set_option synthInstance.maxHeartbeats 400000
namespace Go.Proofs.YtdbdnabpaadigaaGreat
open Go.RowKit (Below)
attribute [local irreducible] Go.Code.wp Go.wpList Go.bodyPost
attribute [local irreducible] plusF minusF joinF levI lev PW RLN tB sB timesF stepF tmF normF TOK sgL surdsF chkF gapC fullF
theorem shF_t {l : List FR} {j : Nat} (hj : j < l.length) (h : (decide ((((l.getD j default).p.length : Nat) : Int) > 2) || decide ((((l.getD j default).q.length : Nat) : Int) > 2)) = true) : shortF l = false:=by
  unfold shortF
  rw [all_not hj (p:=shortR) (by simp only [Bool.or_eq_true,decide_eq_true_eq] at h;exact shortR_not (by omega)),Bool.false_and]
theorem shR_f {r : FR} (h : (decide (((r.p.length : Nat) : Int) > 2) || decide (((r.q.length : Nat) : Int) > 2)) = false) : shortR r = true:=by
  simp only [Bool.or_eq_false_iff,decide_eq_false_iff_not] at h
  exact shortR_of (by omega) (by omega)
theorem shF_e {l : List FR} {j : Nat} (hj : ¬ j < l.length) (h : (l.take j).all shortR = true) : decide (((l.length : Nat) : Int) < 60) = shortF l:=by
  unfold shortF;rw [all_end hj h,Bool.true_and];exact decide_eq_decide.2 (by omega)
theorem w15 {l : List FR} : Con Tryz.prog 15 [LS (some 3) (l.map RX)] (True) (BT (shortF l)):=.o1 fun hok h1 hp=>by
  refine St.enter (N:=25) Tryz.func15 rfl rfl rfl hok (enter1 h1) fun a=>?_
  have hlim:=LS.lenM h1
  simp only [LIM] at hlim
  repeat' (first|((with_reducible refine gS_ ?_);first|((with_reducible refine gL_ ?_);first|refine W.run ?_ fun a w G=>?_|refine W.mv fun a w G=>?_|refine W.asg fun a w G=>?_|refine W.bx fun b a w G=>?_|(refine W.nn hK ?_;clear hK K)|refine W.nl ?_|refine W.al fun b a w G=>?_|refine W.st fun w=>?_|refine W.stp fun w=>?_|refine W.ste ?_ fun w=>?_)|((with_reducible refine gC_ ?_);first|refine W.reg fun K hK=>?_|refine W.reg1 ?_|refine W.sq fun K hK=>?_|refine W.ds ?_ (fun β a w G hu=>W.fin ?_ hu) mixedOrders (by kernel_rfl)|refine W.sk ?_|refine W.cd (fun hc=>?_) (fun hc=>?_)|refine W.cb (fun hc=>?_) (fun hc=>?_)|refine W.bl ?_|refine W.ex ?_|refine W.rt ?_)|((with_reducible refine W.kn hK ?_);clear hK K)|(with_reducible first|refine W.bn ?_|refine W.xt ?_|refine W.xb ?_|refine W.xo ?_|refine W.tr ?_|refine W.br ?_)|refine W.rt1 rfl ?_|refine W.rt2 rfl ?_ ?_|refine W.rt3 rfl ?_ ?_ ?_)|refine W.lp 8 (α:=Nat) (fun j=>l.length - j) (fun j=>j ≤ l.length ∧ (l.take j).all shortR = true) [2,4,7,8,9,10,11,12,13,14,15,16,17,18,19,20,21] (fun j=>[(7,NT j)]) (fun j=>[]) (0) ?_ ?_ ?_ fun j hj a w G=>?_|refine W.ag (x:=j) (j+1) ?_ ?_ ?_ ?_|clear hK K|clear hu|exact True.intro|exact Nat.le_trans (by clear hp;omega) hp|exact Nat.le_trans (by clear hp;omega) hp.1|exact Nat.le_trans (by clear hp;omega) hp.2|(clear hp;omega)|apply And.intro|refine GI.i fun _=>?_|with_reducible rfl|decide|(simp only [List.length_cons,List.length_nil];omega))
  all_goals first
    | omega
    | rfl
    | exact (shF_t (by omega) hc).symm
    | exact all_snoc (by omega) hj.2 (shR_f hc)
    | exact shF_e (by omega) hj.2
    | skip
instance {l : List FR} {τ1 : MT} [j1 : NR τ1 (LS (some 3) (l.map RX))] : Con Tryz.prog 15 [τ1] (True) (BT (shortF l)):=.o1 fun hok h1 hp=>w15.c1 hok (j1.h h1) hp
theorem sqX {rg ra rb rc : FR} : Con Tryz.prog 68 [PTS [(some 3,RX rg),(some 3,RX ra),(some 3,RX rb),(some 3,RX rc)]] (True) (AR 12 (some 3) ([rg,ra,rb,rc].map RX)):=.o1 fun hok h1 hp=>by
  refine St.enter (N:=12) Tryz.func68 rfl rfl rfl hok (enter1 h1) fun a=>?_
  repeat' (first|((with_reducible refine gS_ ?_);first|((with_reducible refine gL_ ?_);first|refine W.run ?_ fun a w G=>?_|refine W.mv fun a w G=>?_|refine W.asg fun a w G=>?_|refine W.bx fun b a w G=>?_|(refine W.nn hK ?_;clear hK K)|refine W.nl ?_|refine W.al fun b a w G=>?_|refine W.st fun w=>?_|refine W.stp fun w=>?_|refine W.ste ?_ fun w=>?_)|((with_reducible refine gC_ ?_);first|refine W.reg fun K hK=>?_|refine W.reg1 ?_|refine W.sq fun K hK=>?_|refine W.ds ?_ (fun β a w G hu=>W.fin ?_ hu) mixedOrders (by kernel_rfl)|refine W.sk ?_|refine W.cd (fun hc=>?_) (fun hc=>?_)|refine W.cb (fun hc=>?_) (fun hc=>?_)|refine W.bl ?_|refine W.ex ?_|refine W.rt ?_)|((with_reducible refine W.kn hK ?_);clear hK K)|(with_reducible first|refine W.bn ?_|refine W.xt ?_|refine W.xb ?_|refine W.xo ?_|refine W.tr ?_|refine W.br ?_)|refine W.rt1 rfl ?_|refine W.rt2 rfl ?_ ?_|refine W.rt3 rfl ?_ ?_ ?_)|clear hK K|clear hu|exact True.intro|exact Nat.le_trans (by clear hp;omega) hp|exact Nat.le_trans (by clear hp;omega) hp.1|exact Nat.le_trans (by clear hp;omega) hp.2|(clear hp;omega)|apply And.intro|refine GI.i fun _=>?_|with_reducible rfl|decide|(simp only [List.length_cons,List.length_nil];omega))
instance {rg ra rb rc : FR} : Con Tryz.prog 68 [PTS [(some 3,RX rg),(some 3,RX ra),(some 3,RX rb),(some 3,RX rc)]] True (AR 12 (some 3) ([rg,ra,rb,rc].map RX)):=sqX
instance  : Con Tryz.prog 66 [] (True) (QUD 64 (FR.of 16) (FR.of 1) (FR.of 9) (FR.of 9)):=.o0 fun hok  hp=>by
  refine St.enter (N:=6) Tryz.func66 rfl rfl rfl hok enter0 fun a=>?_
  repeat' (first|((with_reducible refine gS_ ?_);first|((with_reducible refine gL_ ?_);first|refine W.run ?_ fun a w G=>?_|refine W.mv fun a w G=>?_|refine W.asg fun a w G=>?_|refine W.bx fun b a w G=>?_|(refine W.nn hK ?_;clear hK K)|refine W.nl ?_|refine W.al fun b a w G=>?_|refine W.st fun w=>?_|refine W.stp fun w=>?_|refine W.ste ?_ fun w=>?_)|((with_reducible refine gC_ ?_);first|refine W.reg fun K hK=>?_|refine W.reg1 ?_|refine W.sq fun K hK=>?_|refine W.ds ?_ (fun β a w G hu=>W.fin ?_ hu) mixedOrders (by kernel_rfl)|refine W.sk ?_|refine W.cd (fun hc=>?_) (fun hc=>?_)|refine W.cb (fun hc=>?_) (fun hc=>?_)|refine W.bl ?_|refine W.ex ?_|refine W.rt ?_)|((with_reducible refine W.kn hK ?_);clear hK K)|(with_reducible first|refine W.bn ?_|refine W.xt ?_|refine W.xb ?_|refine W.xo ?_|refine W.tr ?_|refine W.br ?_)|refine W.rt1 rfl ?_|refine W.rt2 rfl ?_ ?_|refine W.rt3 rfl ?_ ?_ ?_)|clear hK K|clear hu|exact True.intro|exact Nat.le_trans (by clear hp;omega) hp|exact Nat.le_trans (by clear hp;omega) hp.1|exact Nat.le_trans (by clear hp;omega) hp.2|(clear hp;omega)|apply And.intro|refine GI.i fun _=>?_|with_reducible rfl|decide|(simp only [List.length_cons,List.length_nil];omega))
theorem w37 {rg ra rb rc : FR} : Con Tryz.prog 37 [PTS [(some 3,RX rg),(some 3,RX ra),(some 3,RX rb),(some 3,RX rc)]] (True) (BT (shortF [rg,ra,rb,rc])):=.o1 fun hok h1 hp=>by
  refine St.enter (N:=8) Tryz.func37 rfl rfl rfl hok (enter1 h1) fun a=>?_
  repeat' (first|((with_reducible refine gS_ ?_);first|((with_reducible refine gL_ ?_);first|refine W.run ?_ fun a w G=>?_|refine W.mv fun a w G=>?_|refine W.asg fun a w G=>?_|refine W.bx fun b a w G=>?_|(refine W.nn hK ?_;clear hK K)|refine W.nl ?_|refine W.al fun b a w G=>?_|refine W.st fun w=>?_|refine W.stp fun w=>?_|refine W.ste ?_ fun w=>?_)|((with_reducible refine gC_ ?_);first|refine W.reg fun K hK=>?_|refine W.reg1 ?_|refine W.sq fun K hK=>?_|refine W.ds ?_ (fun β a w G hu=>W.fin ?_ hu) mixedOrders (by kernel_rfl)|refine W.sk ?_|refine W.cd (fun hc=>?_) (fun hc=>?_)|refine W.cb (fun hc=>?_) (fun hc=>?_)|refine W.bl ?_|refine W.ex ?_|refine W.rt ?_)|((with_reducible refine W.kn hK ?_);clear hK K)|(with_reducible first|refine W.bn ?_|refine W.xt ?_|refine W.xb ?_|refine W.xo ?_|refine W.tr ?_|refine W.br ?_)|refine W.rt1 rfl ?_|refine W.rt2 rfl ?_ ?_|refine W.rt3 rfl ?_ ?_ ?_)|clear hK K|clear hu|exact True.intro|exact Nat.le_trans (by clear hp;omega) hp|exact Nat.le_trans (by clear hp;omega) hp.1|exact Nat.le_trans (by clear hp;omega) hp.2|(clear hp;omega)|apply And.intro|refine GI.i fun _=>?_|with_reducible rfl|decide|(simp only [List.length_cons,List.length_nil];omega))
  all_goals first | rfl | (simp only [LIM,List.length_cons,List.length_nil];omega) | skip
instance {rg ra rb rc : FR} {τ1 : MT} [j1 : NR τ1 (PTS [(some 3,RX rg),(some 3,RX ra),(some 3,RX rb),(some 3,RX rc)])] : Con Tryz.prog 37 [τ1] (True) (BT (shortF [rg,ra,rb,rc])):=.o1 fun hok h1 hp=>w37.c1 hok (j1.h h1) hp
end Go.Proofs.YtdbdnabpaadigaaGreat
set_option linter.unusedVariables false
set_option linter.unusedSimpArgs false
set_option maxHeartbeats 4000000
set_option maxRecDepth 100000
set_option synthInstance.maxSize 100000
set_option synthInstance.maxHeartbeats 400000
namespace Go.Proofs.YtdbdnabpaadigaaGreat
open Go.RowKit (Below)
attribute [local irreducible] Go.Code.wp Go.wpList Go.bodyPost
theorem sho_c {x : Rat} (h : x ≠ 0) : shoF [x] = [x]:=sho_of (k:=0) (by decide) (.inr ⟨0,Nat.le_refl _,rfl⟩) (.inr (.inl ⟨rfl,h⟩))
def limN (y u : Rat) : List Rat:=[0,y,0,u]
theorem lim_sub {y u c : Rat} : plusF (limN y u) (minusF [c]) = [-c,y,0,u]:=by
  unfold plusF minusF limN
  show [cf [0,y,0,u] 0 + cf [-c] 0,cf [0,y,0,u] 1 + cf [-c] 1,cf [0,y,0,u] 2 + cf [-c] 2,cf [0,y,0,u] 3 + cf [-c] 3] = _
  show [0 + -c,y + 0,0 + 0,u + 0] = _
  rw [Rat.zero_add,Rat.add_zero,Rat.add_zero,Rat.add_zero]
def limA (g a b c : FR) : Rat:=(g.val + a.val - (b.val + c.val)) / (2 * (a.val * g.val))
def limI (g a b c : FR) (u : Rat) : Bool:=decide (surdsF (-1) (limA g a b c) (a.val * g.val) u (a.val * g.val * (b.val * c.val)) ≤ 0) && decide (surdsF 1 (limA g a b c) (a.val * g.val) u (a.val * g.val * (b.val * c.val)) ≥ 0)
def limK (g a : FR) : List Rat:=[-(1 / (a.val * g.val)),1 / (a.val * g.val)]
def limJ (g a b c : FR) (j : Nat) : List (List Rat):=(((limK g a).take j).filter fun u=>limI g a b c u).map fun u=>limN (limA g a b c) u
def limL (g a b c : FR) : List (List Rat):=if chkF [g,a,b,c] = 0 then limJ g a b c 2 else []
theorem lim_len (g a b c : FR) (j : Nat) : (limJ g a b c j).length ≤ 2:=by
  unfold limJ
  rw [List.length_map]
  exact Nat.le_trans (List.length_filter_le _ _) (by rw [List.length_take];exact Nat.min_le_right _ _)
theorem lim_go {g a b c : FR} {j : Nat} (hj : j < 2) : limJ g a b c (j + 1) = limJ g a b c j ++ (if limI g a b c ((limK g a).getD j default) then [limN (limA g a b c) ((limK g a).getD j default)] else []):=by
  have e : (limK g a).take (j + 1) = (limK g a).take j ++ [(limK g a).getD j default]:=by
    match j,hj with
    | 0,_=>rfl
    | 1,_=>rfl
  unfold limJ
  rw [e,List.filter_append,List.map_append]
  congr 1
  generalize (limK g a).getD j default = u
  by_cases h : limI g a b c u = true
  · rw [if_pos h,List.filter_cons_of_pos h];rfl
  · rw [if_neg h,List.filter_cons_of_neg h];rfl
theorem LSC.nm {b c : Nat} {l : List Rat} {v : Value} {G : Gh} (h : (LSC none [NM b l]).t v G) (e : b ≤ c) : (LSC none [NM c l]).t v G:=⟨LS.els h.1 rfl fun i τ σ h1 h2 _ hv=>by
  match i,h1,h2 with
  | 0,h1,h2=>cases h1;cases h2;exact NM.up hv e,h.2⟩
instance AsT.nm {b : Nat} {l : List Rat} : AsT (NM b l) (NM b) l:=⟨fun h=>h⟩
theorem lim_0 {g a b c : FR} : [] = limJ g a b c 0:=rfl
theorem lim_k {g a : FR} : [-(1 / (a.val * g.val)),1 / (a.val * g.val)] = limK g a:=rfl
theorem pw1 {x : Rat} : PW 2 [x]:=.inr ⟨0,by decide,rfl⟩
theorem ag_ne {g a b c : FR} (h : [g,a,b,c].all posR = true) : a.val * g.val ≠ 0 ∧ 2 * (a.val * g.val) ≠ 0:=by
  simp only [List.all_cons,List.all_nil,Bool.and_true,Bool.and_eq_true] at h
  have h1:=posR_val h.1;have h2:=posR_val h.2.1
  have h3:=Rat.mul_pos h2 h1
  exact ⟨fun e=>by grind,fun e=>by grind⟩
theorem limL_bad {g a b c : FR} (h : chkF [g,a,b,c] ≠ 0) : limL g a b c = []:=by unfold limL;rw [if_neg h]
theorem limL_ok {g a b c : FR} (h : ¬ chkF [g,a,b,c] ≠ 0) : limL g a b c = limJ g a b c 2:=by unfold limL;rw [if_pos (by omega)]
theorem ps_bad {g a b c : FR} (h : chkF [g,a,b,c] ≠ 0) : (if chkF [g,a,b,c] = 0 then [[a.val * g.val],[b.val * c.val,0]] else []) = []:=if_neg h
theorem ps_ok {g a b c : FR} (h : ¬ chkF [g,a,b,c] ≠ 0) : (if chkF [g,a,b,c] = 0 then [[a.val * g.val],[b.val * c.val,0]] else []) = [[a.val * g.val],[b.val * c.val,0]]:=if_pos (by omega)
theorem lim_t {g a b c : FR} {j : Nat} (hp : [g, a, b, c].all posR = true) (hj : j < 2) : sgL [[a.val * g.val], [b.val * c.val, 0]] (plusF [0, limA g a b c, 0, (limK g a).getD j default] (minusF (shoF [1]))) = surdsF (-1) (limA g a b c) (a.val * g.val) ((limK g a).getD j default) (a.val * g.val * (b.val * c.val)) ∧
    sgL [[a.val * g.val],[b.val * c.val,0]] (plusF [0,limA g a b c,0,(limK g a).getD j default] (minusF (shoF [-1]))) = surdsF 1 (limA g a b c) (a.val * g.val) ((limK g a).getD j default) (a.val * g.val * (b.val * c.val)):=by
  have hn:=pos_nn hp
  rw [sho_c (by decide),sho_c (by decide)]
  constructor
  · rw [← sg2p hn.1 hn.2];exact congrArg _ lim_sub
  · rw [← sg2p hn.1 hn.2];exact congrArg _ (lim_sub.trans (by rw [show (- -1 : Rat) = 1 by decide]))
theorem lim_y {g a b c : FR} {j : Nat} (hp : [g, a, b, c].all posR = true) (hj : j < 2) (hc : (decide (sgL [[a.val * g.val], [b.val * c.val, 0]] (plusF [0, limA g a b c, 0, (limK g a).getD j default] (minusF (shoF [1]))) ≤ 0) && decide (sgL [[a.val * g.val], [b.val * c.val, 0]] (plusF [0, limA g a b c, 0, (limK g a).getD j default] (minusF (shoF [-1]))) ≥ 0)) = true) :
    limJ g a b c j ++ [[0,limA g a b c,0,(limK g a).getD j default]] = limJ g a b c (j + 1):=by
  rw [lim_go hj,(lim_t hp hj).1,(lim_t hp hj).2] at *
  rw [if_pos (show limI g a b c ((limK g a).getD j default) = true from hc)];rfl
theorem lim_n {g a b c : FR} {j : Nat} (hp : [g, a, b, c].all posR = true) (hj : j < 2) (hc : (decide (sgL [[a.val * g.val], [b.val * c.val, 0]] (plusF [0, limA g a b c, 0, (limK g a).getD j default] (minusF (shoF [1]))) ≤ 0) && decide (sgL [[a.val * g.val], [b.val * c.val, 0]] (plusF [0, limA g a b c, 0, (limK g a).getD j default] (minusF (shoF [-1]))) ≥ 0)) = false) :
    limJ g a b c j = limJ g a b c (j + 1):=by
  rw [(lim_t hp hj).1,(lim_t hp hj).2] at hc
  rw [lim_go hj,if_neg (show ¬ limI g a b c ((limK g a).getD j default) = true from fun e=>by rw [show limI g a b c ((limK g a).getD j default) = false from hc] at e;cases e),List.append_nil]
attribute [local irreducible] plusF minusF joinF levI lev PW RLN tB sB timesF stepF tmF normF TOK sgL surdsF chkF nearF farF gapC fullF
attribute [local irreducible] limJ limL limI
theorem w101 {n : Nat} {rg ra rb rc : FR} : Con Tryz.prog 101 [QUD n rg ra rb rc] (1000 * n + 300000 ≤ BIG) (MT.tup3 (TWR (n + n) (if chkF [rg,ra,rb,rc] = 0 then [[ra.val * rg.val],[rb.val * rc.val,0]] else [])) (LS none ((limL rg ra rb rc).map (NM (6 * n + 100)))) (.ex (errV 69 (chkF [rg,ra,rb,rc])))):=.o1 fun hok h1 hp=>by
  refine St.enter (N:=116) Tryz.func101 rfl rfl rfl hok (enter1 h1) fun a=>?_
  have hn1:=qud_pos h1
  have own112 : OwnAt 112:=⟨⟩
  repeat' (first|((with_reducible refine gS_ ?_);first|((with_reducible refine gL_ ?_);first|refine W.run ?_ fun a w G=>?_|refine W.mv fun a w G=>?_|refine W.asg fun a w G=>?_|refine W.bx fun b a w G=>?_|(refine W.nn hK ?_;clear hK K)|refine W.nl ?_|refine W.al fun b a w G=>?_|refine W.st fun w=>?_|refine W.stp fun w=>?_|refine W.ste ?_ fun w=>?_)|((with_reducible refine gC_ ?_);first|refine W.reg fun K hK=>?_|refine W.reg1 ?_|refine W.sq fun K hK=>?_|refine W.ds ?_ (fun β a w G hu=>W.fin ?_ hu) mixedOrders (by kernel_rfl)|refine W.sk ?_|refine W.cd (fun hc=>?_) (fun hc=>?_)|refine W.cb (fun hc=>?_) (fun hc=>?_)|refine W.bl ?_|refine W.ex ?_|refine W.rt ?_)|((with_reducible refine W.kn hK ?_);clear hK K)|(with_reducible first|refine W.bn ?_|refine W.xt ?_|refine W.xb ?_|refine W.xo ?_|refine W.tr ?_|refine W.br ?_)|refine W.rt1 rfl ?_|refine W.rt2 rfl ?_ ?_|refine W.rt3 rfl ?_ ?_ ?_)|refine W.lpo 71 (OWNS.nil (k:=none) (e:=34)) (T:=NM (6 * n + 100)) (xs0:=[]) (fun j=>2 - j) (fun j=>j ≤ 2) (fun j=>limJ rg ra rb rc j) [12,14,15,16,17,18,70,71,72,73,74,75,76,77,78,79,80,81,82,83,84,85,86,87,88,89,90,91,92,93,94,95,96,97,98,99,100,101,102,103,104,105,106,107,108,109,110,111,112,113,68,69] (fun j V=>[(70,NT j),(12,.ex V),(68,NM (6 * n + 100) (limK rg ra)),(69,NT 2)]) (fun j=>[]) 0 ?_ ?_ ?_ ?_ fun j hj V own a w G hO=>?_|refine W.ds ?_ (fun β a w G hu=>W.fing ?_) mixedOrders (by kernel_rfl)|refine W.ap (mt:=.ex (.slice none 0 0)) (T:=NM (6 * n + 100)) hO ?_ fun V own a w G hO=>?_|refine W.ago (K:=fun _ _=>True) (T:=NM (6 * n + 100)) hO (x:=j) (j+1) ?_ ?_ ?_ ?_ ?_|refine W.fzo (T:=NM (6 * n + 100)) 3 hO ?_ fun G=>?_|refine W.cast (t:=111) (τ:=LSC none [NM (max 1 (max (n + n + 1 + (n + n + 1) + 1 + (64 + (n + n))) (max 1 (6 * n + 100)))) [0,(rg.val + ra.val - (rb.val + rc.val)) / (2 * (ra.val * rg.val)),0,(limK rg ra).getD j default]]) (τ':=LSC none [NM (6 * n + 100) [0,(rg.val + ra.val - (rb.val + rc.val)) / (2 * (ra.val * rg.val)),0,(limK rg ra).getD j default]]) (fun h=>LSC.nm h (by omega)) ?_|clear hK K|clear hu|exact True.intro|exact Nat.le_trans (by clear hp;omega) hp|exact Nat.le_trans (by clear hp;omega) hp.1|exact Nat.le_trans (by clear hp;omega) hp.2|(clear hp;omega)|apply And.intro|refine GI.i fun _=>?_|with_reducible rfl|decide|(simp only [List.length_cons,List.length_nil];omega))
  all_goals first
    | omega
    | exact (ps_bad (by assumption)).symm
    | exact limL_bad (by assumption)
    | (have hp2 := chk_pos (l := [rg, ra, rb, rc]) (by omega)
       have hag:=ag_ne hp2
       have hlj:=lim_len rg ra rb rc j
       first
       | exact hag.1
       | exact hag.2
       | exact tok2 (pos_nn hp2).1 (pos_nn hp2).2
       | exact pw4
       | (rw [sho_c (by decide)];exact pw1)
       | (show sB 2 _ _ ≤ BIG;rw [sB2];omega)
       | exact lim_y hp2 (by omega) (by assumption)
       | exact lim_n hp2 (by omega) (by assumption)
       | exact (ps_ok (by assumption)).symm
       | (show j < 2;omega)
       | exact lim_0
       | exact lim_k
       | (simp only [LIM,List.length_append,List.length_cons,List.length_nil];omega)
       | (rw [limL_ok (by assumption),show j = 2 by omega])
       | skip)
    | (have hp2 := chk_pos (l := [rg, ra, rb, rc]) (by omega)
       have hag:=ag_ne hp2
       first
       | exact hag.1
       | exact hag.2
       | exact lim_0
       | exact lim_k
       | exact (ps_ok (by assumption)).symm)
    | skip
instance {n : Nat} {rg ra rb rc : FR} {τ1 : MT} [j1 : NF τ1 (QUD n rg ra rb rc)] : Con Tryz.prog 101 [τ1] (1000 * n + 300000 ≤ BIG) (MT.tup3 (TWR (n + n) (if chkF [rg,ra,rb,rc] = 0 then [[ra.val * rg.val],[rb.val * rc.val,0]] else [])) (LS none ((limL rg ra rb rc).map (NM (6 * n + 100)))) (.ex (errV 69 (chkF [rg,ra,rb,rc])))):=.o1 fun hok h1 hp=>w101.c1 hok (j1.h h1) hp
end Go.Proofs.YtdbdnabpaadigaaGreat
set_option linter.unusedVariables false
set_option linter.unusedSimpArgs false
set_option maxHeartbeats 4000000
set_option maxRecDepth 100000
set_option synthInstance.maxSize 100000
set_option synthInstance.maxHeartbeats 400000
namespace Go.Proofs.YtdbdnabpaadigaaGreat
open Go.RowKit (Below)
attribute [local irreducible] Go.Code.wp Go.wpList Go.bodyPost
theorem ex_gap : gapC (FR.of 16) (FR.of 1) (FR.of 9) (FR.of 9) (FR.of (-1)) = 0:=by
  unfold gapC
  rw [ex_chk,if_pos rfl,FR.of_ok,if_pos rfl,FR.of_val]
  decide
theorem ex_near : nearF (FR.of 16) (FR.of 1) (FR.of 9) (FR.of 9) (-1) = 1:=by
  unfold nearF
  rw [FR.of_val,FR.of_val,FR.of_val]
  decide +kernel
theorem ex_far : farF (FR.of 16) (FR.of 1) (FR.of 9) (FR.of 9) (-1) = 1:=by
  unfold farF
  rw [FR.of_val,FR.of_val,FR.of_val]
  decide +kernel
theorem ex_full : fullF (FR.of 16) (FR.of 1) (FR.of 9) (FR.of 9) = true:=by
  have h : nearF (FR.of 16) (FR.of 1) (FR.of 9) (FR.of 9) 1 = 1:=by
    unfold nearF
    rw [FR.of_val,FR.of_val,FR.of_val]
    decide +kernel
  unfold fullF
  rw [ex_chk,ex_far,h];rfl
theorem ex_lim : limL (FR.of 16) (FR.of 1) (FR.of 9) (FR.of 9) = []:=by
  have h : (limK (FR.of 16) (FR.of 1)).filter (fun u=>limI (FR.of 16) (FR.of 1) (FR.of 9) (FR.of 9) u) = []:=by
    unfold limI limK limA
    rw [FR.of_val,FR.of_val,FR.of_val]
    decide +kernel
  unfold limL limJ
  rw [ex_chk,if_pos rfl,show (limK (FR.of 16) (FR.of 1)).take 2 = limK (FR.of 16) (FR.of 1) from rfl,h];rfl
attribute [local irreducible] plusF minusF joinF levI lev PW RLN tB sB timesF stepF tmF normF TOK sgL surdsF chkF gapC fullF nearF farF limL limJ
instance  : Con Tryz.prog 36 [] (True) (BT true):=.o0 fun hok  hp=>by
  refine St.enter (N:=53) Tryz.func36 rfl rfl rfl hok enter0 fun a=>?_
  repeat' (first|((with_reducible refine gS_ ?_);first|((with_reducible refine gL_ ?_);first|refine W.run ?_ fun a w G=>?_|refine W.mv fun a w G=>?_|refine W.asg fun a w G=>?_|refine W.bx fun b a w G=>?_|(refine W.nn hK ?_;clear hK K)|refine W.nl ?_|refine W.al fun b a w G=>?_|refine W.st fun w=>?_|refine W.stp fun w=>?_|refine W.ste ?_ fun w=>?_)|((with_reducible refine gC_ ?_);first|refine W.reg fun K hK=>?_|refine W.reg1 ?_|refine W.sq fun K hK=>?_|refine W.ds ?_ (fun β a w G hu=>W.fin ?_ hu) mixedOrders (by kernel_rfl)|refine W.sk ?_|refine W.cd (fun hc=>?_) (fun hc=>?_)|refine W.cb (fun hc=>?_) (fun hc=>?_)|refine W.bl ?_|refine W.ex ?_|refine W.rt ?_)|((with_reducible refine W.kn hK ?_);clear hK K)|(with_reducible first|refine W.bn ?_|refine W.xt ?_|refine W.xb ?_|refine W.xo ?_|refine W.tr ?_|refine W.br ?_)|refine W.rt1 rfl ?_|refine W.rt2 rfl ?_ ?_|refine W.rt3 rfl ?_ ?_ ?_)|clear hK K|clear hu|exact True.intro|exact Nat.le_trans (by clear hp;omega) hp|exact Nat.le_trans (by clear hp;omega) hp.1|exact Nat.le_trans (by clear hp;omega) hp.2|(clear hp;omega)|apply And.intro|refine GI.i fun _=>?_|with_reducible rfl|decide|(simp only [List.length_cons,List.length_nil];omega))
  all_goals first
    | (rw [ex_gap,ex_chk,FR.of_val,if_pos rfl,if_pos rfl,ex_near,ex_far,ex_full,ex_lim];rfl)
    | (simp only [ex_gap,ex_chk,FR.of_val,if_true,ex_near,ex_far,ex_full,ex_lim];decide)
    | decide
    | skip
end Go.Proofs.YtdbdnabpaadigaaGreat
set_option linter.unusedVariables false
set_option linter.unusedSimpArgs false
set_option maxHeartbeats 4000000
set_option maxRecDepth 100000
set_option synthInstance.maxSize 100000
set_option synthInstance.maxHeartbeats 400000
namespace Go.Proofs.YtdbdnabpaadigaaGreat
open Go.RowKit (Below)
attribute [local irreducible] Go.Code.wp Go.wpList Go.bodyPost
instance : DecidableEq FR:=fun r s=>decidable_of_iff (r.s = s.s ∧ r.p = s.p ∧ r.q = s.q) ⟨fun h=>by obtain ⟨a,b,c⟩:=r;obtain ⟨d,e,f⟩:=s;simp only at h;obtain ⟨rfl,rfl,rfl⟩:=h;rfl,fun h=>by subst h;exact ⟨rfl,rfl,rfl⟩⟩
section
variable {α : Type} {l k : List α} {j : Nat}
theorem eq_ln [DecidableEq α] (h : decide (((l.length : Nat) : Int) ≠ ((k.length : Nat) : Int)) = true) : false = decide (l = k):=by
  rw [decide_eq_true_eq] at h;exact (decide_eq_false fun e=>h (by rw [e])).symm
theorem eq_at [Inhabited α] [DecidableEq α] (hj : j < l.length) (hl : l.length = k.length) (h : l.getD j default ≠ k.getD j default) : false = decide (l = k):=(decide_eq_false fun e=>h (by rw [e])).symm
theorem eq_nx [Inhabited α] (hj : j < l.length) (hl : l.length = k.length) (h : l.take j = k.take j) (e : l.getD j default = k.getD j default) : l.take (j + 1) = k.take (j + 1):=by
  rw [List.getD_eq_getElem?_getD,List.getD_eq_getElem?_getD,List.getElem?_eq_getElem hj,List.getElem?_eq_getElem (by omega)] at e
  rw [List.take_add_one,List.take_add_one,h,List.getElem?_eq_getElem hj,List.getElem?_eq_getElem (by omega)]
  simp only [Option.getD_some] at e;rw [e]
theorem eq_en [DecidableEq α] (hj : ¬ j < l.length) (hl : l.length = k.length) (h : l.take j = k.take j) : true = decide (l = k):=by
  rw [List.take_of_length_le (by omega),List.take_of_length_le (by omega)] at h
  exact (decide_eq_true h).symm
end
abbrev LFR (l : List FR) : MT:=LS (some 3) (l.map RX)
instance {l : List FR} : AsT (LS (some 3) (l.map RX)) LFR l:=⟨fun h=>h⟩
theorem NM.lfr {n : Nat} {l : List Rat} {v : Value} {G : Gh} (h : (NM n l).t v G) : (LFR (l.map FR.of)).t v G:=LS.convM (T:=QC n) (U:=RX) (f:=FR.of) h (by simp) fun x hx v G hv=>FX.toRX (QC.toFX hv (QC.one hv))
instance NR.nm {n : Nat} {l : List Rat} : NR (LS (some 3) (l.map (QC n))) (LS (some 3) ((l.map FR.of).map RX)):=⟨NM.lfr⟩
instance NR.rts {n : Nat} {rs : List (List Rat)} : NR (LS none (rs.map (NM n))) (LS none ((rs.map (List.map FR.of)).map LFR)):=⟨fun h=>LS.convM (T:=NM n) (U:=LFR) (f:=List.map FR.of) h (by simp) fun x hx v G hv=>NM.lfr hv⟩
theorem PTS.lenL {α : Type} {T : α → MT} {xs : List α} {v : Value} {G : Gh} (h : (PTS [(none,LS none (xs.map T))]).t v G) : xs.length ≤ LIM:=by
  obtain ⟨us,_,hl,hE⟩:=h
  match us,hl with
  | u :: us,_=>exact LS.lenM (hE 0 _ u rfl rfl).2
end Go.Proofs.YtdbdnabpaadigaaGreat
