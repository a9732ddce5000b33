import Derived.Test.YtdbdnabpaadigaaGreatQg
set_option linter.unusedVariables false
set_option linter.unusedSimpArgs false
set_option linter.unusedVariables false
set_option linter.unusedSimpArgs false
set_option maxHeartbeats 4000000
set_option maxRecDepth 100000
set_option synthInstance.maxSize 100000
set_option synthInstance.maxHeartbeats 400000
namespace Go.Proofs.YtdbdnabpaadigaaGreat
open Go.RowKit (Below)
attribute [local irreducible] Go.Code.wp Go.wpList Go.bodyPost
private theorem gS_ {W0 : World} {G0 : Gh} {N : Nat} {L : List (Nat × MT)} {B : List BX} {a : Act} {w : World} {G : Gh} {q : Prop} (h : St W0 G0 N L B a w G → q) : St W0 G0 N L B a w G → q:=h
private theorem gL_ {p : Prop} {P : Program} {arr : Array Oper} {Q : Exit → Act → World → Prop} {l : List Oper} {a : Act} {w : World} (h : p → wpList P arr Q l a w) : p → wpList P arr Q l a w:=h
private theorem gC_ {p : Prop} {P : Program} {c : Code} {Q : Exit → Act → World → Prop} {a : Act} {w : World} (h : p → c.wp P Q a w) : p → c.wp P Q a w:=h
private theorem mixedOrders : Tryz.prog.follows .mixedOrders = true:=by kernel_rfl
attribute [local irreducible] plusF minusF joinF levI lev PW RLN tB sB timesF stepF tmF normF shoF TOK
theorem lvM_eq {l k : List Rat} {j : Nat} (hl : l.length = 2 ^ j) (hk : k.length = 2 ^ j) : lvM l k = j:=by unfold lvM;rw [hl,hk,Nat.max_self,lev_pow]
theorem lvM_r {l k : List Rat} {j : Nat} (hl : l.length ≤ 2 ^ j) (hk : k.length = 2 ^ j) : lvM l k = j:=by unfold lvM;rw [hk,Nat.max_eq_right hl,lev_pow]
theorem nm_facts {rs : List (List Rat)} {l : List Rat} {j : Nat} (p2 : rs.length ≤ 5) (p3 : RLN rs) (hj : j < rs.length) (hl : l.length = 2 ^ (j + 1)) :
    l.length / 2 = 2 ^ j ∧ (2 ^ j ≤ 16 ∧ 1 ≤ 2 ^ j ∧ 2 ^ (j + 1) = 2 ^ j + 2 ^ j) ∧ lvM (l.take (l.length / 2)) (l.take (l.length / 2)) = j ∧ lvM (l.drop (l.length / 2)) (l.drop (l.length / 2)) = j ∧ lvM (tmF rs (l.drop (l.length / 2)) (l.drop (l.length / 2))) (rs.getD (levI l.length - 1).toNat default) = j ∧
    PW j (l.take (l.length / 2)) ∧ PW j (l.drop (l.length / 2)) ∧ PW j (tmF rs (l.drop (l.length / 2)) (l.drop (l.length / 2))) ∧ PW j (rs.getD (levI l.length - 1).toNat default) ∧ (0 ≤ levI l.length - 1 ∧ levI l.length - 1 < (rs.length : Int)) ∧ rs.getD (levI l.length - 1).toNat default = rs.getD (lev l.length - 1) [] ∧ rs.getD (lev l.length - 1) [] = rs.getD j []:=by
  obtain ⟨e1,e2,_,e3,e4⟩:=lv_facts p3 (Nat.le_refl _) hj hl
  have hp:=Nat.two_pow_pos j
  have h16 : 2 ^ j ≤ 2 ^ 4:=Nat.pow_le_pow_right (by decide) (by omega)
  have e5 : 2 ^ (j + 1) = 2 ^ j + 2 ^ j:=by rw [Nat.pow_succ];omega
  have hh : l.length / 2 = 2 ^ j:=by omega
  have hx : (l.take (2 ^ j)).length = 2 ^ j:=by rw [List.length_take];omega
  have hy : (l.drop (2 ^ j)).length = 2 ^ j:=by rw [List.length_drop];omega
  have hd:=PW.rt p3 hj (Nat.le_refl j)
  have hyy:=PW.tm p3 (by omega : j ≤ rs.length) (PW.pow hy) (PW.pow hy)
  rw [hh,e3,e4]
  exact ⟨rfl,⟨h16,hp,e5⟩,lvM_eq hx hx,lvM_eq hy hy,lvM_r hyy.le (p3.at hj),PW.pow hx,PW.pow hy,hyy,hd,⟨e1,e2⟩,e4.symm ▸ rfl,rfl⟩
theorem w171 {n r : Nat} {rs : List (List Rat)} {l : List Rat} : Con Tryz.prog 171 [TWR r rs,NM n l] (l.length = 2 ^ (lev l.length - 1 + 1) ∧ lev l.length - 1 < rs.length ∧ rs.length ≤ 5 ∧ RLN rs ∧ 1 ≤ n ∧ 1 ≤ r ∧ tB (lev l.length - 1 + 1) (n + n) r ≤ BIG) (NM (tB (lev l.length - 1 + 1) (n + n) r) (normF rs l)):=.o2 fun hok h1 h2 hp=>by
  refine St.enter (N:=36) Tryz.func171 rfl rfl rfl hok (enter2 h1 h2) fun a=>?_
  repeat' (first|((with_reducible refine gS_ ?_);first|((with_reducible refine gL_ ?_);first|refine W.run ?_ fun a w G=>?_|refine W.mv fun a w G=>?_|refine W.asg fun a w G=>?_|refine W.bx fun b a w G=>?_|(refine W.nn hK ?_;clear hK K)|refine W.nl ?_|refine W.al fun b a w G=>?_|refine W.st fun w=>?_|refine W.stp fun w=>?_|refine W.ste ?_ fun w=>?_)|((with_reducible refine gC_ ?_);first|refine W.reg fun K hK=>?_|refine W.reg1 ?_|refine W.sq fun K hK=>?_|refine W.ds ?_ (fun β a w G hu=>W.fin ?_ hu) mixedOrders (by kernel_rfl)|refine W.sk ?_|refine W.cd (fun hc=>?_) (fun hc=>?_)|refine W.cb (fun hc=>?_) (fun hc=>?_)|refine W.bl ?_|refine W.ex ?_|refine W.rt ?_)|((with_reducible refine W.kn hK ?_);clear hK K)|(with_reducible first|refine W.bn ?_|refine W.xt ?_|refine W.xb ?_|refine W.xo ?_|refine W.tr ?_|refine W.br ?_)|refine W.rt1 rfl ?_|refine W.rt2 rfl ?_ ?_|refine W.rt3 rfl ?_ ?_ ?_)|clear hK K|clear hu|exact True.intro|exact Nat.le_trans (by clear hp;omega) hp|exact Nat.le_trans (by clear hp;omega) hp.1|exact Nat.le_trans (by clear hp;omega) hp.2|(clear hp;omega)|apply And.intro|refine GI.i fun _=>?_|with_reducible rfl|decide|(simp only [List.length_cons,List.length_nil];omega))
  all_goals obtain ⟨p1,p2,p3,p4,p5,p6,p7⟩:=hp
  all_goals obtain ⟨f1,⟨f2,f3,f3'⟩,f4,f5,f6,f7,f8,f9,f10,f11,f12,f13⟩:=nm_facts p3 p4 p2 p1
  all_goals have hb : tB (lev l.length - 1 + 1) (n + n) r = tB (lev l.length - 1) (n + n) r + tB (lev l.length - 1) (tB (lev l.length - 1) (n + n) r + r) r + 1:=tB_facts (kk:=lev l.length - 1 + 1) (Nat.succ_ne_zero _) |>.1
  all_goals have hb2:=tB_le (r:=r) (k:=lev l.length - 1) (n:=n + n)
  all_goals have hb3:=tB_le (r:=r) (k:=lev l.length - 1) (n:=tB (lev l.length - 1) (n + n) r + r)
  all_goals have q1:=(PW.tm p4 (by omega) f7 f7).l32 (by omega)
  all_goals have q2:=(PW.tm p4 (by omega) f9 f10).l32 (by omega)
  all_goals have q3:=(PW.tm p4 (by omega) f9 f10).minus.l32 (by omega)
  all_goals (try simp only [f4,f5,f6])
  all_goals first
    | omega
    | assumption
    | (show _ = normF rs l;unfold normF;rw [f12])
    | skip
instance {n r : Nat} {rs : List (List Rat)} {l : List Rat} {τ1 : MT} [j1 : NU τ1 (TWR r rs)] {τ2 : MT} [j2 : NU τ2 (NM n l)] : Con Tryz.prog 171 [τ1,τ2] (l.length = 2 ^ (lev l.length - 1 + 1) ∧ lev l.length - 1 < rs.length ∧ rs.length ≤ 5 ∧ RLN rs ∧ 1 ≤ n ∧ 1 ≤ r ∧ tB (lev l.length - 1 + 1) (n + n) r ≤ BIG) (NM (tB (lev l.length - 1 + 1) (n + n) r) (normF rs l)):=.o2 fun hok h1 h2 hp=>w171.c2 hok (j1.h h1) (j2.h h2) hp
end Go.Proofs.YtdbdnabpaadigaaGreat
set_option linter.unusedVariables false
set_option linter.unusedSimpArgs false
set_option maxHeartbeats 4000000
set_option maxRecDepth 100000
set_option synthInstance.maxSize 100000
set_option synthInstance.maxHeartbeats 400000
namespace Go.Proofs.YtdbdnabpaadigaaGreat
open Go.RowKit (Below)
attribute [local irreducible] Go.Code.wp Go.wpList Go.bodyPost
theorem sB_s {k n r : Nat} : sB (k + 1) n r = sB k (tB (k + 1) (n + n) r) r:=rfl
attribute [local irreducible] plusF minusF joinF levI lev PW RLN tB sB timesF stepF tmF normF shoF TOK
theorem TOK.rl {rs : List (List Rat)} (h : TOK rs) : RLN rs ∧ rs.length ≤ 5:=by unfold TOK at h;exact ⟨h.2.1,h.1⟩
theorem sg_facts {kk n r : Nat} {rs : List (List Rat)} {l : List Rat} (p1 : kk ≤ rs.length) (p2 : TOK rs) (p3 : PW kk l) (p4 : 1 ≤ n) (p5 : 1 ≤ r) (p6 : sB kk (n + r) r ≤ BIG) (h0 : ¬ (((shoF l).length : Nat) : Int) = 0) (h1 : ¬ (((shoF l).length : Nat) : Int) = 1) :
    kk ≠ 0 ∧ ∃ j,j + 1 ≤ kk ∧ (shoF l).length = 2 ^ (j + 1) ∧ lev (shoF l).length - 1 = j ∧ PW (kk - 1) ((shoF l).take ((shoF l).length / 2)) ∧ PW (kk - 1) ((shoF l).drop ((shoF l).length / 2)) ∧ ((shoF l).length / 2 ≤ (shoF l).length ∧ (shoF l).length ≤ 32) ∧ (0 ≤ levI (shoF l).length - 1 ∧ levI (shoF l).length - 1 < (rs.length : Int)) ∧
    rs.getD (levI (shoF l).length - 1).toNat default = rs.getD j [] ∧ PW (kk - 1) (rs.getD j []) ∧ PW (kk - 1) (normF rs (shoF l)) ∧ tB (j + 1) (n + n) r ≤ BIG ∧ sB (kk - 1) (n + r) r ≤ BIG ∧ sB (kk - 1) (r + r) r ≤ BIG ∧ sB (kk - 1) (tB (j + 1) (n + n) r + r) r ≤ BIG ∧ 1 ≤ tB (j + 1) (n + n) r:=by
  obtain ⟨p7,p8⟩:=p2.rl
  obtain ⟨s1,s2,s3,s4⟩:=sho_ok (by omega) p3
  have hj : ∃ j,j < kk ∧ (shoF l).length = 2 ^ (j + 1):=by
    unfold PW at s2
    rcases s2 with h | ⟨i,hi,h⟩
    · omega
    · cases i with
      | zero=>simp at h;omega
      | succ j=>exact ⟨j,by omega,h⟩
  obtain ⟨j,hj,hl⟩:=hj
  obtain ⟨f1,⟨f2,f3,f3'⟩,f4,f5,f6,f7,f8,f9,f10,f11,f12,f13⟩:=nm_facts p8 p7 (by omega : j < rs.length) hl
  have hn:=norm_ok p7 (by omega : j < rs.length) hl
  obtain ⟨i,rfl⟩ : ∃ i,kk = i + 1:=⟨kk - 1,by omega⟩
  have hs : sB (i + 1) (n + r) r = sB i (tB (i + 1) (n + r + (n + r)) r) r:=sB_s
  have hle : tB (j + 1) (n + n) r + r ≤ tB (i + 1) (n + r + (n + r)) r:=by
    have h1:=tB_up (r:=r) (n:=n + n) (show j + 1 ≤ i + 1 by omega)
    have h2:=tB_add (r:=r) (k:=i + 1) (n:=n + n) (m:=r + r)
    rw [show n + n + (r + r) = n + r + (n + r) by omega] at h2
    omega
  have hbig:=tB_le (r:=r) (k:=i + 1) (n:=n + r + (n + r))
  have hS:=sB_le (r:=r) (k:=i) (n:=tB (i + 1) (n + r + (n + r)) r)
  have m1:=sB_mono (r:=r) (k:=i) hle
  have m2:=sB_mono (r:=r) (k:=i) (n:=n + r) (m:=tB (i + 1) (n + r + (n + r)) r) (by omega)
  have m3:=sB_mono (r:=r) (k:=i) (n:=r + r) (m:=tB (i + 1) (n + r + (n + r)) r) (by omega)
  have hb1:=tB_le (r:=r) (k:=j + 1) (n:=n + n)
  rw [Nat.add_sub_cancel]
  exact ⟨Nat.succ_ne_zero _,j,hj,hl,by rw [hl,lev_pow];rfl,f7.mono (by omega),f8.mono (by omega),⟨by omega,by omega⟩,f11,f12.trans f13,PW.rt p7 (by omega) (by omega),hn.2.mono (by omega),by omega,by omega,by omega,by omega,by omega⟩
theorem sg_short {kk : Nat} {rs : List (List Rat)} {l : List Rat} (p1 : kk ≤ rs.length) (p2 : TOK rs) (p3 : PW kk l) : sgL rs l = sgL rs (shoF l):=(sgL_short (by have:=p2.rl.2;omega) p3).symm
theorem sgStep {kk : Nat} (ih : ∀ {n r : Nat} {rs : List (List Rat)} {l : List Rat},Con Tryz.prog 115 [TWR r rs,NM n l] (kk ≠ 0 ∧ (kk - 1) ≤ rs.length ∧ TOK rs ∧ PW (kk - 1) l ∧ 1 ≤ n ∧ 1 ≤ r ∧ sB (kk - 1) (n + r) r ≤ BIG) (IT (sgL rs l))) {n r : Nat} {rs : List (List Rat)} {l : List Rat} : Con Tryz.prog 115 [TWR r rs,NM n l] (kk ≤ rs.length ∧ TOK rs ∧ PW kk l ∧ 1 ≤ n ∧ 1 ≤ r ∧ sB kk (n + r) r ≤ BIG) (IT (sgL rs l)):=.o2 fun hok h1 h2 hp=>by
  refine St.enter (N:=64) Tryz.func115 rfl rfl rfl hok (enter2 h1 h2) fun a=>?_
  repeat' (first|((with_reducible refine gS_ ?_);first|((with_reducible refine gL_ ?_);first|refine W.run ?_ fun a w G=>?_|refine W.mv fun a w G=>?_|refine W.asg fun a w G=>?_|refine W.bx fun b a w G=>?_|(refine W.nn hK ?_;clear hK K)|refine W.nl ?_|refine W.al fun b a w G=>?_|refine W.st fun w=>?_|refine W.stp fun w=>?_|refine W.ste ?_ fun w=>?_)|((with_reducible refine gC_ ?_);first|refine W.reg fun K hK=>?_|refine W.reg1 ?_|refine W.sq fun K hK=>?_|refine W.ds ?_ (fun β a w G hu=>W.fin ?_ hu) mixedOrders (by kernel_rfl)|refine W.sk ?_|refine W.cd (fun hc=>?_) (fun hc=>?_)|refine W.cb (fun hc=>?_) (fun hc=>?_)|refine W.bl ?_|refine W.ex ?_|refine W.rt ?_)|((with_reducible refine W.kn hK ?_);clear hK K)|(with_reducible first|refine W.bn ?_|refine W.xt ?_|refine W.xb ?_|refine W.xo ?_|refine W.tr ?_|refine W.br ?_)|refine W.rt1 rfl ?_|refine W.rt2 rfl ?_ ?_|refine W.rt3 rfl ?_ ?_ ?_)|clear hK K|clear hu|exact True.intro|exact Nat.le_trans (by clear hp;omega) hp|exact Nat.le_trans (by clear hp;omega) hp.1|exact Nat.le_trans (by clear hp;omega) hp.2|(clear hp;omega)|apply And.intro|refine GI.i fun _=>?_|with_reducible rfl|decide|(simp only [List.length_cons,List.length_nil];omega))
  all_goals obtain ⟨p1,p2,p3,p4,p5,p6⟩:=hp
  all_goals have hn:=sB_le (r:=r) (k:=kk) (n:=n + r)
  all_goals have hl32:=p3.l32 (by have:=p2.rl.2;omega)
  all_goals have e0:=sg_short p1 p2 p3
  all_goals have hsl : (shoF l).length ≤ l.length:=(sho_ok (by have:=p2.rl.2;omega) p3).2.2.2
  all_goals first
    | omega
    | (have h0 : (((shoF l).length : Nat) : Int) = 0 := by assumption
       rw [e0,List.length_eq_zero_iff.1 (show (shoF l).length = 0 by omega),sgL_nil])
    | (have h1 : (((shoF l).length : Nat) : Int) = 1 := by assumption
       rw [e0,sgL_one (by omega)];rfl)
    | (obtain ⟨g1, j, g2, g3, g4, g5, g6, ⟨g7, g7'⟩, g8, g9, g10, g11, g12, g13, g14, g15, g16⟩ := sg_facts p1 p2 p3 p4 p5 p6 (by assumption) (by assumption)
       have g17:=p2.rl
       have g18:=sgL_step p2 (by omega : j < rs.length) g3
       have g19:=sgL_mul_bd rs ((shoF l).take ((shoF l).length / 2)) (normF rs (shoF l))
       (try simp only [g9] at *)
       (try rw [g4])
       first
       | omega
       | assumption
       | exact g17.1
       | exact g19.1
       | exact g19.2
       | (rw [e0,g18];simp only [Bool.or_eq_true,Bool.or_eq_false_iff,decide_eq_true_eq,decide_eq_false_iff_not] at *;grind)
       | skip)
    | skip
theorem sgK : ∀ (kk : Nat) {n r : Nat} {rs : List (List Rat)} {l : List Rat},Con Tryz.prog 115 [TWR r rs,NM n l] (kk ≤ rs.length ∧ TOK rs ∧ PW kk l ∧ 1 ≤ n ∧ 1 ≤ r ∧ sB kk (n + r) r ≤ BIG) (IT (sgL rs l)):=fun kk=>by
  induction kk with
  | zero=>exact sgStep (kk:=0) ⟨fun _ _ hp=>absurd rfl hp.1⟩
  | succ kk ih=>exact sgStep (kk:=kk + 1) ⟨fun hok ha hp=>ih.h hok ha hp.2⟩
instance {n r : Nat} {rs : List (List Rat)} {l : List Rat} {τ1 : MT} [j1 : NU τ1 (TWR r rs)] {τ2 : MT} [j2 : NU τ2 (NM n l)] : Con Tryz.prog 115 [τ1,τ2] (TOK rs ∧ PW rs.length l ∧ 1 ≤ n ∧ 1 ≤ r ∧ sB rs.length (n + r) r ≤ BIG) (IT (sgL rs l)):=.o2 fun hok h1 h2 hp=>(sgK rs.length).c2 hok (j1.h h1) (j2.h h2) ⟨Nat.le_refl _,hp.1,hp.2.1,hp.2.2.1,hp.2.2.2.1,hp.2.2.2.2⟩
theorem num_f {K : Nat} {l : List Rat} {z : Int} (h : PW K l) (hz : z = K) (hl : 0 < l.length) (hc : (decide (levI l.length < 0) || decide (levI l.length > z)) = true) : False:=by
  have key : ∃ j : Nat,j ≤ K ∧ levI l.length = j:=by
    unfold PW at h
    rcases h with h | ⟨j,hj,h⟩
    · omega
    · exact ⟨j,hj,by rw [h,levI_pow]⟩
  obtain ⟨j,hj,e⟩:=key
  rw [e] at hc
  simp only [Bool.or_eq_true,decide_eq_true_eq] at hc
  omega
theorem w169 {n r : Nat} {rs : List (List Rat)} {l : List Rat} : Con Tryz.prog 169 [TWR r rs,NM n l] (n ≤ BIG ∧ rs.length ≤ 5 ∧ PW rs.length l) (.ex (errV 69 (0))):=.o2 fun hok h1 h2 hp=>by
  refine St.enter (N:=34) Tryz.func169 rfl rfl rfl hok (enter2 h1 h2) fun a=>?_
  have hl32:=hp.2.2.l32 hp.2.1
  repeat' (first|((with_reducible refine gS_ ?_);first|((with_reducible refine gL_ ?_);first|refine W.run ?_ fun a w G=>?_|refine W.mv fun a w G=>?_|refine W.asg fun a w G=>?_|refine W.bx fun b a w G=>?_|(refine W.nn hK ?_;clear hK K)|refine W.nl ?_|refine W.al fun b a w G=>?_|refine W.st fun w=>?_|refine W.stp fun w=>?_|refine W.ste ?_ fun w=>?_)|((with_reducible refine gC_ ?_);first|refine W.reg fun K hK=>?_|refine W.reg1 ?_|refine W.sq fun K hK=>?_|refine W.ds ?_ (fun β a w G hu=>W.fin ?_ hu) mixedOrders (by kernel_rfl)|refine W.sk ?_|refine W.cd (fun hc=>?_) (fun hc=>?_)|refine W.cb (fun hc=>?_) (fun hc=>?_)|refine W.bl ?_|refine W.ex ?_|refine W.rt ?_)|((with_reducible refine W.kn hK ?_);clear hK K)|(with_reducible first|refine W.bn ?_|refine W.xt ?_|refine W.xb ?_|refine W.xo ?_|refine W.tr ?_|refine W.br ?_)|refine W.rt1 rfl ?_|refine W.rt2 rfl ?_ ?_|refine W.rt3 rfl ?_ ?_ ?_)|refine W.lp 26 (α:=Nat) (fun j=>l.length - j) (fun j=>j ≤ l.length) [4,7,25,26,27,28,29,30,31,32,33] (fun j=>[(25,NT j)]) (fun j=>[]) (0) ?_ ?_ ?_ fun j hj a w G=>?_|refine W.ag (x:=j) (j+1) ?_ ?_ ?_ ?_|clear hK K|clear hu|exact True.intro|exact Nat.le_trans (by clear hp;omega) hp|exact Nat.le_trans (by clear hp;omega) hp.1|exact Nat.le_trans (by clear hp;omega) hp.2|(clear hp;omega)|apply And.intro|refine GI.i fun _=>?_|with_reducible rfl|decide|(simp only [List.length_cons,List.length_nil];omega))
  all_goals first
    | omega
    | (exfalso;exact num_f hp.2.2 rfl (by omega) (by assumption))
    | (exfalso;rw [FR.of_ok] at *;contradiction)
    | (exfalso;simp only [FR.of_ok,Bool.not_true] at *;contradiction)
    | skip
instance {n r : Nat} {rs : List (List Rat)} {l : List Rat} {τ1 : MT} [j1 : NU τ1 (TWR r rs)] {τ2 : MT} [j2 : NU τ2 (NM n l)] : Con Tryz.prog 169 [τ1,τ2] (n ≤ BIG ∧ rs.length ≤ 5 ∧ PW rs.length l) (.ex (errV 69 (0))):=.o2 fun hok h1 h2 hp=>w169.c2 hok (j1.h h1) (j2.h h2) hp
theorem w168 {r : Nat} {rs : List (List Rat)} : Con Tryz.prog 168 [TWR r rs] (TOK rs ∧ 1 ≤ r ∧ sB rs.length (r + r) r ≤ BIG) (.ex (errV 69 (0))):=.o1 fun hok h1 hp=>by
  refine St.enter (N:=43) Tryz.func168 rfl rfl rfl hok (enter1 h1) fun a=>?_
  have h5:=hp.1.rl
  have hbg:=sB_le (r:=r) (k:=rs.length) (n:=r + r)
  repeat' (first|((with_reducible refine gS_ ?_);first|((with_reducible refine gL_ ?_);first|refine W.run ?_ fun a w G=>?_|refine W.mv fun a w G=>?_|refine W.asg fun a w G=>?_|refine W.bx fun b a w G=>?_|(refine W.nn hK ?_;clear hK K)|refine W.nl ?_|refine W.al fun b a w G=>?_|refine W.st fun w=>?_|refine W.stp fun w=>?_|refine W.ste ?_ fun w=>?_)|((with_reducible refine gC_ ?_);first|refine W.reg fun K hK=>?_|refine W.reg1 ?_|refine W.sq fun K hK=>?_|refine W.ds ?_ (fun β a w G hu=>W.fin ?_ hu) mixedOrders (by kernel_rfl)|refine W.sk ?_|refine W.cd (fun hc=>?_) (fun hc=>?_)|refine W.cb (fun hc=>?_) (fun hc=>?_)|refine W.bl ?_|refine W.ex ?_|refine W.rt ?_)|((with_reducible refine W.kn hK ?_);clear hK K)|(with_reducible first|refine W.bn ?_|refine W.xt ?_|refine W.xb ?_|refine W.xo ?_|refine W.tr ?_|refine W.br ?_)|refine W.rt1 rfl ?_|refine W.rt2 rfl ?_ ?_|refine W.rt3 rfl ?_ ?_ ?_)|refine W.lp 16 (α:=Nat) (fun j=>rs.length - j) (fun j=>j ≤ rs.length) [2,3,4,5,6,15,16,17,18,19,20,21,22,23,24,25,26,27,28,29,30,31,32,33,34,35,36,37,38,39,40,41,42] (fun j=>[(15,NT j)]) (fun j=>[]) (0) ?_ ?_ ?_ fun j hj a w G=>?_|refine W.ag (x:=j) (j+1) ?_ ?_ ?_ ?_|clear hK K|clear hu|exact True.intro|exact Nat.le_trans (by clear hp;omega) hp|exact Nat.le_trans (by clear hp;omega) hp.1|exact Nat.le_trans (by clear hp;omega) hp.2|(clear hp;omega)|apply And.intro|refine GI.i fun _=>?_|with_reducible rfl|decide|(simp only [List.length_cons,List.length_nil];omega))
  all_goals first
    | omega
    | (have ht := hp.1.take j
       have hl:=h5.1.at (show j < rs.length by omega)
       have hs:=sB_ups (r:=r) (n:=r + r) (show (rs.take j).length ≤ rs.length by rw [List.length_take];omega)
       have hlt : (rs.take j).length = j:=by rw [List.length_take];omega
       have hpw : PW (rs.take j).length (rs.getD j []):=by rw [hlt];exact PW.pow hl
       have hj5 : 2 ^ j ≤ 2 ^ 5:=Nat.pow_le_pow_right (by decide) (by omega)
       have hnn:=hp.1.nn (show j < rs.length by omega)
       rw [← ht.2 _ hpw] at hnn
       first
       | omega
       | exact ht.1
       | exact hpw
       | (exfalso;have hd : (rs.getD j default).length = 2 ^ j:=hl;omega)
       | (exfalso;have hd : 0 ≤ sgL (List.take j rs) (rs.getD j default):=hnn;omega)
       | skip)
    | skip
instance {r : Nat} {rs : List (List Rat)} {τ1 : MT} [j1 : NU τ1 (TWR r rs)] : Con Tryz.prog 168 [τ1] (TOK rs ∧ 1 ≤ r ∧ sB rs.length (r + r) r ≤ BIG) (.ex (errV 69 (0))):=.o1 fun hok h1 hp=>w168.c1 hok (j1.h h1) hp
theorem getD_mem {l : List (List Rat)} {j : Nat} (h : j < l.length) : l.getD j default ∈ l:=by rw [List.getD_eq_getElem?_getD,List.getElem?_eq_getElem h];exact List.getElem_mem h
theorem w114 {r n : Nat} {rs ls : List (List Rat)} : Con Tryz.prog 114 [TWR r rs,RTS n ls] (TOK rs ∧ 1 ≤ r ∧ n ≤ BIG ∧ sB rs.length (r + r) r ≤ BIG ∧ ls.length ≤ 8 ∧ ∀ x ∈ ls,PW rs.length x) (.ex (errV 69 (0))):=.o2 fun hok h1 h2 hp=>by
  refine St.enter (N:=27) Tryz.func114 rfl rfl rfl hok (enter2 h1 h2) fun a=>?_
  have h5:=hp.1.rl
  repeat' (first|((with_reducible refine gS_ ?_);first|((with_reducible refine gL_ ?_);first|refine W.run ?_ fun a w G=>?_|refine W.mv fun a w G=>?_|refine W.asg fun a w G=>?_|refine W.bx fun b a w G=>?_|(refine W.nn hK ?_;clear hK K)|refine W.nl ?_|refine W.al fun b a w G=>?_|refine W.st fun w=>?_|refine W.stp fun w=>?_|refine W.ste ?_ fun w=>?_)|((with_reducible refine gC_ ?_);first|refine W.reg fun K hK=>?_|refine W.reg1 ?_|refine W.sq fun K hK=>?_|refine W.ds ?_ (fun β a w G hu=>W.fin ?_ hu) mixedOrders (by kernel_rfl)|refine W.sk ?_|refine W.cd (fun hc=>?_) (fun hc=>?_)|refine W.cb (fun hc=>?_) (fun hc=>?_)|refine W.bl ?_|refine W.ex ?_|refine W.rt ?_)|((with_reducible refine W.kn hK ?_);clear hK K)|(with_reducible first|refine W.bn ?_|refine W.xt ?_|refine W.xb ?_|refine W.xo ?_|refine W.tr ?_|refine W.br ?_)|refine W.rt1 rfl ?_|refine W.rt2 rfl ?_ ?_|refine W.rt3 rfl ?_ ?_ ?_)|refine W.lp 17 (α:=Nat) (fun j=>ls.length - j) (fun j=>j ≤ ls.length) [4,7,8,16,17,18,19,20,21,22,23,24,25,26] (fun j=>[(16,NT j)]) (fun j=>[]) (0) ?_ ?_ ?_ fun j hj a w G=>?_|refine W.ag (x:=j) (j+1) ?_ ?_ ?_ ?_|clear hK K|clear hu|exact True.intro|exact Nat.le_trans (by clear hp;omega) hp|exact Nat.le_trans (by clear hp;omega) hp.1|exact Nat.le_trans (by clear hp;omega) hp.2|(clear hp;omega)|apply And.intro|refine GI.i fun _=>?_|with_reducible rfl|decide|(simp only [List.length_cons,List.length_nil];omega))
  all_goals first
    | omega
    | exact hp.1
    | exact hp.2.2.2.2.2 _ (getD_mem (by omega))
    | skip
instance {r n : Nat} {rs ls : List (List Rat)} {τ1 : MT} [j1 : NU τ1 (TWR r rs)] {τ2 : MT} [j2 : NU τ2 (RTS n ls)] : Con Tryz.prog 114 [τ1,τ2] (TOK rs ∧ 1 ≤ r ∧ n ≤ BIG ∧ sB rs.length (r + r) r ≤ BIG ∧ ls.length ≤ 8 ∧ ∀ x ∈ ls,PW rs.length x) (.ex (errV 69 (0))):=.o2 fun hok h1 h2 hp=>w114.c2 hok (j1.h h1) (j2.h h2) hp
theorem w50 {n r : Nat} {rs : List (List Rat)} {l : List Rat} : Con Tryz.prog 50 [TWR r rs,NM n l] (TOK rs ∧ PW rs.length l ∧ 1 ≤ r ∧ 1 ≤ n ∧ sB rs.length (n + r) r ≤ BIG ∧ sB rs.length (r + r) r ≤ BIG) (MT.tup2 (IT (sgL rs l)) (.ex (errV 69 (0)))):=.o2 fun hok h1 h2 hp=>by
  refine St.enter (N:=17) Tryz.func50 rfl rfl rfl hok (enter2 h1 h2) fun a=>?_
  have h5:=hp.1.rl
  have hbg:=sB_le (r:=r) (k:=rs.length) (n:=n + r)
  repeat' (first|((with_reducible refine gS_ ?_);first|((with_reducible refine gL_ ?_);first|refine W.run ?_ fun a w G=>?_|refine W.mv fun a w G=>?_|refine W.asg fun a w G=>?_|refine W.bx fun b a w G=>?_|(refine W.nn hK ?_;clear hK K)|refine W.nl ?_|refine W.al fun b a w G=>?_|refine W.st fun w=>?_|refine W.stp fun w=>?_|refine W.ste ?_ fun w=>?_)|((with_reducible refine gC_ ?_);first|refine W.reg fun K hK=>?_|refine W.reg1 ?_|refine W.sq fun K hK=>?_|refine W.ds ?_ (fun β a w G hu=>W.fin ?_ hu) mixedOrders (by kernel_rfl)|refine W.sk ?_|refine W.cd (fun hc=>?_) (fun hc=>?_)|refine W.cb (fun hc=>?_) (fun hc=>?_)|refine W.bl ?_|refine W.ex ?_|refine W.rt ?_)|((with_reducible refine W.kn hK ?_);clear hK K)|(with_reducible first|refine W.bn ?_|refine W.xt ?_|refine W.xb ?_|refine W.xo ?_|refine W.tr ?_|refine W.br ?_)|refine W.rt1 rfl ?_|refine W.rt2 rfl ?_ ?_|refine W.rt3 rfl ?_ ?_ ?_)|clear hK K|clear hu|exact True.intro|exact Nat.le_trans (by clear hp;omega) hp|exact Nat.le_trans (by clear hp;omega) hp.1|exact Nat.le_trans (by clear hp;omega) hp.2|(clear hp;omega)|apply And.intro|refine GI.i fun _=>?_|with_reducible rfl|decide|(simp only [List.length_cons,List.length_nil];omega))
  all_goals first
    | omega
    | exact hp.1
    | exact hp.2.1
    | (intro x hx;simp only [List.mem_cons,List.not_mem_nil,or_false] at hx;subst hx;exact hp.2.1)
    | (simp;done)
    | skip
instance {n r : Nat} {rs : List (List Rat)} {l : List Rat} {τ1 : MT} [j1 : NU τ1 (TWR r rs)] {τ2 : MT} [j2 : NU τ2 (NM n l)] : Con Tryz.prog 50 [τ1,τ2] (TOK rs ∧ PW rs.length l ∧ 1 ≤ r ∧ 1 ≤ n ∧ sB rs.length (n + r) r ≤ BIG ∧ sB rs.length (r + r) r ≤ BIG) (MT.tup2 (IT (sgL rs l)) (.ex (errV 69 (0)))):=.o2 fun hok h1 h2 hp=>w50.c2 hok (j1.h h1) (j2.h h2) hp
end Go.Proofs.YtdbdnabpaadigaaGreat
set_option linter.unusedVariables false
set_option linter.unusedSimpArgs false
set_option maxHeartbeats 4000000
set_option maxRecDepth 100000
set_option synthInstance.maxSize 100000
set_option synthInstance.maxHeartbeats 400000
namespace Go.Proofs.YtdbdnabpaadigaaGreat
open Go.RowKit (Below)
attribute [local irreducible] Go.Code.wp Go.wpList Go.bodyPost
theorem vl2 {p s x y z u : Rat} : vlL [[p],[s,0]] [x,y,z,u] = (RR.of x + RR.of y * rt p) + (RR.of z + RR.of u * rt p) * rt s:=by
  rw [El.vl_at (k:=2) (l:=[x,y,z,u]) (by decide) (Nat.le_refl 4)]
  show (RR.of x + RR.of y * (RR.of p).sq) + (RR.of z + RR.of u * (RR.of p).sq) * (RR.of s + RR.of 0 * (RR.of p).sq).sq = _
  rw [show RR.of 0 = (0 : RR) from rfl,RR.zero_mul,RR.add_zero];rfl
theorem sg2 {p s x y z : Rat} (hp : 0 ≤ p) (hs : 0 ≤ s) : sgL [[p],[s,0]] [x,y,z,0] = surdsF x y p z s:=by
  unfold sgL
  rw [vl2,surds_sg hp hs,show RR.of 0 = (0 : RR) from rfl,RR.zero_mul,RR.add_zero]
theorem tok2 {p s : Rat} (hp : 0 ≤ p) (hs : 0 ≤ s) : TOK [[p],[s,0]]:=by
  refine ⟨show 2 ≤ 5 by decide,fun j hj=>?_,fun j hj=>?_⟩
  · match j,hj with
    | 0,_=>rfl
    | 1,_=>rfl
  · match j,hj with
    | 0,_ =>
      show 0 ≤ vlL [[p],[s,0]] [p]
      rw [El.vl_at (k:=0) (l:=[p]) (by decide) (Nat.le_refl 1)]
      exact RR.of_le (p:=0) |>.2 hp
    | 1,_ =>
      show 0 ≤ vlL [[p],[s,0]] [s,0]
      rw [El.vl_at (k:=1) (l:=[s,0]) (by decide) (Nat.le_refl 2)]
      show 0 ≤ RR.of s + RR.of 0 * (RR.of p).sq
      rw [show RR.of 0 = (0 : RR) from rfl,RR.zero_mul,RR.add_zero]
      exact RR.of_le (p:=0) |>.2 hs
theorem pw4 {x y z u : Rat} : PW 2 [x,y,z,u]:=.inr ⟨2,Nat.le_refl _,rfl⟩
theorem sB2 {x r : Nat} : sB 2 x r = 48 * x + 25 * r + 21:=by simp only [sB,tB];omega
def nearF (g a b c : FR) (k : Rat) : Int:=surdsF (g.val + a.val - (b.val + c.val)) (-(2 * k)) (a.val * g.val) 2 (b.val * c.val)
def farF (g a b c : FR) (k : Rat) : Int:=surdsF (b.val + c.val - (g.val + a.val)) (2 * k) (a.val * g.val) 2 (b.val * c.val)
def gapC (g a b c k : FR) : Int:=if chkF [g,a,b,c] = 0 then (if k.ok then (if 1 < k.val ∨ k.val < -1 then 3 else 0) else 2) else chkF [g,a,b,c]
def fullF (g a b c : FR) : Bool:=decide (chkF [g,a,b,c] = 0) && decide (0 ≤ nearF g a b c 1) && decide (0 ≤ farF g a b c (-1))
theorem pos_nn {g a b c : FR} (h : [g,a,b,c].all posR = true) : 0 ≤ a.val * g.val ∧ 0 ≤ b.val * c.val:=by
  simp only [List.all_cons,List.all_nil,Bool.and_true,Bool.and_eq_true] at h
  have h1:=posR_val h.1;have h2:=posR_val h.2.1;have h3:=posR_val h.2.2.1;have h4:=posR_val h.2.2.2
  exact ⟨Rat.mul_nonneg (by grind) (by grind),Rat.mul_nonneg (by grind) (by grind)⟩
theorem near_sg {g a b c : FR} {k : Rat} (h : [g,a,b,c].all posR = true) : sgL [[a.val * g.val],[b.val * c.val,0]] [g.val + a.val - (b.val + c.val),-(2 * k),2,0] = nearF g a b c k:=sg2 (pos_nn h).1 (pos_nn h).2
theorem far_sg {g a b c : FR} {k : Rat} (h : [g,a,b,c].all posR = true) : sgL [[a.val * g.val],[b.val * c.val,0]] [b.val + c.val - (g.val + a.val),2 * k,2,0] = farF g a b c k:=sg2 (pos_nn h).1 (pos_nn h).2
theorem full_bad {g a b c : FR} (h : chkF [g,a,b,c] ≠ 0) : fullF g a b c = false:=by unfold fullF;rw [decide_eq_false h];rfl
theorem full_ok {g a b c : FR} (h : ¬ chkF [g,a,b,c] ≠ 0) : fullF g a b c = (decide (nearF g a b c 1 ≥ 0) && decide (farF g a b c (-1) ≥ 0)):=by unfold fullF;rw [decide_eq_true (show chkF [g,a,b,c] = 0 by omega),Bool.true_and]
instance NU.qc {τ : MT} {n : Nat} {x : Rat} [h : Rdn τ QC n x] : NU τ (QC n x):=⟨fun hv=>h.h hv⟩
attribute [local irreducible] plusF minusF joinF levI lev PW RLN tB sB timesF stepF tmF normF shoF TOK sgL surdsF chkF
theorem w159 {n : Nat} {rg ra rb rc : FR} : Con Tryz.prog 159 [QUD n rg ra rb rc] (1000 * n + 100000 ≤ BIG) (TWR (n + n) [[ra.val * rg.val],[rb.val * rc.val,0]]):=.o1 fun hok h1 hp=>by
  refine St.enter (N:=18) Tryz.func159 rfl rfl rfl hok (enter1 h1) fun a=>?_
  have hn1:=qud_pos h1
  repeat' (first|((with_reducible refine gS_ ?_);first|((with_reducible refine gL_ ?_);first|refine W.run ?_ fun a w G=>?_|refine W.mv fun a w G=>?_|refine W.asg fun a w G=>?_|refine W.bx fun b a w G=>?_|(refine W.nn hK ?_;clear hK K)|refine W.nl ?_|refine W.al fun b a w G=>?_|refine W.st fun w=>?_|refine W.stp fun w=>?_|refine W.ste ?_ fun w=>?_)|((with_reducible refine gC_ ?_);first|refine W.reg fun K hK=>?_|refine W.reg1 ?_|refine W.sq fun K hK=>?_|refine W.ds ?_ (fun β a w G hu=>W.fin ?_ hu) mixedOrders (by kernel_rfl)|refine W.sk ?_|refine W.cd (fun hc=>?_) (fun hc=>?_)|refine W.cb (fun hc=>?_) (fun hc=>?_)|refine W.bl ?_|refine W.ex ?_|refine W.rt ?_)|((with_reducible refine W.kn hK ?_);clear hK K)|(with_reducible first|refine W.bn ?_|refine W.xt ?_|refine W.xb ?_|refine W.xo ?_|refine W.tr ?_|refine W.br ?_)|refine W.rt1 rfl ?_|refine W.rt2 rfl ?_ ?_|refine W.rt3 rfl ?_ ?_ ?_)|clear hK K|clear hu|exact True.intro|exact Nat.le_trans (by clear hp;omega) hp|exact Nat.le_trans (by clear hp;omega) hp.1|exact Nat.le_trans (by clear hp;omega) hp.2|(clear hp;omega)|apply And.intro|refine GI.i fun _=>?_|with_reducible rfl|decide|(simp only [List.length_cons,List.length_nil];omega))
instance {n : Nat} {rg ra rb rc : FR} {τ1 : MT} [j1 : NF τ1 (QUD n rg ra rb rc)] : Con Tryz.prog 159 [τ1] (1000 * n + 100000 ≤ BIG) (TWR (n + n) [[ra.val * rg.val],[rb.val * rc.val,0]]):=.o1 fun hok h1 hp=>w159.c1 hok (j1.h h1) hp
theorem w160 {n m k l : Nat} {x y z u : Rat} : Con Tryz.prog 160 [QC n x,QC m y,QC k z,QC l u] (True) (NM (max n (max m (max k l))) [x,y,z,u]):=.o4 fun hok h1 h2 h3 h4 hp=>by
  refine St.enter (N:=14) Tryz.func160 rfl rfl rfl hok (enter4 h1 h2 h3 h4) fun a=>?_
  repeat' (first|((with_reducible refine gS_ ?_);first|((with_reducible refine gL_ ?_);first|refine W.run ?_ fun a w G=>?_|refine W.mv fun a w G=>?_|refine W.asg fun a w G=>?_|refine W.bx fun b a w G=>?_|(refine W.nn hK ?_;clear hK K)|refine W.nl ?_|refine W.al fun b a w G=>?_|refine W.st fun w=>?_|refine W.stp fun w=>?_|refine W.ste ?_ fun w=>?_)|((with_reducible refine gC_ ?_);first|refine W.reg fun K hK=>?_|refine W.reg1 ?_|refine W.sq fun K hK=>?_|refine W.ds ?_ (fun β a w G hu=>W.fin ?_ hu) mixedOrders (by kernel_rfl)|refine W.sk ?_|refine W.cd (fun hc=>?_) (fun hc=>?_)|refine W.cb (fun hc=>?_) (fun hc=>?_)|refine W.bl ?_|refine W.ex ?_|refine W.rt ?_)|((with_reducible refine W.kn hK ?_);clear hK K)|(with_reducible first|refine W.bn ?_|refine W.xt ?_|refine W.xb ?_|refine W.xo ?_|refine W.tr ?_|refine W.br ?_)|refine W.rt1 rfl ?_|refine W.rt2 rfl ?_ ?_|refine W.rt3 rfl ?_ ?_ ?_)|clear hK K|clear hu|exact True.intro|exact Nat.le_trans (by clear hp;omega) hp|exact Nat.le_trans (by clear hp;omega) hp.1|exact Nat.le_trans (by clear hp;omega) hp.2|(clear hp;omega)|apply And.intro|refine GI.i fun _=>?_|with_reducible rfl|decide|(simp only [List.length_cons,List.length_nil];omega))
instance {n m k l : Nat} {x y z u : Rat} {τ1 : MT} [j1 : NU τ1 (QC n x)] {τ2 : MT} [j2 : NU τ2 (QC m y)] {τ3 : MT} [j3 : NU τ3 (QC k z)] {τ4 : MT} [j4 : NU τ4 (QC l u)] : Con Tryz.prog 160 [τ1,τ2,τ3,τ4] (True) (NM (max n (max m (max k l))) [x,y,z,u]):=.o4 fun hok h1 h2 h3 h4 hp=>w160.c4 hok (j1.h h1) (j2.h h2) (j3.h h3) (j4.h h4) hp
theorem w161 {n m : Nat} {rg ra rb rc : FR} {k : Rat} : Con Tryz.prog 161 [QUD n rg ra rb rc,QV m k] (1000 * n + 1000 * m + 200000 ≤ BIG) (NM (4 * n + m + 70) [rg.val + ra.val - (rb.val + rc.val),-(2 * k),2,0]):=.o2 fun hok h1 h2 hp=>by
  refine St.enter (N:=27) Tryz.func161 rfl rfl rfl hok (enter2 h1 h2) fun a=>?_
  repeat' (first|((with_reducible refine gS_ ?_);first|((with_reducible refine gL_ ?_);first|refine W.run ?_ fun a w G=>?_|refine W.mv fun a w G=>?_|refine W.asg fun a w G=>?_|refine W.bx fun b a w G=>?_|(refine W.nn hK ?_;clear hK K)|refine W.nl ?_|refine W.al fun b a w G=>?_|refine W.st fun w=>?_|refine W.stp fun w=>?_|refine W.ste ?_ fun w=>?_)|((with_reducible refine gC_ ?_);first|refine W.reg fun K hK=>?_|refine W.reg1 ?_|refine W.sq fun K hK=>?_|refine W.ds ?_ (fun β a w G hu=>W.fin ?_ hu) mixedOrders (by kernel_rfl)|refine W.sk ?_|refine W.cd (fun hc=>?_) (fun hc=>?_)|refine W.cb (fun hc=>?_) (fun hc=>?_)|refine W.bl ?_|refine W.ex ?_|refine W.rt ?_)|((with_reducible refine W.kn hK ?_);clear hK K)|(with_reducible first|refine W.bn ?_|refine W.xt ?_|refine W.xb ?_|refine W.xo ?_|refine W.tr ?_|refine W.br ?_)|refine W.rt1 rfl ?_|refine W.rt2 rfl ?_ ?_|refine W.rt3 rfl ?_ ?_ ?_)|clear hK K|clear hu|exact True.intro|exact Nat.le_trans (by clear hp;omega) hp|exact Nat.le_trans (by clear hp;omega) hp.1|exact Nat.le_trans (by clear hp;omega) hp.2|(clear hp;omega)|apply And.intro|refine GI.i fun _=>?_|with_reducible rfl|decide|(simp only [List.length_cons,List.length_nil];omega))
instance {n m : Nat} {rg ra rb rc : FR} {k : Rat} {τ1 : MT} [j1 : NF τ1 (QUD n rg ra rb rc)] {τ2 : MT} [j2 : NQ τ2 (QV m k)] : Con Tryz.prog 161 [τ1,τ2] (1000 * n + 1000 * m + 200000 ≤ BIG) (NM (4 * n + m + 70) [rg.val + ra.val - (rb.val + rc.val),-(2 * k),2,0]):=.o2 fun hok h1 h2 hp=>w161.c2 hok (j1.h h1) (j2.h h2) hp
theorem w162 {n m : Nat} {rg ra rb rc : FR} {k : Rat} : Con Tryz.prog 162 [QUD n rg ra rb rc,QV m k] (1000 * n + 1000 * m + 200000 ≤ BIG) (NM (4 * n + m + 70) [rb.val + rc.val - (rg.val + ra.val),2 * k,2,0]):=.o2 fun hok h1 h2 hp=>by
  refine St.enter (N:=26) Tryz.func162 rfl rfl rfl hok (enter2 h1 h2) fun a=>?_
  repeat' (first|((with_reducible refine gS_ ?_);first|((with_reducible refine gL_ ?_);first|refine W.run ?_ fun a w G=>?_|refine W.mv fun a w G=>?_|refine W.asg fun a w G=>?_|refine W.bx fun b a w G=>?_|(refine W.nn hK ?_;clear hK K)|refine W.nl ?_|refine W.al fun b a w G=>?_|refine W.st fun w=>?_|refine W.stp fun w=>?_|refine W.ste ?_ fun w=>?_)|((with_reducible refine gC_ ?_);first|refine W.reg fun K hK=>?_|refine W.reg1 ?_|refine W.sq fun K hK=>?_|refine W.ds ?_ (fun β a w G hu=>W.fin ?_ hu) mixedOrders (by kernel_rfl)|refine W.sk ?_|refine W.cd (fun hc=>?_) (fun hc=>?_)|refine W.cb (fun hc=>?_) (fun hc=>?_)|refine W.bl ?_|refine W.ex ?_|refine W.rt ?_)|((with_reducible refine W.kn hK ?_);clear hK K)|(with_reducible first|refine W.bn ?_|refine W.xt ?_|refine W.xb ?_|refine W.xo ?_|refine W.tr ?_|refine W.br ?_)|refine W.rt1 rfl ?_|refine W.rt2 rfl ?_ ?_|refine W.rt3 rfl ?_ ?_ ?_)|clear hK K|clear hu|exact True.intro|exact Nat.le_trans (by clear hp;omega) hp|exact Nat.le_trans (by clear hp;omega) hp.1|exact Nat.le_trans (by clear hp;omega) hp.2|(clear hp;omega)|apply And.intro|refine GI.i fun _=>?_|with_reducible rfl|decide|(simp only [List.length_cons,List.length_nil];omega))
instance {n m : Nat} {rg ra rb rc : FR} {k : Rat} {τ1 : MT} [j1 : NF τ1 (QUD n rg ra rb rc)] {τ2 : MT} [j2 : NQ τ2 (QV m k)] : Con Tryz.prog 162 [τ1,τ2] (1000 * n + 1000 * m + 200000 ≤ BIG) (NM (4 * n + m + 70) [rb.val + rc.val - (rg.val + ra.val),2 * k,2,0]):=.o2 fun hok h1 h2 hp=>w162.c2 hok (j1.h h1) (j2.h h2) hp
theorem w113 {n m : Nat} {rg ra rb rc : FR} {k : Rat} : Con Tryz.prog 113 [QUD n rg ra rb rc,QV m k] (1000 * n + 1000 * m + 200000 ≤ BIG ∧ [rg,ra,rb,rc].all posR = true) (MT.tup3 (IT (nearF rg ra rb rc k)) (IT (farF rg ra rb rc k)) (.ex (errV 69 (0)))):=.o2 fun hok h1 h2 hp=>by
  refine St.enter (N:=37) Tryz.func113 rfl rfl rfl hok (enter2 h1 h2) fun a=>?_
  have hn1:=qud_pos h1
  repeat' (first|((with_reducible refine gS_ ?_);first|((with_reducible refine gL_ ?_);first|refine W.run ?_ fun a w G=>?_|refine W.mv fun a w G=>?_|refine W.asg fun a w G=>?_|refine W.bx fun b a w G=>?_|(refine W.nn hK ?_;clear hK K)|refine W.nl ?_|refine W.al fun b a w G=>?_|refine W.st fun w=>?_|refine W.stp fun w=>?_|refine W.ste ?_ fun w=>?_)|((with_reducible refine gC_ ?_);first|refine W.reg fun K hK=>?_|refine W.reg1 ?_|refine W.sq fun K hK=>?_|refine W.ds ?_ (fun β a w G hu=>W.fin ?_ hu) mixedOrders (by kernel_rfl)|refine W.sk ?_|refine W.cd (fun hc=>?_) (fun hc=>?_)|refine W.cb (fun hc=>?_) (fun hc=>?_)|refine W.bl ?_|refine W.ex ?_|refine W.rt ?_)|((with_reducible refine W.kn hK ?_);clear hK K)|(with_reducible first|refine W.bn ?_|refine W.xt ?_|refine W.xb ?_|refine W.xo ?_|refine W.tr ?_|refine W.br ?_)|refine W.rt1 rfl ?_|refine W.rt2 rfl ?_ ?_|refine W.rt3 rfl ?_ ?_ ?_)|clear hK K|clear hu|exact True.intro|exact Nat.le_trans (by clear hp;omega) hp|exact Nat.le_trans (by clear hp;omega) hp.1|exact Nat.le_trans (by clear hp;omega) hp.2|(clear hp;omega)|apply And.intro|refine GI.i fun _=>?_|with_reducible rfl|decide|(simp only [List.length_cons,List.length_nil];omega))
  all_goals first
    | omega
    | exact (near_sg hp.2)
    | exact (far_sg hp.2)
    | exact tok2 (pos_nn hp.2).1 (pos_nn hp.2).2
    | exact pw4
    | (show sB 2 _ _ ≤ BIG;rw [sB2];omega)
    | skip
instance {n m : Nat} {rg ra rb rc : FR} {k : Rat} {τ1 : MT} [j1 : NF τ1 (QUD n rg ra rb rc)] {τ2 : MT} [j2 : NQ τ2 (QV m k)] : Con Tryz.prog 113 [τ1,τ2] (1000 * n + 1000 * m + 200000 ≤ BIG ∧ [rg,ra,rb,rc].all posR = true) (MT.tup3 (IT (nearF rg ra rb rc k)) (IT (farF rg ra rb rc k)) (.ex (errV 69 (0)))):=.o2 fun hok h1 h2 hp=>w113.c2 hok (j1.h h1) (j2.h h2) hp
theorem w52 {n : Nat} {rg ra rb rc : FR} : Con Tryz.prog 52 [QUD n rg ra rb rc] (1000 * n + 300000 ≤ BIG) (MT.tup2 (BT (fullF rg ra rb rc)) (.ex (errV 69 (chkF [rg,ra,rb,rc])))):=.o1 fun hok h1 hp=>by
  refine St.enter (N:=43) Tryz.func52 rfl rfl rfl hok (enter1 h1) fun a=>?_
  have hn1:=qud_pos h1
  repeat' (first|((with_reducible refine gS_ ?_);first|((with_reducible refine gL_ ?_);first|refine W.run ?_ fun a w G=>?_|refine W.mv fun a w G=>?_|refine W.asg fun a w G=>?_|refine W.bx fun b a w G=>?_|(refine W.nn hK ?_;clear hK K)|refine W.nl ?_|refine W.al fun b a w G=>?_|refine W.st fun w=>?_|refine W.stp fun w=>?_|refine W.ste ?_ fun w=>?_)|((with_reducible refine gC_ ?_);first|refine W.reg fun K hK=>?_|refine W.reg1 ?_|refine W.sq fun K hK=>?_|refine W.ds ?_ (fun β a w G hu=>W.fin ?_ hu) mixedOrders (by kernel_rfl)|refine W.sk ?_|refine W.cd (fun hc=>?_) (fun hc=>?_)|refine W.cb (fun hc=>?_) (fun hc=>?_)|refine W.bl ?_|refine W.ex ?_|refine W.rt ?_)|((with_reducible refine W.kn hK ?_);clear hK K)|(with_reducible first|refine W.bn ?_|refine W.xt ?_|refine W.xb ?_|refine W.xo ?_|refine W.tr ?_|refine W.br ?_)|refine W.rt1 rfl ?_|refine W.rt2 rfl ?_ ?_|refine W.rt3 rfl ?_ ?_ ?_)|clear hK K|clear hu|exact True.intro|exact Nat.le_trans (by clear hp;omega) hp|exact Nat.le_trans (by clear hp;omega) hp.1|exact Nat.le_trans (by clear hp;omega) hp.2|(clear hp;omega)|apply And.intro|refine GI.i fun _=>?_|with_reducible rfl|decide|(simp only [List.length_cons,List.length_nil];omega))
  all_goals first
    | omega
    | exact chk_pos (by omega)
    | exact (full_bad (by assumption)).symm
    | (rw [full_ok (by assumption)];rfl)
    | skip
instance {n : Nat} {rg ra rb rc : FR} {τ1 : MT} [j1 : NF τ1 (QUD n rg ra rb rc)] : Con Tryz.prog 52 [τ1] (1000 * n + 300000 ≤ BIG) (MT.tup2 (BT (fullF rg ra rb rc)) (.ex (errV 69 (chkF [rg,ra,rb,rc])))):=.o1 fun hok h1 hp=>w52.c1 hok (j1.h h1) hp
end Go.Proofs.YtdbdnabpaadigaaGreat
set_option linter.unusedVariables false
set_option linter.unusedSimpArgs false
set_option maxHeartbeats 4000000
set_option maxRecDepth 100000
set_option synthInstance.maxSize 100000
set_option synthInstance.maxHeartbeats 400000
namespace Go.Proofs.YtdbdnabpaadigaaGreat
open Go.RowKit (Below)
attribute [local irreducible] Go.Code.wp Go.wpList Go.bodyPost
def limN (y u : Rat) : List Rat:=[0,y,0,u]
def limA (g a b c : FR) : Rat:=(g.val + a.val - (b.val + c.val)) / (2 * (a.val * g.val))
def limI (g a b c : FR) (u : Rat) : Bool:=decide (surdsF (-1) (limA g a b c) (a.val * g.val) u (a.val * g.val * (b.val * c.val)) ≤ 0) && decide (surdsF 1 (limA g a b c) (a.val * g.val) u (a.val * g.val * (b.val * c.val)) ≥ 0)
def limK (g a : FR) : List Rat:=[-(1 / (a.val * g.val)),1 / (a.val * g.val)]
def limJ (g a b c : FR) (j : Nat) : List (List Rat):=(((limK g a).take j).filter fun u=>limI g a b c u).map fun u=>limN (limA g a b c) u
def limL (g a b c : FR) : List (List Rat):=if chkF [g,a,b,c] = 0 then limJ g a b c 2 else []
theorem LSC.nm {b c : Nat} {l : List Rat} {v : Value} {G : Gh} (h : (LSC none [NM b l]).t v G) (e : b ≤ c) : (LSC none [NM c l]).t v G:=⟨LS.els h.1 rfl fun i τ σ h1 h2 _ hv=>by
  match i,h1,h2 with
  | 0,h1,h2=>cases h1;cases h2;exact NM.up hv e,h.2⟩
instance AsT.nm {b : Nat} {l : List Rat} : AsT (NM b l) (NM b) l:=⟨fun h=>h⟩
attribute [local irreducible] plusF minusF joinF levI lev PW RLN tB sB timesF stepF tmF normF TOK sgL surdsF chkF nearF farF gapC fullF
attribute [local irreducible] limJ limL limI
end Go.Proofs.YtdbdnabpaadigaaGreat
namespace Go.Proofs.YtdbdnabpaadigaaGreat
def perms4 : List (List Nat):=[[0,1,2,3],[0,1,3,2],[0,2,1,3],[0,2,3,1],[0,3,1,2],[0,3,2,1],[1,0,2,3],[1,0,3,2],[1,2,0,3],[1,2,3,0],[1,3,0,2],[1,3,2,0],[2,0,1,3],[2,0,3,1],[2,1,0,3],[2,1,3,0],[2,3,0,1],[2,3,1,0],[3,0,1,2],[3,0,2,1],[3,1,0,2],[3,1,2,0],[3,2,0,1],[3,2,1,0]]
theorem perm4 {i j k m : Nat} (h : [i,j,k,m].Perm [0,1,2,3]) : [i,j,k,m] ∈ perms4:=by
  have hm : ∀ x ∈ [i,j,k,m],x < 4:=fun x hx=>by
    have:=h.mem_iff.1 hx
    simp at this;omega
  have all : ∀ i,i < 4 → ∀ j,j < 4 → ∀ k,k < 4 → ∀ m,m < 4 → [i,j,k,m].isPerm [0,1,2,3] = true → perms4.contains [i,j,k,m] = true:=by decide +kernel
  have:=all i (hm i (by simp)) j (hm j (by simp)) k (hm k (by simp)) m (hm m (by simp)) (List.isPerm_iff.2 h)
  simpa using this
end Go.Proofs.YtdbdnabpaadigaaGreat
namespace Go.Proofs.YtdbdnabpaadigaaGreat
open Go.RowKit (Below)
attribute [local irreducible] rotQ compareF befR
end Go.Proofs.YtdbdnabpaadigaaGreat
namespace Go.Proofs.YtdbdnabpaadigaaGreat
open Go.RowKit (Below)
theorem vget (l : List FR) (j : Nat) : (l.map FR.val).getD j default = (l.getD j default).val:=by
  rw [List.getD_eq_getElem?_getD,List.getD_eq_getElem?_getD,List.getElem?_map]
  cases l[j]? with
  | none=>exact val_default.symm
  | some z=>rfl
theorem lk_get (l : List FR) (j : Nat) : lk l j = (l.map FR.val).getD ((orderF (l.map FR.val)).getD j default) default:=by rw [vget];rfl
end Go.Proofs.YtdbdnabpaadigaaGreat
namespace Go.Proofs.YtdbdnabpaadigaaGreat
open Go.RowKit (Below)
end Go.Proofs.YtdbdnabpaadigaaGreat
namespace Go.Proofs.YtdbdnabpaadigaaGreat
open Go.RowKit (Below)
def invQ (l : List FR) (k : Int) : List FR:=[invF l k 0,invF l k 1,invF l k 2,invF l k 3]
theorem inv_pos {l : List FR} {k : Int} (h : chkF l = 0) (hl : l.length = 4) : (invQ l k).all posR = true:=by
  have hp:=chk_pos h
  have : ∀ j,posR (invF l k j) = true:=fun j=>by
    unfold invF;rw [if_pos h,posR_of4]
    have hlt : (j + md4 k) % 4 < l.length:=by rw [hl];exact Nat.mod_lt _ (by decide)
    refine decide_eq_true (posR_val (List.all_eq_true.1 hp _ ?_))
    rw [List.getD_eq_getElem?_getD,List.getElem?_eq_getElem hlt];exact List.getElem_mem hlt
  unfold invQ;simp [this]
end Go.Proofs.YtdbdnabpaadigaaGreat
namespace Go.Proofs.YtdbdnabpaadigaaGreat
end Go.Proofs.YtdbdnabpaadigaaGreat
namespace Go.Proofs.YtdbdnabpaadigaaGreat
theorem fr_self {r : FR} (hw : wfl r.p ∧ wfl r.q) (hok : r.ok = true) : FR.of r.val = r:=by
  obtain ⟨s,p,q⟩:=r
  have hw : wfl p ∧ wfl q:=hw
  have hok : qok s p q = true:=hok
  by_cases hp : p.length = 0
  · have e:=List.length_eq_zero_iff.1 hp
    subst e
    have h : qok s [] q = true:=hok
    have hv : FR.val ⟨s,[],q⟩ = 0:=qval_nil rfl
    unfold qok at h
    split at h
    · rename_i k
      obtain rfl:=k.2
      rw [hv]
      have : s = false:=by simpa using h
      subst this
      unfold FR.of dwords
      rw [if_pos rfl,show (0 : Rat).num.natAbs = 0 from rfl,words_zero];rfl
    · simp at h
  · obtain ⟨_,h3,h4,h5,h6⟩:=qval_parts hw hok hp
    have hp0 : val p ≠ 0:=fun e=>ne_of_len hp (val_eq_zero h3 e)
    have hne : FR.val ⟨s,p,q⟩ ≠ 0:=fun e=>by
      have h5' : (FR.val ⟨s,p,q⟩).num = sg s (val p):=h5
      rw [e] at h5'
      have:=congrArg Int.natAbs h5'
      rw [sg_abs] at this;exact hp0 this.symm
    have hs : decide (FR.val ⟨s,p,q⟩ < 0) = s:=by
      have h5' : (FR.val ⟨s,p,q⟩).num = sg s (val p):=h5
      have h7 : FR.val ⟨s,p,q⟩ < 0 ↔ (FR.val ⟨s,p,q⟩).num < 0:=by
        rw [← Rat.not_le,← Rat.num_nonneg];omega
      rw [Bool.eq_iff_iff,decide_eq_true_iff,h7,h5']
      cases s <;> simp [sg] <;> omega
    unfold FR.of dwords
    rw [if_neg hne,hs]
    have e1 : (FR.val ⟨s,p,q⟩).num.natAbs = val p:=(congrArg Int.natAbs h5).trans sg_abs
    have e2 : (FR.val ⟨s,p,q⟩).den = val q:=h6
    rw [e1,e2,words_val hw.1 h3,words_val hw.2 h4]
theorem FX.self {n : Nat} {r : FR} {v : Value} {G : Gh} (h : (FX n r).t v G) (hok : r.ok = true) : (FX n (FR.of r.val)).t v G:=FX.eq h (fr_self (QR.wf (FX.qr h)) hok).symm
theorem FX.inv {n : Nat} {ra rb rc rd : FR} {k : Int} {j : Nat} {v : Value} {G : Gh} (hck : chkF [ra,rb,rc,rd] = 0) (h : (FX n ([ra,rb,rc,rd].getD ((j + md4 k) % 4) default)).t v G) : (FX n (invF [ra,rb,rc,rd] k j)).t v G:=by
  have hp:=chk_pos hck
  unfold invF;rw [if_pos hck]
  refine FX.self h ?_
  have hlt : (j + md4 k) % 4 < [ra,rb,rc,rd].length:=Nat.mod_lt _ (by decide)
  have hm : [ra,rb,rc,rd].getD ((j + md4 k) % 4) default ∈ [ra,rb,rc,rd]:=by
    rw [List.getD_eq_getElem?_getD,List.getElem?_eq_getElem hlt];exact List.getElem_mem hlt
  have:=List.all_eq_true.1 hp _ hm
  unfold posR at this
  exact (Bool.and_eq_true_iff.1 this).1
section
variable {a b c d A B C D : Rat}
end
end Go.Proofs.YtdbdnabpaadigaaGreat
set_option linter.unusedVariables false
set_option linter.unusedSimpArgs false
namespace Go.Proofs.YtdbdnabpaadigaaGreat
def nearR (x : Rat) (u v : RR) (k : Rat) : RR:=RR.of x + RR.of (-(2 * k)) * u + RR.of 2 * v
theorem rt_sub {x : Rat} {u v : RR} {k m : Rat} : nearR x u v k - nearR x u v m = RR.of (2 * (m - k)) * u:=by
  unfold nearR
  obtain ⟨f,hf,rfl⟩:=RR.rep u;obtain ⟨g,hg,rfl⟩:=RR.rep v
  exact RR.ext fun n=>by grind
theorem near_R {g a b c : FR} (h : [g,a,b,c].all posR = true) (k : Rat) : nearF g a b c k = sgR (nearR (g.val + a.val - (b.val + c.val)) (rt (a.val * g.val)) (rt (b.val * c.val)) k):=surds_sg (pos_nn h).1 (pos_nn h).2
theorem far_R {g a b c : FR} (h : [g,a,b,c].all posR = true) (k : Rat) : farF g a b c k = sgR (nearR (-(g.val + a.val - (b.val + c.val))) (rt (a.val * g.val)) (rt (b.val * c.val)) (-k)):=by
  unfold farF nearR
  rw [show -(g.val + a.val - (b.val + c.val)) = b.val + c.val - (g.val + a.val) by grind,show -(2 * -k) = 2 * k by grind]
  exact surds_sg (pos_nn h).1 (pos_nn h).2
theorem nearR_anti {x : Rat} {u v : RR} (hu : 0 ≤ u) {k m : Rat} (hk : k ≤ m) : sgR (nearR x u v m) ≤ sgR (nearR x u v k):=by
  refine sgR_mono ?_
  rw [RR.le_iff_sub,rt_sub]
  exact RR.mul_nn (RR.of_le (p:=0) |>.2 (by grind)) hu
theorem near_anti {g a b c : FR} (h : [g,a,b,c].all posR = true) {k m : Rat} (hk : k ≤ m) : nearF g a b c m ≤ nearF g a b c k:=by
  rw [near_R h,near_R h];exact nearR_anti (rt_nn _) hk
theorem far_mono {g a b c : FR} (h : [g,a,b,c].all posR = true) {k m : Rat} (hk : k ≤ m) : farF g a b c k ≤ farF g a b c m:=by
  rw [far_R h,far_R h];exact nearR_anti (rt_nn _) (by grind)
def nearV (g a b c k : Rat) : Int:=surdsF (g + a - (b + c)) (-(2 * k)) (a * g) 2 (b * c)
def farV (g a b c k : Rat) : Int:=surdsF (b + c - (g + a)) (2 * k) (a * g) 2 (b * c)
theorem nearV_s2 {g a b c k : Rat} : nearV g a b c k = nearV g a c b k:=by unfold nearV;rw [Rat.add_comm b c,Rat.mul_comm b c]
theorem farV_s1 {g a b c k : Rat} : farV g a b c k = farV a g b c k:=by unfold farV;rw [Rat.add_comm g a,Rat.mul_comm a g]
section
variable {g a b c : Rat}
theorem of_4 (hg : 0 ≤ g) (ha : 0 ≤ a) (hb : 0 ≤ b) (hc : 0 ≤ c) : RR.of (g + a - (b + c)) = rt g * rt g + rt a * rt a - (rt b * rt b + rt c * rt c):=by
  rw [rt_sq hg,rt_sq ha,rt_sq hb,rt_sq hc,RR.of_sub,RR.of_add,RR.of_add]
theorem near_m1 (hg : 0 ≤ g) (ha : 0 ≤ a) (hb : 0 ≤ b) (hbc : b ≤ c) (h : rt c ≤ rt g + rt a + rt b) : nearV g a b c (-1) ≥ 0:=by
  have hc : 0 ≤ c:=by grind
  unfold nearV
  rw [surds_sg (Rat.mul_nonneg ha hg) (Rat.mul_nonneg hb hc),rt_mul ha hg,rt_mul hb hc,of_4 hg ha hb hc]
  have e : rt g * rt g + rt a * rt a - (rt b * rt b + rt c * rt c) + RR.of (-(2 * -1)) * (rt a * rt g) + RR.of 2 * (rt b * rt c) = (rt g + rt a) * (rt g + rt a) - (rt c - rt b) * (rt c - rt b):=by
    generalize rt a = A;generalize rt g = D;generalize rt b = B;generalize rt c = C
    obtain ⟨f,hf,rfl⟩:=RR.rep A;obtain ⟨f1,hf1,rfl⟩:=RR.rep D;obtain ⟨f2,hf2,rfl⟩:=RR.rep B;obtain ⟨f3,hf3,rfl⟩:=RR.rep C
    exact RR.ext fun n=>by grind
  have e2 : (rt g + rt a) - (rt c - rt b) = (rt g + rt a + rt b) - rt c:=by
    generalize rt a = A;generalize rt g = D;generalize rt b = B;generalize rt c = C
    obtain ⟨f,hf,rfl⟩:=RR.rep A;obtain ⟨f1,hf1,rfl⟩:=RR.rep D;obtain ⟨f2,hf2,rfl⟩:=RR.rep B;obtain ⟨f3,hf3,rfl⟩:=RR.rep C
    exact RR.ext fun n=>by grind
  rw [e,← sgR_sq (RR.add_nn (rt_nn _) (rt_nn _)) (RR.le_iff_sub.1 (rt_le hb hbc)),e2]
  exact sgR_ge.2 h
theorem far_p1 (hg : 0 ≤ g) (hga : g ≤ a) (hb : 0 ≤ b) (hc : 0 ≤ c) (h : rt a ≤ rt b + rt c + rt g) : farV g a b c 1 ≥ 0:=by
  have ha : 0 ≤ a:=by grind
  unfold farV
  rw [surds_sg (Rat.mul_nonneg ha hg) (Rat.mul_nonneg hb hc),rt_mul ha hg,rt_mul hb hc,of_4 hb hc hg ha]
  have e : rt b * rt b + rt c * rt c - (rt g * rt g + rt a * rt a) + RR.of (2 * 1) * (rt a * rt g) + RR.of 2 * (rt b * rt c) = (rt b + rt c) * (rt b + rt c) - (rt a - rt g) * (rt a - rt g):=by
    generalize rt a = A;generalize rt g = D;generalize rt b = B;generalize rt c = C
    obtain ⟨f,hf,rfl⟩:=RR.rep A;obtain ⟨f1,hf1,rfl⟩:=RR.rep D;obtain ⟨f2,hf2,rfl⟩:=RR.rep B;obtain ⟨f3,hf3,rfl⟩:=RR.rep C
    exact RR.ext fun n=>by grind
  have e2 : (rt b + rt c) - (rt a - rt g) = (rt b + rt c + rt g) - rt a:=by
    generalize rt a = A;generalize rt g = D;generalize rt b = B;generalize rt c = C
    obtain ⟨f,hf,rfl⟩:=RR.rep A;obtain ⟨f1,hf1,rfl⟩:=RR.rep D;obtain ⟨f2,hf2,rfl⟩:=RR.rep B;obtain ⟨f3,hf3,rfl⟩:=RR.rep C
    exact RR.ext fun n=>by grind
  rw [e,← sgR_sq (RR.add_nn (rt_nn _) (rt_nn _)) (RR.le_iff_sub.1 (rt_le hg hga)),e2]
  exact sgR_ge.2 h
end
theorem sum4 {R : Nat → RR} {i j k m : Nat} (hp : [i,j,k,m].Perm [0,1,2,3]) : R i + R j + R k + R m = R 0 + R 1 + R 2 + R 3:=by
  have hm:=perm4 hp
  simp only [perms4,List.mem_cons,List.not_mem_nil,or_false,List.cons.injEq,and_true] at hm
  haveI : Std.Commutative (α:=RR) (· + ·):=⟨RR.add_comm⟩
  haveI : Std.Associative (α:=RR) (· + ·):=⟨RR.add_assoc⟩
  clear hp
  rcases hm with ⟨rfl,rfl,rfl,rfl⟩ | ⟨rfl,rfl,rfl,rfl⟩ | ⟨rfl,rfl,rfl,rfl⟩ | ⟨rfl,rfl,rfl,rfl⟩ | ⟨rfl,rfl,rfl,rfl⟩ | ⟨rfl,rfl,rfl,rfl⟩ | ⟨rfl,rfl,rfl,rfl⟩ | ⟨rfl,rfl,rfl,rfl⟩ | ⟨rfl,rfl,rfl,rfl⟩ | ⟨rfl,rfl,rfl,rfl⟩ | ⟨rfl,rfl,rfl,rfl⟩ | ⟨rfl,rfl,rfl,rfl⟩ | ⟨rfl,rfl,rfl,rfl⟩ | ⟨rfl,rfl,rfl,rfl⟩ | ⟨rfl,rfl,rfl,rfl⟩ | ⟨rfl,rfl,rfl,rfl⟩ | ⟨rfl,rfl,rfl,rfl⟩ | ⟨rfl,rfl,rfl,rfl⟩ | ⟨rfl,rfl,rfl,rfl⟩ | ⟨rfl,rfl,rfl,rfl⟩ | ⟨rfl,rfl,rfl,rfl⟩ | ⟨rfl,rfl,rfl,rfl⟩ | ⟨rfl,rfl,rfl,rfl⟩ | ⟨rfl,rfl,rfl,rfl⟩
  all_goals ac_rfl
theorem chk_cl {l : List FR} (h : chkF l = 0) : closesF (lk l 3) (lk l 0) (lk l 1) (lk l 2) = true:=by
  cases hc : closesF (lk l 3) (lk l 0) (lk l 1) (lk l 2) with
  | true=>rfl
  | false=>rw [chk16 (chk_pos h) hc] at h;cases h
theorem each_le {l : List FR} (h : chkF l = 0) {t : Nat} (ht : t < 4) : rt ((l.map FR.val).getD t default) + rt ((l.map FR.val).getD t default) ≤ rt ((l.map FR.val).getD 0 default) + rt ((l.map FR.val).getD 1 default) + rt ((l.map FR.val).getD 2 default) + rt ((l.map FR.val).getD 3 default):=by
  have hn : ∀ q,0 ≤ (l.map FR.val).getD q default:=fun q=>by rw [vget];exact vals_pos (chk_pos h) q
  obtain ⟨i,j,k,m,e,hp,b1,b2,b3⟩:=order_ok (l.map FR.val)
  have hc:=chk_cl h
  simp only [lk_get,e] at hc
  have h1:=bef_le b1;have h2:=bef_le b2;have h3:=bef_le b3
  have hc:=(closes_iff (hn m) (hn i) (hn j) (hn k) h3).1 hc
  have hm : t ∈ [i,j,k,m]:=hp.mem_iff.2 (by simp;omega)
  have hle : (l.map FR.val).getD t default ≤ (l.map FR.val).getD m default:=by
    simp only [List.mem_cons,List.not_mem_nil,or_false] at hm
    rcases hm with rfl | rfl | rfl | rfl <;> grind
  have hr:=rt_le (hn t) hle
  refine RR.le_trans (RR.add_le_add hr hr) ?_
  refine RR.le_trans (RR.add_le_add_right hc _) ?_
  rw [sum4 (R:=fun x=>rt ((l.map FR.val).getD x default)) hp]
  exact RR.le_refl _
theorem half4 {p q r x s : RR} (h : x + x ≤ s) (e : s = p + q + r + x) : x ≤ p + q + r:=by
  rw [RR.le_iff_sub] at h ⊢
  have : p + q + r - x = s - (x + x):=by
    subst e
    obtain ⟨f,hf,rfl⟩:=RR.rep p;obtain ⟨f1,hf1,rfl⟩:=RR.rep q;obtain ⟨f2,hf2,rfl⟩:=RR.rep r;obtain ⟨f3,hf3,rfl⟩:=RR.rep x
    exact RR.ext fun n=>by grind
  rwa [this]
theorem near_far_ok {g a b c : FR} (h : chkF [g,a,b,c] = 0) : nearF g a b c (-1) ≥ 0 ∧ farF g a b c 1 ≥ 0:=by
  have hp:=chk_pos h
  simp only [List.all_cons,List.all_nil,Bool.and_true,Bool.and_eq_true] at hp
  have p0:=Rat.le_of_lt (posR_val hp.1);have p1:=Rat.le_of_lt (posR_val hp.2.1);have p2:=Rat.le_of_lt (posR_val hp.2.2.1);have p3:=Rat.le_of_lt (posR_val hp.2.2.2)
  have e0 : rt g.val + rt g.val ≤ rt g.val + rt a.val + rt b.val + rt c.val:=each_le h (t:=0) (by decide)
  have e1 : rt a.val + rt a.val ≤ rt g.val + rt a.val + rt b.val + rt c.val:=each_le h (t:=1) (by decide)
  have e2 : rt b.val + rt b.val ≤ rt g.val + rt a.val + rt b.val + rt c.val:=each_le h (t:=2) (by decide)
  have e3 : rt c.val + rt c.val ≤ rt g.val + rt a.val + rt b.val + rt c.val:=each_le h (t:=3) (by decide)
  haveI : Std.Commutative (α:=RR) (· + ·):=⟨RR.add_comm⟩
  haveI : Std.Associative (α:=RR) (· + ·):=⟨RR.add_assoc⟩
  constructor
  · show nearV g.val a.val b.val c.val (-1) ≥ 0
    rcases Rat.le_total (a:=b.val) (b:=c.val) with k | k
    · exact near_m1 p0 p1 p2 k (half4 e3 (by ac_rfl))
    · rw [nearV_s2];exact near_m1 p0 p1 p3 k (half4 e2 (by ac_rfl))
  · show farV g.val a.val b.val c.val 1 ≥ 0
    rcases Rat.le_total (a:=g.val) (b:=a.val) with k | k
    · exact far_p1 p0 k p2 p3 (half4 e1 (by ac_rfl))
    · rw [farV_s1];exact far_p1 p1 k p2 p3 (half4 e0 (by ac_rfl))
theorem rt_pos {x : Rat} (h : 0 < x) : 0 < rt x:=by
  refine RR.lt_of_ne (rt_nn x) fun e=>?_
  have h2:=rt_sq (Rat.le_of_lt h)
  rw [← e,RR.mul_zero] at h2
  have:=RR.of_inj (p:=0) |>.1 h2
  grind
end Go.Proofs.YtdbdnabpaadigaaGreat
set_option linter.unusedVariables false
set_option linter.unusedSimpArgs false
namespace Go.Proofs.YtdbdnabpaadigaaGreat
section
variable {g a b c : Rat}
end
theorem dir_one {h : Bool} {t : Rat} : dirC h t * dirC h t + dirS h t * dirS h t = 1:=by
  unfold dirC dirS
  cases h with
  | true=>rw [if_pos rfl,if_pos rfl];decide +kernel
  | false =>
    rw [if_neg (by decide),if_neg (by decide)]
    have hd:=one_sq t
    generalize hD : 1 + t * t = D at *
    have e1 : (1 - t * t) / D * ((1 - t * t) / D) + (t + t) / D * ((t + t) / D) = ((1 - t * t) * (1 - t * t) + (t + t) * (t + t)) / (D * D):=by grind
    rw [e1,show (1 - t * t) * (1 - t * t) + (t + t) * (t + t) = D * D by rw [← hD];grind]
    rw [Rat.div_def];exact Rat.mul_inv_cancel _ (by intro e;rcases Rat.mul_eq_zero.1 e with e | e <;> exact hd e)
theorem dir_rng {h : Bool} {t : Rat} : -1 ≤ dirC h t ∧ dirC h t ≤ 1:=by
  have h1:=dir_one (h:=h) (t:=t)
  have sq : ∀ z : Rat,0 ≤ z * z:=fun z=>by
    rcases (Rat.le_total : 0 ≤ z ∨ z ≤ 0) with h | h
    · exact Rat.mul_nonneg h h
    · have:=Rat.mul_nonneg (show 0 ≤ -z by grind) (show 0 ≤ -z by grind);grind
  have h2:=sq (dirS h t)
  generalize dirC h t = x at *
  generalize dirS h t = y at *
  constructor
  · apply Classical.byContradiction;intro e
    have:=Rat.mul_pos (show 0 < -1 - x by grind) (show 0 < -1 - x by grind);grind
  · apply Classical.byContradiction;intro e
    have:=Rat.mul_pos (show 0 < x - 1 by grind) (show 0 < x - 1 by grind);grind
theorem way_cos {g a t : Rat} {h : Bool} : d2F (wayX g a h t) (wayY a h t) = g * g + a * a - 2 * dirC h t * (g * a):=by
  have h1:=dir_one (h:=h) (t:=t)
  unfold d2F wayX wayY
  generalize dirC h t = x at *
  generalize dirS h t = y at *
  have : a * a * (x * x + y * y) = a * a:=by rw [h1];grind
  grind
theorem sqF_pos {g a b c : FR} (hb : [g,a,b,c].all posR = true) : (sqF g a b c).all posR = true:=by
  simp only [List.all_cons,List.all_nil,Bool.and_true,Bool.and_eq_true] at hb
  have h1:=posR_val hb.1;have h2:=posR_val hb.2.1;have h3:=posR_val hb.2.2.1;have h4:=posR_val hb.2.2.2
  simp only [sqF,List.all_cons,List.all_nil,posR_of4,Bool.and_true,Bool.and_eq_true,decide_eq_true_eq]
  exact ⟨Rat.mul_pos h1 h1,Rat.mul_pos h2 h2,h3,h4⟩
theorem dsc_sg {g a b c : FR} (hb : [g,a,b,c].all posR = true) {h : Bool} {t : Rat} : (dsc g a b c h t).num.sign = nearF (FR.of (g.val * g.val)) (FR.of (a.val * a.val)) (FR.of b.val) (FR.of c.val) (dirC h t) * farF (FR.of (g.val * g.val)) (FR.of (a.val * a.val)) (FR.of b.val) (FR.of c.val) (dirC h t):=by
  have hs:=sqF_pos hb
  simp only [List.all_cons,List.all_nil,Bool.and_true,Bool.and_eq_true] at hb
  have h1:=Rat.le_of_lt (posR_val hb.1);have h2:=Rat.le_of_lt (posR_val hb.2.1);have h3:=Rat.le_of_lt (posR_val hb.2.2.1);have h4:=Rat.le_of_lt (posR_val hb.2.2.2)
  rw [near_R hs,far_R hs,← sgR_mul,← sgR_of]
  congr 1
  simp only [FR.of_val]
  unfold dsc discF nearR
  rw [way_cos,rt_mul (Rat.mul_nonneg h2 h2) (Rat.mul_nonneg h1 h1),rt_c h1,rt_c h2]
  have e : RR.of (4 * (b.val * c.val) - (b.val + c.val - (g.val * g.val + a.val * a.val - 2 * dirC h t * (g.val * a.val))) * (b.val + c.val - (g.val * g.val + a.val * a.val - 2 * dirC h t * (g.val * a.val)))) = RR.of 4 * (rt (b.val * c.val) * rt (b.val * c.val)) - RR.of ((b.val + c.val - (g.val * g.val + a.val * a.val - 2 * dirC h t * (g.val * a.val))) * (b.val + c.val - (g.val * g.val + a.val * a.val - 2 * dirC h t * (g.val * a.val)))):=by
    rw [rt_sq (Rat.mul_nonneg h3 h4),← RR.of_mul,← RR.of_sub]
  rw [e]
  generalize rt (b.val * c.val) = X
  generalize dirC h t = k
  obtain ⟨f,hf,rfl⟩:=RR.rep X
  exact RR.ext fun n=>by grind
end Go.Proofs.YtdbdnabpaadigaaGreat
namespace Go.Proofs.YtdbdnabpaadigaaGreat
theorem num_sg (x : Rat) : (x.num.sign = 1 ↔ 0 < x) ∧ (x.num.sign = 0 ↔ x = 0) ∧ (x.num.sign < 0 ↔ x < 0):=by
  have h1:=@rat_pos_iff x;have h2:=@Rat.num_eq_zero x;have h3:=sgn_cases x.num
  refine ⟨by rw [h1];omega,by rw [← h2];omega,?_⟩
  constructor
  · intro h;have : ¬ 0 < x:=fun k=>by have:=h1.1 k;omega
    have : x ≠ 0:=fun e=>by have:=h2.2 e;omega
    grind
  · intro h;have : ¬ 0 < x.num:=fun k=>by have:=h1.2 k;grind
    have : x.num ≠ 0:=fun e=>by have:=h2.1 e;grind
    omega
end Go.Proofs.YtdbdnabpaadigaaGreat
